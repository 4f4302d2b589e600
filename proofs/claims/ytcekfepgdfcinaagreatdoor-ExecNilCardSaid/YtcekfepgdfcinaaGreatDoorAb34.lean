/- Ranges over maps, in whatever order. -/
import Derived.Test.YtcekfepgdfcinaaGreatDoorAb33
import Derived.Maps.RangeRun
set_option linter.unusedSimpArgs false
set_option linter.unusedVariables false
namespace Go.Ab
open Go.RowKit
/-- Values that need no memory. -/
def clV : V → Bool
  | .val _ => true
  | .agg _ cs => clVL cs
  | _ => false
  termination_by structural x => x
where clVL : List V → Bool
  | [] => true
  | x :: r => clV x && clVL r
  termination_by structural x => x
theorem clVL_get : ∀ {cs : List V}, clV.clVL cs = true → ∀ (i : Nat) (h : i < cs.length), clV cs[i] = true
  | [], _, i, h => by simp at h
  | x :: r, hc, i, h => by
    rw [clV.clVL, Bool.and_eq_true] at hc
    cases i with
    | zero => exact hc.1
    | succ i => exact clVL_get hc.2 i (by simpa using h)
theorem Rel.closed {I : Nat → Prop} {w : World} {φ : Phi} {x : V} {u : Value} (h : Rel I w φ x u) : clV x = true → ∀ (I' : Nat → Prop) (w' : World) (φ' : Phi), Rel I' w' φ' x u := by
  induction h with
  | val h => exact fun _ _ _ _ => .val h
  | agg hl _ h1 ih =>
    intro hc I' w' φ'
    rw [clV] at hc
    exact .agg hl (fun i hi => ih i hi (clVL_get hc i hi) _ _ _) h1
  | ptr => intro hc; cases hc
  | sl => intro hc; cases hc
  | slnil => intro hc; cases hc
  | vs => intro hc; cases hc
  | vp => intro hc; cases hc
  | tup => intro hc; cases hc
  | clo => intro hc; cases hc
  | mp => intro hc; cases hc
  | bo => intro hc; cases hc
  | top => intro hc; cases hc
section
variable {C : Cx} {G : Gl} {s : St} {φ : Phi} {a : Act} {w w' : World} {ops : List Oper} {hs : List (Nat × Hint)} {sf : St} {Q : Exit → Act → World → Prop}
/-- What is nobody's here may be changed by its owner, or be let lie as it is for good. -/
theorem Inv.swapF (hI : Inv C G s φ a w) {G2 : Gl} {a2 : Act} {w2 : World} (h0 : G2.φ0 = G.φ0) (hw0 : G2.w0 = G.w0) (ht : a2.tmps = a.tmps) (hd : a2.defers = G2.ds)
    (hsz : w.heap.size ≤ w2.heap.size) (hb : ∀ b, b < w.heap.size → ¬ G.X b → w2.heap[b]? = w.heap[b]?)
    (hX : ∀ b, b < w.heap.size → G2.X b → G.X b) (hx2 : XOk G2 w2) (hfr : FrmX G2 w2) : Inv C G2 s φ a2 w2 := by
  have im : ∀ b, Imm φ G.X w b → Imm φ G2.X w2 b ∧ w2.heap[b]? = w.heap[b]? := fun b h =>
    ⟨⟨Nat.lt_of_lt_of_le h.1 hsz, h.2.1, fun hx => h.2.2 (hX b h.1 hx)⟩, hb b h.1 h.2.2⟩
  have own : ∀ i b c, φ i = .at b c → w2.heap[b]? = w.heap[b]? := fun i b c hi => hb b (hI.ok.lt i b c hi) (hI.ok.free i b c hi)
  refine ⟨by rw [ht]; exact hI.size, hd, fun t x hx => ?_, fun i blk hl => (hI.hr i blk hl).mono im (own i) (fun _ _ _ h => h) (fun _ h => h),
    ⟨hI.ok.inj, fun i b c hi => Nat.lt_of_lt_of_le (hI.ok.lt i b c hi) hsz, fun i b c hi hx => hI.ok.free i b c hi (hX b (hI.ok.lt i b c hi) hx), hI.ok.dom⟩, hx2, hfr, ?_, ?_⟩
  · have := hI.tm t x hx
    cases x with
    | plain y =>
      show Rel _ _ _ _ _
      rw [ht]
      exact Rel.mono im this _ (fun _ _ _ h => h) (fun _ h => h)
    | gd d want y =>
      refine ⟨fun e => ?_, fun e => ?_⟩
      · rw [ht] at e ⊢
        exact (this.1 e).mono im _ (fun _ _ _ h => h) (fun _ h => h)
      · rw [ht] at e ⊢
        exact this.2 e
  · rw [h0, hw0]; exact hI.own
  · rw [h0]; exact hI.fix
end
/-- What is so while a range over a map goes on. -/
structure MapIt (G : Gl) (W0 : World) (b r clock : Nat) (es : Array MapEntry) (G1 : Gl) (R : List Nat) : Prop where
  φ0 : G1.φ0 = G.φ0
  w0 : G1.w0 = G.w0
  rd : G1.rd = G.rd
  ds : ∃ Ds : List Nat, G1.ds = Ds.map markD ++ G.ds ∧ (∀ y, G1.X y ↔ (G.X y ∨ y = b ∨ y = r) ∨ y ∈ Ds) ∧ Ds.Nodup ∧ ∀ D ∈ Ds, r < D ∧ G1.w1.heap[D]? = some (.deferred (some []))
  sz : r < G1.w1.heap.size
  x : ∀ y, G.X y → G1.w1.heap[y]? = W0.heap[y]?
  mp : G1.w1.heap[b]? = some (.map es clock)
  it : ∃ seen : Array Nat, G1.w1.heap[r]? = some (.mapIter (some b) clock seen clock) ∧ ∀ j, j ∈ R ↔ ∃ e, es[j]? = some e ∧ e.born ∉ seen
section
variable {C : Cx} {G G1 G2 : Gl} {W0 : World} {b r clock : Nat} {es : Array MapEntry} {R : List Nat}
theorem MapIt.Xb (h : MapIt G W0 b r clock es G1 R) : G1.X b := by
  obtain ⟨Ds, _, h2, _⟩ := h.ds
  exact (h2 b).2 (.inl (.inr (.inl rfl)))
theorem MapIt.Xr (h : MapIt G W0 b r clock es G1 R) : G1.X r := by
  obtain ⟨Ds, _, h2, _⟩ := h.ds
  exact (h2 r).2 (.inl (.inr (.inr rfl)))
theorem MapIt.XG (h : MapIt G W0 b r clock es G1 R) {y : Nat} (hy : G.X y) : G1.X y := by
  obtain ⟨Ds, _, h2, _⟩ := h.ds
  exact (h2 y).2 (.inl (.inl hy))
theorem MapIt.ext (h : MapIt G W0 b r clock es G1 R) (k : GExt G1 G2) : MapIt G W0 b r clock es G2 R := by
  obtain ⟨Ds, d1, d2, d3, d4⟩ := h.ds
  obtain ⟨Es, e1, e2, e3, e4⟩ := k.ds
  obtain ⟨seen, s1, s2⟩ := h.it
  have hD : ∀ D ∈ Ds, D < G1.w1.heap.size := fun D hD => (Array.getElem?_eq_some_iff.1 (d4 D hD).2).1
  refine ⟨k.φ0.trans h.φ0, k.w0.trans h.w0, k.rd.trans h.rd, ⟨Es ++ Ds, by rw [e1, d1, List.map_append, List.append_assoc], fun y => ?_, ?_, fun D hDm => ?_⟩, Nat.lt_of_lt_of_le h.sz k.w1, fun y hy => (k.x y (h.XG hy)).trans (h.x y hy), (k.x b h.Xb).trans h.mp, seen, (k.x r h.Xr).trans s1, s2⟩
  · rw [e2, d2, List.mem_append, or_assoc]
    constructor
    · rintro (h | h | h)
      · exact .inl h
      · exact .inr (.inr h)
      · exact .inr (.inl h)
    · rintro (h | h | h)
      · exact .inl h
      · exact .inr (.inr h)
      · exact .inr (.inl h)
  · refine List.nodup_append.2 ⟨e3, d3, fun x hx y hy e => ?_⟩
    have := (e4 x hx).1
    have := hD y hy
    omega
  · rcases List.mem_append.1 hDm with h1 | h1
    · exact ⟨Nat.lt_of_lt_of_le h.sz (e4 D h1).1, (e4 D h1).2⟩
    · exact ⟨(d4 D h1).1, (k.x D ((d2 D).2 (.inr h1))).trans (d4 D h1).2⟩
/-- The loop is left. -/
theorem MapIt.leave {s0 s' : St} {φ φ' : Phi} {a0 a' : Act} {w' : World} {id : Nat} {c : Option Nat} (hI : Inv C G s0 φ a0 W0) (hid : φ id = .at b c) (hr : r = W0.heap.size) (hW : W0.heap[b]? = some (.map es clock)) (h : MapIt G W0 b r clock es G1 R) (hI1 : Inv C G1 s' φ' a' w') :
    ∃ G', GExt G G' ∧ Inv C G' s' φ' a' w' := by
  obtain ⟨Ds, d1, d2, d3, d4⟩ := h.ds
  have hw0 : G.w0.heap.size ≤ W0.heap.size := hI.frm.size
  have hw1 : G.w1.heap.size ≤ W0.heap.size := hI.x.2.1
  have hsz : r < w'.heap.size := Nat.lt_of_lt_of_le h.sz hI1.x.2.1
  have hbl : b < W0.heap.size := hI.ok.lt _ _ _ hid
  have hXx : ∀ y, G1.X y → w'.heap[y]? = G1.w1.heap[y]? := hI1.x.2.2
  have holdG : ∀ y, G.X y → w'.heap[y]? = G.w1.heap[y]? := fun y hy => (hXx y (h.XG hy)).trans ((h.x y hy).trans (hI.x.2.2 y hy))
  let Gf : Gl := ⟨fun y => G.X y ∨ y ∈ Ds, G.φ0, G.w0, G.gok.mono fun y hy => ⟨⟨hy.1, hy.2.1, fun hx => by
    rcases hx with hx | hx
    · exact hy.2.2 hx
    · have := (d4 y hx).1
      have := hy.1
      omega⟩, rfl⟩, Ds.map markD ++ G.ds, w', G.rd, fun l' hl' => by
      obtain ⟨q1, r1, q2⟩ := G.hrd l' hl'
      exact ⟨.inl q1, r1, (holdG l' q1).trans q2⟩⟩
  refine ⟨Gf, ⟨rfl, rfl, rfl, ⟨Ds, rfl, fun b => Iff.rfl, d3, fun D hD => ⟨by have := (d4 D hD).1; omega, (hXx D ((d2 D).2 (.inr hD))).trans (d4 D hD).2⟩⟩, by show _ ≤ w'.heap.size; omega, holdG⟩, ?_⟩
  refine hI1.swapF (G2 := Gf) h.φ0.symm h.w0.symm rfl (hI1.defers.trans d1) (Nat.le_refl _) (fun _ _ _ => rfl) (fun y _ hy => ?_) ⟨fun y hy => ?_, Nat.le_refl _, fun _ _ => rfl⟩ ⟨?_, ?_, ?_, ?_, fun y hy hn hx => ?_⟩
  · rcases hy with hy | hy
    · exact h.XG hy
    · exact (d2 y).2 (.inr hy)
  · show y < w'.heap.size
    rcases hy with hy | hy
    · have := hI.x.lt y hy
      omega
    · exact hI1.x.lt y ((d2 y).2 (.inr hy))
  · have := hI1.frm.os; rwa [h.w0] at this
  · have := hI1.frm.tape; rwa [h.w0] at this
  · have := hI1.frm.output; rwa [h.w0] at this
  · have := hI1.frm.size; rwa [h.w0] at this
  · have hy' : y < G.w0.heap.size := hy
    by_cases e : y = b
    · subst e
      have hnx : ¬ G.X y := hI.ok.free _ _ _ hid
      have := hI.frm.block y hy' hn hnx
      rw [hXx y h.Xb, h.mp, ← hW, this]
    · have hn1 : ¬ G1.X y := fun hx1 => by
        rcases (d2 y).1 hx1 with (h1 | h1 | h1) | h1
        · exact hx (.inl h1)
        · exact e h1
        · omega
        · exact hx (.inr h1)
      have := hI1.frm.block y (by rw [h.w0]; exact hy') (by rw [h.φ0]; exact hn) hn1
      rwa [h.w0] at this
end
theorem flatP_inj : ∀ {a b : List (V × V)}, flatP a = flatP b → a = b
  | [], [], _ => rfl
  | [], q :: s, h => by simp [flatP] at h
  | p :: r, [], h => by simp [flatP] at h
  | p :: r, q :: s, h => by
    rw [flatP_cons, flatP_cons] at h
    injection h with h1 h2
    injection h2 with h2 h3
    rw [flatP_inj h3, Prod.ext h1 h2]
end Go.Ab
