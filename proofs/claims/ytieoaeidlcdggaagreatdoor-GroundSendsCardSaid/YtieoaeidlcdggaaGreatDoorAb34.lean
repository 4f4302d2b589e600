/- Ranges over maps, in whatever order. -/
import Derived.Test.YtieoaeidlcdggaaGreatDoorAb33
import Derived.Maps.RangeRun
set_option linter.unusedSimpArgs false
set_option linter.unusedVariables false
namespace Go.Ab
open Go.RowKit
/-- Values that need no memory. -/
def clV : V → Bool
  | .val _ => true
  | .agg _ cs => clVL cs
  | _ => false
  termination_by structural x => x
where clVL : List V → Bool
  | [] => true
  | x :: r => clV x && clVL r
  termination_by structural x => x
theorem clVL_get : ∀ {cs : List V}, clV.clVL cs = true → ∀ (i : Nat) (h : i < cs.length), clV cs[i] = true
  | [], _, i, h => by simp at h
  | x :: r, hc, i, h => by
    rw [clV.clVL, Bool.and_eq_true] at hc
    cases i with
    | zero => exact hc.1
    | succ i => exact clVL_get hc.2 i (by simpa using h)
theorem Rel.closed {I : Nat → Prop} {w : World} {φ : Phi} {x : V} {u : Value} (h : Rel I w φ x u) : clV x = true → ∀ (I' : Nat → Prop) (w' : World) (φ' : Phi), Rel I' w' φ' x u := by
  induction h with
  | val h => exact fun _ _ _ _ => .val h
  | agg hl _ h1 ih =>
    intro hc I' w' φ'
    rw [clV] at hc
    exact .agg hl (fun i hi => ih i hi (clVL_get hc i hi) _ _ _) h1
  | ptr => intro hc; cases hc
  | sl => intro hc; cases hc
  | slnil => intro hc; cases hc
  | vs => intro hc; cases hc
  | vp => intro hc; cases hc
  | tup => intro hc; cases hc
  | clo => intro hc; cases hc
  | mp => intro hc; cases hc
  | bo => intro hc; cases hc
  | top => intro hc; cases hc
section
variable {C : Cx} {G : Gl} {s : St} {φ : Phi} {a : Act} {w w' : World} {ops : List Oper} {hs : List (Nat × Hint)} {sf : St} {Q : Exit → Act → World → Prop}
/-- A part of a region, in the text's order; then what follows. -/
theorem runL_part (hT : TCok C.P C.tc) (rest : List Nat) : ∀ (l : List Oper) (i : Nat) (s : St) (φ : Phi) (a : Act) (w : World) (os : List Prop), (∀ j, j < l.length → ops[i + j]? = l[j]?) → runL C ops hs i s l = some (os, sf) → AllP os → Inv C G s φ a w → (∀ a' w' φ', Inv C G sf φ' a' w' → wpOps C.P ops.toArray Q rest a' w') →
    wpOps C.P ops.toArray Q (List.range' i l.length ++ rest) a w
  | [], i, s, φ, a, w, os, _, h, _, hI, hQ => by
    cases h
    exact hQ a w φ hI
  | o :: r, i, s, φ, a, w, os, hl, h, hos, hI, hQ => by
    have ho : ops[i]? = some o := by simpa using hl 0 (by simp)
    have hr : ∀ j, j < r.length → ops[i + 1 + j]? = r[j]? := fun j hj => by
      have := hl (j + 1) (by simp; omega)
      rw [show i + (j + 1) = i + 1 + j by omega] at this
      simpa using this
    rw [List.length_cons, List.range'_succ, List.cons_append, wpOps_cons]
    unfold runL at h
    split at h
    · split at h
      case h_2 => cases h
      rename_i o1 s' hst
      split at h
      case h_2 => cases h
      rename_i o2 sf' hrun
      cases h
      obtain ⟨p1, p2⟩ := AllP.append.1 hos
      exact stepB_ok hT hI ho hst p1 (fun a' w' φ' hI' => runL_part hT rest r (i + 1) s' φ' a' w' o2 hr hrun p2 hI' hQ)
    · split at h
      case h_2 => cases h
      rename_i o1 r1 s' hst
      split at h
      case h_2 => cases h
      rename_i o2 sf' hrun
      cases h
      obtain ⟨p1, p2⟩ := AllP.append.1 hos
      exact stepD_ok hT hI ho hst p1 (fun a' w' φ' hI' => runL_part hT rest r (i + 1) s' φ' a' w' o2 hr hrun p2 hI' hQ)
/-- What is nobody's here may be changed by its owner, or be let lie as it is for good. -/
theorem Inv.swapF (hI : Inv C G s φ a w) {G2 : Gl} {a2 : Act} {w2 : World} (h0 : G2.φ0 = G.φ0) (hw0 : G2.w0 = G.w0) (ht : a2.tmps = a.tmps) (hd : a2.defers = G2.ds)
    (hsz : w.heap.size ≤ w2.heap.size) (hb : ∀ b, b < w.heap.size → ¬ G.X b → w2.heap[b]? = w.heap[b]?)
    (hX : ∀ b, b < w.heap.size → G2.X b → G.X b) (hx2 : XOk G2 w2) (hfr : FrmX G2 w2) : Inv C G2 s φ a2 w2 := by
  have im : ∀ b, Imm φ G.X w b → Imm φ G2.X w2 b ∧ w2.heap[b]? = w.heap[b]? := fun b h =>
    ⟨⟨Nat.lt_of_lt_of_le h.1 hsz, h.2.1, fun hx => h.2.2 (hX b h.1 hx)⟩, hb b h.1 h.2.2⟩
  have own : ∀ i b c, φ i = .at b c → w2.heap[b]? = w.heap[b]? := fun i b c hi => hb b (hI.ok.lt i b c hi) (hI.ok.free i b c hi)
  refine ⟨by rw [ht]; exact hI.size, hd, fun t x hx => ?_, fun i blk hl => (hI.hr i blk hl).mono im (own i) (fun _ _ _ h => h) (fun _ h => h),
    ⟨hI.ok.inj, fun i b c hi => Nat.lt_of_lt_of_le (hI.ok.lt i b c hi) hsz, fun i b c hi hx => hI.ok.free i b c hi (hX b (hI.ok.lt i b c hi) hx), hI.ok.dom⟩, hx2, hfr, ?_, ?_⟩
  · have := hI.tm t x hx
    cases x with
    | plain y =>
      show Rel _ _ _ _ _
      rw [ht]
      exact Rel.mono im this _ (fun _ _ _ h => h) (fun _ h => h)
    | gd d want y =>
      refine ⟨fun e => ?_, fun e => ?_⟩
      · rw [ht] at e ⊢
        exact (this.1 e).mono im _ (fun _ _ _ h => h) (fun _ h => h)
      · rw [ht] at e ⊢
        exact this.2 e
  · rw [h0, hw0]; exact hI.own
  · rw [h0]; exact hI.fix
/-- A block of one's own is put away among what is nobody's. -/
theorem Inv.hide (hI : Inv C G s φ a w) {l : List Tmp} {ids : List Nat} {sf : St} (hk : keepS l ids s = some sf) {id b : Nat} {c : Option Nat} (hid : φ id = .at b c) (hni : ids.contains id = false) :
    ∃ Gh, Gh.X = (fun y => G.X y ∨ y = b) ∧ Gh.φ0 = G.φ0 ∧ Gh.w0 = G.w0 ∧ Gh.ds = G.ds ∧ Gh.w1 = w ∧ Gh.rd = G.rd ∧ Inv C Gh sf (φ.only (okIds ids)) a w := by
  unfold keepS at hk
  split at hk
  case isFalse => cases hk
  rename_i hc
  cases hk
  simp only [Bool.and_eq_true] at hc
  have hnid : okIds ids id = false := hni
  have hbl : b < w.heap.size := hI.ok.lt _ _ _ hid
  have hold : ∀ y, (y < G.w0.heap.size ∧ (∀ id c, G.φ0 id ≠ .at y c)) → y ≠ b := fun y hy e => by
    subst e
    rcases hI.own _ _ _ hid with ⟨id0, c0, h0⟩ | h0
    · exact hy.2 _ _ h0
    · omega
  have im : ∀ y, Imm φ G.X w y → Imm (φ.only (okIds ids)) (fun y => G.X y ∨ y = b) w y := fun y h => ⟨h.1, (only_imm (ok := okIds ids) h).2.1, fun hx => by
    rcases hx with hx | rfl
    · exact h.2.2 hx
    · exact h.2.1 _ _ hid⟩
  have rel : ∀ {x : V} {u : Value}, Rel (Imm φ G.X w) w φ x u → inIds (okIds ids) x = true → Rel (Imm (φ.only (okIds ids)) (fun y => G.X y ∨ y = b) w) w (φ.only (okIds ids)) x u := fun h hi =>
    (h.only hi (φ.only (okIds ids)) (fun id h _ => by simp [Phi.only, h])).mono (fun y hy => ⟨im y hy, rfl⟩) _ (fun _ _ _ h => h) (fun _ h => h)
  have onl : ∀ {i b' c'}, φ.only (okIds ids) i = .at b' c' → φ i = .at b' c' ∧ okIds ids i = true := fun {i b' c'} h => by
    unfold Phi.only at h
    split at h
    · exact ⟨h, ‹_›⟩
    · cases h
  let Gh : Gl := ⟨fun y => G.X y ∨ y = b, G.φ0, G.w0, G.gok.mono fun y hy => ⟨⟨hy.1, hy.2.1, fun hx => by
    rcases hx with hx | hx
    · exact hy.2.2 hx
    · exact hold y ⟨hy.1, hy.2.1⟩ hx⟩, rfl⟩, G.ds, w, G.rd, fun l' hl' => by
      obtain ⟨h1, r, h2⟩ := G.hrd l' hl'
      exact ⟨.inl h1, r, (hI.x.2.2 l' h1).trans h2⟩⟩
  refine ⟨Gh, rfl, rfl, rfl, rfl, rfl, rfl, ?_⟩
  refine ⟨hI.size, hI.defers, fun t x hx => ?_, fun i blk hl => ?_, ⟨fun i j b c c' hi hj => hI.ok.inj _ _ _ _ _ (onl hi).1 (onl hj).1, fun i b c hi => hI.ok.lt _ _ _ (onl hi).1, fun i b' c' hi hx => ?_, fun i hi => ?_⟩, ⟨fun y hy => ?_, Nat.le_refl _, fun _ _ => rfl⟩, ⟨hI.frm.os, hI.frm.tape, hI.frm.output, hI.frm.size, fun y h1 h2 h3 => hI.frm.block y h1 h2 (fun hx => h3 (.inl hx))⟩, fun i b' c' hi => hI.own _ _ _ (onl hi).1, fun i hb h0 => ?_⟩
  · have h := hI.tm t x (lk_restr hx).2
    have hin := tmIn_get hc.1 hx
    cases x with
    | plain y => exact rel h hin
    | gd d want y => exact ⟨fun e => rel (h.1 e) hin, h.2⟩
  · have hb := HIn_get hc.2 hl
    rw [lk_onlyH] at hl
    split at hl
    · rename_i hok
      have := hI.hr i blk hl
      show BlkRel _ _ _ (if okIds ids i = true then φ i else .none) _
      rw [if_pos hok]
      refine this.to (fun _ _ _ => rfl) (fun x hx u hu => ?_)
      cases hf : blk.flat with
      | true =>
        rw [hf] at hu
        exact Rel.mono (fun y hy => ⟨im y hy, rfl⟩) hu _ (fun _ _ _ h => h) (fun _ h => h)
      | false =>
        rw [hf] at hu
        refine rel hu ?_
        unfold blkIn at hb
        rw [hf] at hb
        obtain ⟨q, hq, rfl⟩ := List.getElem_of_mem hx
        exact inIdsL_get (by simpa using hb) q hq
    · cases hl
  · rcases hx with hx | hx
    · exact hI.ok.free _ _ _ (onl hi).1 hx
    · subst hx
      have := hI.ok.inj _ _ _ _ _ (onl hi).1 hid
      subst this
      rw [(onl hi).2] at hnid
      cases hnid
  · have hi : lk (onlyH (okIds ids) s.H) i = none := hi
    rw [lk_onlyH] at hi
    unfold Phi.only
    split
    · rename_i hok
      rw [if_pos hok] at hi
      exact hI.ok.dom i hi
    · rfl
  · rcases hy with hy | rfl
    · exact hI.x.lt _ hy
    · exact hbl
  · show φ.only _ i = _ ∨ lk (onlyH _ s.H) i = none
    rw [lk_onlyH]
    unfold Phi.only
    split
    · exact hI.fix i hb h0
    · exact .inr rfl
theorem Inv.putTop (hI : Inv C G s φ a w) {s' : St} {d : Tmp} (h : put1 C.n (some d) (.plain .top) [] s = some s') (u : Value) : Inv C G s' φ (a.put (some d) u) w :=
  hI.put h (Gr.refl φ w) (fun tmps _ k _ => Rel.top) (fun id blk h => by cases h)
theorem Inv.putV (hI : Inv C G s φ a w) {s' : St} {d : Tmp} {x : V} {u : Value} (hx : Rel (Imm φ G.X w) w φ x u) (h : put1 C.n (some d) (.plain x) [] s = some s') : Inv C G s' φ (a.put (some d) u) w :=
  hI.put h (Gr.refl φ w) (fun tmps _ k hk => by show Rel _ _ _ _ _; rw [hk]; exact hx) (fun id blk h => by cases h)
end
/-! ### The iterator -/
def iterV (r : Nat) : V := .val (.pointer (some ⟨r, 0, none⟩))
def put2 (n : Nat) (dn dm : Tmp) (s : St) : Option St := (put1 n (some dn) (.plain .top) [] s).bind (put1 n (some dm) (.plain .top) [])
/-- What a round leaves: so much is kept, and it holds again. -/
def NxtM (l : List Tmp) (ids : List Nat) (I : St → Prop) (s : St) : Prop := ∃ s', keepS l ids s = some s' ∧ I s'
def mapK (l : List Tmp) (ids : List Nat) (K : Exit → St → Prop) (I : Nat → List (V × V) → St → Prop) (r : Nat) (R : List (V × V)) (out nxt : Nat) : Exit → St → Prop
  | .normal, s => NxtM l ids (I r R) s
  | .exit id, s => if id = nxt then NxtM l ids (I r R) s else if id = out then K .normal s else K (.exit id) s
  | e, s => K e s
/-- What is so while a range over a map goes on. -/
structure MapIt (G : Gl) (W0 : World) (b r clock : Nat) (es : Array MapEntry) (G1 : Gl) (R : List Nat) : Prop where
  φ0 : G1.φ0 = G.φ0
  w0 : G1.w0 = G.w0
  rd : G1.rd = G.rd
  ds : ∃ Ds : List Nat, G1.ds = Ds.map markD ++ G.ds ∧ (∀ y, G1.X y ↔ (G.X y ∨ y = b ∨ y = r) ∨ y ∈ Ds) ∧ Ds.Nodup ∧ ∀ D ∈ Ds, r < D ∧ G1.w1.heap[D]? = some (.deferred (some []))
  sz : r < G1.w1.heap.size
  x : ∀ y, G.X y → G1.w1.heap[y]? = W0.heap[y]?
  mp : G1.w1.heap[b]? = some (.map es clock)
  it : ∃ seen : Array Nat, G1.w1.heap[r]? = some (.mapIter (some b) clock seen clock) ∧ ∀ j, j ∈ R ↔ ∃ e, es[j]? = some e ∧ e.born ∉ seen
section
variable {C : Cx} {G G1 G2 : Gl} {W0 : World} {b r clock : Nat} {es : Array MapEntry} {R : List Nat}
theorem MapIt.Xb (h : MapIt G W0 b r clock es G1 R) : G1.X b := by
  obtain ⟨Ds, _, h2, _⟩ := h.ds
  exact (h2 b).2 (.inl (.inr (.inl rfl)))
theorem MapIt.Xr (h : MapIt G W0 b r clock es G1 R) : G1.X r := by
  obtain ⟨Ds, _, h2, _⟩ := h.ds
  exact (h2 r).2 (.inl (.inr (.inr rfl)))
theorem MapIt.XG (h : MapIt G W0 b r clock es G1 R) {y : Nat} (hy : G.X y) : G1.X y := by
  obtain ⟨Ds, _, h2, _⟩ := h.ds
  exact (h2 y).2 (.inl (.inl hy))
theorem MapIt.ext (h : MapIt G W0 b r clock es G1 R) (k : GExt G1 G2) : MapIt G W0 b r clock es G2 R := by
  obtain ⟨Ds, d1, d2, d3, d4⟩ := h.ds
  obtain ⟨Es, e1, e2, e3, e4⟩ := k.ds
  obtain ⟨seen, s1, s2⟩ := h.it
  have hD : ∀ D ∈ Ds, D < G1.w1.heap.size := fun D hD => (Array.getElem?_eq_some_iff.1 (d4 D hD).2).1
  refine ⟨k.φ0.trans h.φ0, k.w0.trans h.w0, k.rd.trans h.rd, ⟨Es ++ Ds, by rw [e1, d1, List.map_append, List.append_assoc], fun y => ?_, ?_, fun D hDm => ?_⟩, Nat.lt_of_lt_of_le h.sz k.w1, fun y hy => (k.x y (h.XG hy)).trans (h.x y hy), (k.x b h.Xb).trans h.mp, seen, (k.x r h.Xr).trans s1, s2⟩
  · rw [e2, d2, List.mem_append, or_assoc]
    constructor
    · rintro (h | h | h)
      · exact .inl h
      · exact .inr (.inr h)
      · exact .inr (.inl h)
    · rintro (h | h | h)
      · exact .inl h
      · exact .inr (.inr h)
      · exact .inr (.inl h)
  · refine List.nodup_append.2 ⟨e3, d3, fun x hx y hy e => ?_⟩
    have := (e4 x hx).1
    have := hD y hy
    omega
  · rcases List.mem_append.1 hDm with h1 | h1
    · exact ⟨Nat.lt_of_lt_of_le h.sz (e4 D h1).1, (e4 D h1).2⟩
    · exact ⟨(d4 D h1).1, (k.x D ((d2 D).2 (.inr h1))).trans (d4 D h1).2⟩
/-- The loop is left. -/
theorem MapIt.leave {s0 s' : St} {φ φ' : Phi} {a0 a' : Act} {w' : World} {id : Nat} {c : Option Nat} (hI : Inv C G s0 φ a0 W0) (hid : φ id = .at b c) (hr : r = W0.heap.size) (hW : W0.heap[b]? = some (.map es clock)) (h : MapIt G W0 b r clock es G1 R) (hI1 : Inv C G1 s' φ' a' w') :
    ∃ G', GExt G G' ∧ Inv C G' s' φ' a' w' := by
  obtain ⟨Ds, d1, d2, d3, d4⟩ := h.ds
  have hw0 : G.w0.heap.size ≤ W0.heap.size := hI.frm.size
  have hw1 : G.w1.heap.size ≤ W0.heap.size := hI.x.2.1
  have hsz : r < w'.heap.size := Nat.lt_of_lt_of_le h.sz hI1.x.2.1
  have hbl : b < W0.heap.size := hI.ok.lt _ _ _ hid
  have hXx : ∀ y, G1.X y → w'.heap[y]? = G1.w1.heap[y]? := hI1.x.2.2
  have holdG : ∀ y, G.X y → w'.heap[y]? = G.w1.heap[y]? := fun y hy => (hXx y (h.XG hy)).trans ((h.x y hy).trans (hI.x.2.2 y hy))
  let Gf : Gl := ⟨fun y => G.X y ∨ y ∈ Ds, G.φ0, G.w0, G.gok.mono fun y hy => ⟨⟨hy.1, hy.2.1, fun hx => by
    rcases hx with hx | hx
    · exact hy.2.2 hx
    · have := (d4 y hx).1
      have := hy.1
      omega⟩, rfl⟩, Ds.map markD ++ G.ds, w', G.rd, fun l' hl' => by
      obtain ⟨q1, r1, q2⟩ := G.hrd l' hl'
      exact ⟨.inl q1, r1, (holdG l' q1).trans q2⟩⟩
  refine ⟨Gf, ⟨rfl, rfl, rfl, ⟨Ds, rfl, fun b => Iff.rfl, d3, fun D hD => ⟨by have := (d4 D hD).1; omega, (hXx D ((d2 D).2 (.inr hD))).trans (d4 D hD).2⟩⟩, by show _ ≤ w'.heap.size; omega, holdG⟩, ?_⟩
  refine hI1.swapF (G2 := Gf) h.φ0.symm h.w0.symm rfl (hI1.defers.trans d1) (Nat.le_refl _) (fun _ _ _ => rfl) (fun y _ hy => ?_) ⟨fun y hy => ?_, Nat.le_refl _, fun _ _ => rfl⟩ ⟨?_, ?_, ?_, ?_, fun y hy hn hx => ?_⟩
  · rcases hy with hy | hy
    · exact h.XG hy
    · exact (d2 y).2 (.inr hy)
  · show y < w'.heap.size
    rcases hy with hy | hy
    · have := hI.x.lt y hy
      omega
    · exact hI1.x.lt y ((d2 y).2 (.inr hy))
  · have := hI1.frm.os; rwa [h.w0] at this
  · have := hI1.frm.tape; rwa [h.w0] at this
  · have := hI1.frm.output; rwa [h.w0] at this
  · have := hI1.frm.size; rwa [h.w0] at this
  · have hy' : y < G.w0.heap.size := hy
    by_cases e : y = b
    · subst e
      have hnx : ¬ G.X y := hI.ok.free _ _ _ hid
      have := hI.frm.block y hy' hn hnx
      rw [hXx y h.Xb, h.mp, ← hW, this]
    · have hn1 : ¬ G1.X y := fun hx1 => by
        rcases (d2 y).1 hx1 with (h1 | h1 | h1) | h1
        · exact hx (.inl h1)
        · exact e h1
        · omega
        · exact hx (.inr h1)
      have := hI1.frm.block y (by rw [h.w0]; exact hy') (by rw [h.φ0]; exact hn) hn1
      rwa [h.w0] at this
end
theorem flatP_inj : ∀ {a b : List (V × V)}, flatP a = flatP b → a = b
  | [], [], _ => rfl
  | [], q :: s, h => by simp [flatP] at h
  | p :: r, [], h => by simp [flatP] at h
  | p :: r, q :: s, h => by
    rw [flatP_cons, flatP_cons] at h
    injection h with h1 h2
    injection h2 with h2 h3
    rw [flatP_inj h3, Prod.ext h1 h2]
theorem clVL_iff : ∀ {cs : List V}, clV.clVL cs = true ↔ ∀ x ∈ cs, clV x = true
  | [] => by simp [clV.clVL]
  | x :: r => by rw [clV.clVL, Bool.and_eq_true, clVL_iff]; simp
theorem clVL_perm {a b : List (V × V)} (h : a.Perm b) (hc : clV.clVL (flatP a) = true) : clV.clVL (flatP b) = true :=
  clVL_iff.2 fun x hx => clVL_iff.1 hc x (flatP_perm h hx)
theorem relV_pairs {I : Nat → Prop} {w : World} {φ : Phi} : ∀ {kvs : List (V × V)} {l : List MapEntry}, RelV I w φ (flatP kvs) (l.flatMap fun e => [e.key, e.val]) →
    l.length = kvs.length ∧ ∀ (i : Nat) p, kvs[i]? = some p → ∃ e, l[i]? = some e ∧ Rel I w φ p.1 e.key ∧ Rel I w φ p.2 e.val
  | [], [], _ => ⟨rfl, fun i p h => by simp at h⟩
  | [], e :: l, h => by
    simp only [flatP, List.flatMap_nil, List.flatMap_cons] at h
    cases h
  | p :: r, [], h => by
    simp only [flatP, List.flatMap_nil, List.flatMap_cons] at h
    cases h
  | p :: r, e :: l, h => by
    rw [flatP_cons, List.flatMap_cons] at h
    cases h with
    | cons h1 h2 =>
      cases h2 with
      | cons h3 h4 =>
        obtain ⟨q1, q2⟩ := relV_pairs h4
        refine ⟨by simp [q1], fun i x hx => ?_⟩
        cases i with
        | zero =>
          simp only [List.getElem?_cons_zero, Option.some.injEq] at hx
          subst hx
          exact ⟨e, rfl, h1, h3⟩
        | succ i => exact q2 i x hx
theorem relV_closed {I : Nat → Prop} {w : World} {φ : Phi} {cs : List V} {us : List Value} (h : RelV I w φ cs us) : clV.clVL cs = true → ∀ (I' : Nat → Prop) (w' : World) (φ' : Phi), RelV I' w' φ' cs us := by
  induction h with
  | nil => exact fun _ _ _ _ => .nil
  | cons h1 _ ih =>
    intro hc I' w' φ'
    rw [clV.clVL, Bool.and_eq_true] at hc
    exact .cons (h1.closed hc.1 _ _ _) (ih hc.2 _ _ _)
theorem setB_same {w : World} {r : Nat} {o : Obj} (h : r < w.heap.size) : (ChangeMaps.setBlock w r o).heap[r]? = some o := by simp [ChangeMaps.setBlock, h]
theorem setB_other {w : World} {r y : Nat} {o : Obj} (h : y ≠ r) : (ChangeMaps.setBlock w r o).heap[y]? = w.heap[y]? := by
  simp only [ChangeMaps.setBlock, Array.getElem?_setIfInBounds]
  rw [if_neg (fun e => h e.symm)]
theorem setB_size {w : World} {r : Nat} {o : Obj} : (ChangeMaps.setBlock w r o).heap.size = w.heap.size := by simp [ChangeMaps.setBlock]
theorem stamps_ne {l : List MapEntry} (hp : l.Pairwise fun a b => a.born ≠ b.born) {i j : Nat} {e f : MapEntry} (hi : l[i]? = some e) (hj : l[j]? = some f) (h : e.born = f.born) : i = j := by
  obtain ⟨hi', rfl⟩ := List.getElem?_eq_some_iff.1 hi
  obtain ⟨hj', rfl⟩ := List.getElem?_eq_some_iff.1 hj
  rcases Nat.lt_trichotomy i j with hlt | rfl | hlt
  · exact absurd h (List.pairwise_iff_getElem.1 hp i j hi' hj' hlt)
  · rfl
  · exact absurd h.symm (List.pairwise_iff_getElem.1 hp j i hj' hi' hlt)
theorem wpIn_loopN {F : Fence} {rm : Nat} {P : Program} {Q : Exit → Act → World → Prop} {a : Act} {w : World} {c : Code} (I : Nat → Act → World → Prop) (n₀ : Nat) (h₀ : I n₀ a w)
    (round : ∀ n a w, I n a w → c.wpIn F rm P (Exit.then (fun a' w' => ∃ n', n' < n ∧ I n' a' w') Q) a w) : (Code.loop c).wpIn F rm P Q a w := by
  intro b k cs hro hb hr
  have key : ∀ n a w, I n a w → ∃ e a' w', Q e a' w' ∧ ArrivesIn (Machine.fenced P F) P (lone (b.atR a (.code c :: .inLoop c :: k)) cs w) b k cs e a' w' := by
    intro n
    induction n using Nat.strongRecOn with
    | _ n ih =>
      intro a w hI
      obtain ⟨e, a₁, w₁, hq, harr⟩ := round n a w hI b (.inLoop c :: k) cs hro hb hr
      cases e with
      | normal =>
        obtain ⟨j, hj, hIj⟩ := hq
        obtain ⟨e₂, a₂, w₂, hq₂, harr₂⟩ := ih j hj a₁ w₁ hIj
        exact ⟨e₂, a₂, w₂, hq₂, .of_steps (StepsIn.trans harr (.one (fenced_calm hb hr rfl) stepR_inLoop)) harr₂⟩
      | exit id => exact ⟨_, a₁, w₁, hq, .pass (x := .inLoop c) rfl (fun _ _ => .inl (by simp)) harr⟩
      | goto l => exact ⟨_, a₁, w₁, hq, .pass (x := .inLoop c) rfl (fun _ _ => .inl (by simp)) harr⟩
      | ret => exact ⟨_, a₁, w₁, hq, .pass (x := .inLoop c) rfl (fun _ _ => .inl (by simp)) harr⟩
      | panic ch => exact ⟨_, a₁, w₁, hq, .pass (x := .inLoop c) rfl (fun _ _ => .inl (by simp)) harr⟩
      | outgrown => exact ⟨_, a₁, w₁, hq, .pass (x := .inLoop c) rfl (fun _ _ => .inl (by simp)) harr⟩
  obtain ⟨e, a', w', hq, harr⟩ := key n₀ a w h₀
  exact ⟨e, a', w', hq, .of_steps (.one (fenced_calm hb hr rfl) stepR_loop) harr⟩
/-- What a round of a range over a map is: whatever entry comes that was not there; a, b: the others that are left. -/
def RoundM (C : Cx) (lk2 : List Tmp) (ids2 : List Nat) (K : Exit → St → Prop) (I : Nat → List (V × V) → St → Prop) (dn dm pair : Tmp) (ops2 : List Oper) (body : Code) (out nxt r : Nat) (a b : List (V × V)) (s : St) (p : V × V) : Prop :=
  ∃ s' s2 os hs sf, put2 C.n dn dm s = some s' ∧ put1 C.n (some pair) (.plain (.tup [p.1, p.2])) [] (clSt s') = some s2 ∧ runL C ops2 hs 1 s2 (ops2.drop 1) = some (os, sf) ∧ AllP os ∧ AWP C body sf (mapK lk2 ids2 K I r (a ++ b) out nxt)
/-- **A RANGE OVER A MAP**, whatever the order. -/
theorem AWP.rangeM {C : Cx} {s s1 sk : St} {K : Exit → St → Prop} {ops0 ops1 ops2 : List Oper} {i0 i1 i2 out nxt : Nat} {body : Code} {hs0 : List (Nat × Hint)} {os : List Prop} (hT : TCok C.P C.tc) (n : Nat)
    (hr : runL C ops0 hs0 0 (clSt s) (ops0.take n) = some (os, s1)) (hos : AllP os) {t : TypeId} {x : Operand} {dit dn dm pair : Tmp}
    (h0 : ∃ o, ops0.drop n = [o] ∧ o.op = .range t x ∧ o.dst = some dit ∧ o.guard = none)
    (h1 : ∃ o1 o2, ops1 = [o1, o2] ∧ (o1.op = .next (.tmp dit) false ∧ o1.dst = some dn ∧ o1.guard = none) ∧ o2.op = .extract (.tmp dn) 0 ∧ o2.dst = some dm ∧ o2.guard = none)
    (h2 : ∃ o r, ops2 = o :: r ∧ o.op = .entry (.tmp dit) ∧ o.dst = some pair ∧ o.guard = none)
    (hsz : (((Nat.blt dit C.n && Nat.blt dn C.n) && (Nat.blt dm C.n && Nat.blt pair C.n)) && (!(dit == dn) && !(dit == dm))) = true)
    {kt et : TypeId} {ti : TI} (htd : lk C.tc t = some ti) (htm : ti.desc = .map kt et)
    {id : Nat} {blk : Blk} (hx : rdA s1.tm [] x = some (.mp id)) (hb : lk s1.H id = some blk) (hm : isMp blk = true) (kvs : List (V × V)) (hkv : blk.cells = flatP kvs) (hcl : clV.clVL blk.cells = true)
    (l : List Tmp) (ids : List Nat) (lk2 : List Tmp) (hk : keepS l ids s1 = some sk) (hni : ids.contains id = false)
    (I : Nat → List (V × V) → St → Prop) (hIt : ∀ r R s, I r R s → lk s.tm dit = some (.plain (iterV r)))
    (hst : ∀ r R, kvs.Perm R → ∃ s2, put1 C.n (some dit) (.plain (iterV r)) [] sk = some s2 ∧ I r R s2)
    (hend : ∀ r s, I r [] s → ∃ s', put2 C.n dn dm s = some s' ∧ K .normal s')
    (round : ∀ r x y s p, I r (x ++ p :: y) s → RoundM C lk2 ids K I dn dm pair ops2 body out nxt r x y s p) :
    AWP C (.seq (.region i0 ops0.toArray false) (.block out (.loop (.seq (.region i1 ops1.toArray false) (.seq (.cond (.tmp dm) .skip (.exit out)) (.block nxt (.seq (.region i2 ops2.toArray false) body))))))) s K := by
  simp only [Bool.and_eq_true, Nat.blt_eq, Bool.not_eq_true', beq_eq_false_iff_ne, ne_eq] at hsz
  obtain ⟨⟨⟨z1, z2⟩, z3, z4⟩, z5, z6⟩ := hsz
  constructor
  intro G φ a w N hI
  obtain ⟨ro, g1, g2, g3, g4⟩ := h0
  have hlen : ops0.length = n + 1 := by
    have := congrArg List.length g1
    simp at this
    omega
  have hro : ops0[n]? = some ro := by
    have := congrArg (fun l => l[0]?) g1
    simpa using this
  -- what is ranged over
  refine wpIn_seq (wpIn_mono (Q := fun e a1 w1 => e = .normal ∧ ∃ φ1 a0 W0, Inv C G s1 φ1 a0 W0 ∧ ∃ b c es clock ks', φ1 id = .at b c ∧ W0.heap[b]? = some (.map es clock) ∧ kvs.Perm ks' ∧ RelV (Imm φ1 G.X W0) W0 (bFlat φ1 blk.flat) (flatP ks') (ents es) ∧ Stamps es clock ∧
    a1 = a0.put (some dit) (.pointer (some ⟨W0.heap.size, 0, none⟩)) ∧ w1 = W0.alloc (.mapIter (some b) clock #[] clock)) ?_ ?_)
  · refine wpIn_region (wpOps_in (ds := G.ds) (fun e a1 w1 h => ?_) _ a w hI.defers ?_)
    · obtain ⟨he, φ1, a0, W0, hI0, b, c, es, clock, ks', _, _, _, _, _, ha, _⟩ := h
      refine ⟨he, ?_⟩
      rw [ha]
      show a0.defers.length ≤ _
      rw [hI0.defers]
      exact Nat.le_refl _
    · have e1 : List.range ops0.toArray.size = List.range' 0 (ops0.take n).length ++ [n] := by
        have : (ops0.take n).length = n := by simp; omega
        rw [this, List.range_eq_range', List.size_toArray, hlen, List.range'_concat]
        simp
      rw [e1]
      refine runL_part hT [n] (ops0.take n) 0 (clSt s) φ a w os (fun j hj => ?_) hr hos hI.cl (fun a0 W0 φ1 hI0 => ?_)
      · have hj' : j < n := by simp at hj; omega
        simp [hj']
      · have hv := rdA_ok hI0.gok hI0.tm0 (fun p hp => by simp at hp) _ _ hx
        have hbr := hI0.hr id blk hb
        obtain ⟨b, c, hid, hev⟩ : ∃ b c, φ1 id = .at b c ∧ a0.eval x = .map (some b) := by
          generalize a0.eval x = u at hv
          cases hv with
          | mp h => exact ⟨_, _, h, rfl⟩
        rw [hid] at hbr
        simp only [BlkRel, hm] at hbr
        obtain ⟨_, es, clock, ks, ks', q1, hks, hpm, q2, q3⟩ := hbr
        have hkk : ks = kvs := flatP_inj (hks.symm.trans hkv)
        subst hkk
        rw [wpOps_cons]
        unfold wpOp
        rw [List.getElem?_toArray, hro]
        dsimp only
        rw [if_pos (by simp [Region.wanted, g4])]
        refine .inl ?_
        have ht := hT.get htd
        have hrun := run_range_map (P := C.P) W0 t kt et b es clock (by rw [ht.desc, htm]) q1
        have hex : (execOp a0.eval ro).run C.P W0 = .ok (.value (.pointer (some ⟨W0.heap.size, 0, none⟩))) (W0.alloc (.mapIter (some b) clock #[] clock)) := by
          simp only [execOp, g2, hev, Sem.run_bind, hrun, Result.andThen_ok, Sem.run_pure]
        show Oper.upon C.P ro a0 _ _ ((execOp a0.eval ro).run C.P W0)
        rw [hex, Oper.upon_value, g3]
        exact ⟨rfl, φ1, a0, W0, hI0, b, c, es, clock, ks', hid, q1, hpm, q2, q3, rfl, rfl⟩
  · rintro e a1 w1 ⟨rfl, φ1, a0, W0, hI0, b, c, es, clock, ks', hid, hW, hpm, hrv, hstp, rfl, rfl⟩
    show (Code.block out _).wpIn _ _ _ _ _ _
    have hbl : b < W0.heap.size := hI0.ok.lt _ _ _ hid
    have hW1 : (W0.alloc (.mapIter (some b) clock #[] clock)).heap[b]? = some (.map es clock) := (heap_alloc_old W0 _ hbl).trans hW
    have hWr : (W0.alloc (.mapIter (some b) clock #[] clock)).heap[W0.heap.size]? = some (.mapIter (some b) clock #[] clock) := World.alloc_heap_new W0 _
    have hrvc := relV_closed hrv (by rw [hkv] at hcl; exact clVL_perm hpm hcl)
    have hents : ∀ (I' : Nat → Prop) (w' : World) (φ' : Phi), es.toList.length = ks'.length ∧ ∀ (i : Nat) p, ks'[i]? = some p → ∃ e, es.toList[i]? = some e ∧ Rel I' w' φ' p.1 e.key ∧ Rel I' w' φ' p.2 e.val := fun I' w' φ' => relV_pairs (hrvc I' w' φ')
    have hesl : es.toList.length = ks'.length := (hents (fun _ => True) W0 φ1).1
    -- put away
    obtain ⟨Gh, k1, k2, k3, k4, k5, k6, hIh⟩ := hI0.hide hk hid hni
    obtain ⟨sI, hpI, hI00⟩ := hst W0.heap.size ks' hpm
    have hIa := hIh.putV (d := dit) (x := iterV W0.heap.size) (u := .pointer (some ⟨W0.heap.size, 0, none⟩)) (.val rfl) hpI
    have hG1 : ∃ G1, MapIt G W0 b W0.heap.size clock es G1 (List.range ks'.length) ∧ Inv C G1 sI (φ1.only (okIds ids)) (a0.put (some dit) (.pointer (some ⟨W0.heap.size, 0, none⟩))) (W0.alloc (.mapIter (some b) clock #[] clock)) := by
      have hXh : ∀ y, Gh.X y ↔ (G.X y ∨ y = b) := fun y => by rw [k1]
      have hw0s : Gh.w0.heap.size ≤ W0.heap.size := hIa.frm.size
      let G1 : Gl := ⟨fun y => Gh.X y ∨ y = W0.heap.size, Gh.φ0, Gh.w0, Gh.gok.mono fun y hy => ⟨⟨hy.1, hy.2.1, fun hx => by
        rcases hx with hx | hx
        · exact hy.2.2 hx
        · have := hy.1
          omega⟩, rfl⟩, Gh.ds, W0.alloc (.mapIter (some b) clock #[] clock), Gh.rd, fun l' hl' => by
        obtain ⟨q1, r1, q2⟩ := Gh.hrd l' hl'
        rw [k5] at q2
        exact ⟨.inl q1, r1, (heap_alloc_old W0 _ (hIa.x.lt l' q1)).trans q2⟩⟩
      refine ⟨G1, ⟨k2, k3, k6, ⟨[], by rw [List.map_nil, List.nil_append]; exact k4, fun y => ?_, by simp, fun D hD => by cases hD⟩, ?_, fun y hy => ?_, hW1, #[], hWr, fun j => ?_⟩, ?_⟩
      · show (Gh.X y ∨ y = W0.heap.size) ↔ _
        rw [hXh, or_assoc]
        simp
      · show _ < (W0.alloc _).heap.size
        rw [World.size_alloc]
        omega
      · exact heap_alloc_old W0 _ (hI0.x.lt y hy)
      · rw [List.mem_range]
        constructor
        · intro hj
          rw [← hesl] at hj
          exact ⟨es.toList[j], by rw [← Array.getElem?_toList, List.getElem?_eq_getElem hj], by simp⟩
        · rintro ⟨e, he, _⟩
          rw [← Array.getElem?_toList] at he
          rw [← hesl]
          exact (List.getElem?_eq_some_iff.1 he).1
      · refine hIa.swapF (G2 := G1) rfl rfl rfl hIa.defers (by rw [World.size_alloc]; omega) (fun y hy _ => heap_alloc_old W0 _ hy) (fun y hy hx => ?_) ⟨fun y hy => ?_, Nat.le_refl _, fun _ _ => rfl⟩ ⟨hIa.frm.os, hIa.frm.tape, hIa.frm.output, ?_, fun y hy hn hx => ?_⟩
        · rcases hx with hx | hx
          · exact hx
          · omega
        · show _ < (W0.alloc _).heap.size
          rw [World.size_alloc]
          rcases hy with hy | hy
          · have := hIa.x.lt y hy
            omega
          · omega
        · rw [World.size_alloc]
          show Gh.w0.heap.size ≤ _
          omega
        · have hy' : y < Gh.w0.heap.size := hy
          exact (heap_alloc_old W0 _ (by omega)).trans (hIa.frm.block y hy' hn (fun h => hx (.inl h)))
    obtain ⟨G1, hM, hI1⟩ := hG1
    -- the loop
    have fin : ∀ {G2 : Gl} {R : List Nat} {s' : St} {φ' : Phi} {a' : Act} {w' : World} {e : Exit}, MapIt G W0 b W0.heap.size clock es G2 R → Inv C G2 s' φ' a' w' → K e s' → ∃ s' φ' G', GExt G G' ∧ K e s' ∧ Inv C G' s' φ' a' w' := fun {G2 R s' φ' a' w' e} hM hI' hK => by
      obtain ⟨G', q1, q2⟩ := hM.leave hI0 hid rfl hW hI'
      exact ⟨s', φ', G', q1, hK, q2⟩
    let prs : Nat → V × V := fun j => ks'.getD j (.top, .top)
    have hrng : (List.range ks'.length).map prs = ks' := by
      apply List.ext_getElem (by simp)
      intro i h1 h2
      simp [prs, List.getD_eq_getElem?_getD, List.getElem?_eq_getElem h2]
    rw [← hrng] at hI00
    refine wpIn_block (wpIn_loopN (fun k a2 w2 => ∃ R s2 φ2 G2, R.length = k ∧ MapIt G W0 b W0.heap.size clock es G2 R ∧ I W0.heap.size (R.map prs) s2 ∧ R.Nodup ∧ Inv C G2 s2 φ2 a2 w2) _ ⟨_, sI, _, G1, rfl, hM, hI00, List.nodup_range, hI1⟩ ?_)
    rintro _ a2 w2 ⟨R, s2, φ2, G2, rfl, hM2, hIR, hnd, hI2⟩
    obtain ⟨o1, o2, rfl, ⟨n1, n2, n3⟩, n4, n5, n6⟩ := h1
    obtain ⟨seen, hsr, hsn⟩ := hM2.it
    have hrb := hI2.x.2.2
    have hwr : w2.heap[W0.heap.size]? = some (.mapIter (some b) clock seen clock) := (hrb _ hM2.Xr).trans hsr
    have hwb : w2.heap[b]? = some (.map es clock) := (hrb _ hM2.Xb).trans hM2.mp
    have hit : a2.eval (.tmp dit) = .pointer (some ⟨W0.heap.size, 0, none⟩) := by
      have := hI2.tm dit _ (hIt _ _ _ hIR)
      exact (show Rel _ _ _ (iterV W0.heap.size) _ from this).val_inv
    have hold : ∀ x ∈ es.toList, x.born < clock := hstp.1
    refine wpIn_seq (wpIn_mono (Q := fun e a3 w3 => e = .normal ∧
      ((R = [] ∧ a3 = (a2.put (some dn) (.tuple #[.bool false])).put (some dm) (.bool false) ∧ w3 = w2) ∨
       ∃ (e1 : MapEntry) (j : Nat) (wx : World), es[j]? = some e1 ∧ e1.born ∉ seen ∧ (wx = w2 ∨ wx = w2.drew) ∧ a3 = (a2.put (some dn) (.tuple #[.bool true, e1.key, e1.val])).put (some dm) (.bool true) ∧ w3 = ChangeMaps.setBlock wx W0.heap.size (.mapIter (some b) clock (seen.push e1.born) clock))) ?_ ?_)
    · refine wpIn_region (wpOps_in (ds := G2.ds) (fun e a3 w3 h => ?_) _ a2 w2 hI2.defers ?_)
      · obtain ⟨he, ⟨_, ha, _⟩ | ⟨_, _, _, _, _, _, ha, _⟩⟩ := h <;> refine ⟨he, ?_⟩ <;> rw [ha] <;> show a2.defers.length ≤ _ <;> rw [hI2.defers] <;> exact Nat.le_refl _
      · have e1 : List.range [o1, o2].toArray.size = [0, 1] := rfl
        have step2 : ∀ (v : Value) (us : Array Value) (w3 : World) (T : Act → World → Prop), us[0]? = some v → T ((a2.put (some dn) (.tuple us)).put (some dm) v) w3 →
            wpOps C.P [o1, o2].toArray (fun e a w => e = .normal ∧ T a w) [1] (a2.put (some dn) (.tuple us)) w3 := fun v us w3 T hv hT' => by
          rw [wpOps_cons]
          unfold wpOp
          rw [show ([o1, o2].toArray)[1]? = some o2 from rfl]
          dsimp only
          rw [if_pos (by simp [Region.wanted, n6])]
          refine .inl ?_
          have he : (a2.put (some dn) (.tuple us)).eval (.tmp dn) = .tuple us := by
            show (a2.put (some dn) _).tmps.getD dn undef = _
            rw [put_getD a2 dn _ dn (by rw [hI2.size]; exact z2), if_pos rfl]
          have hex : (execOp (a2.put (some dn) (.tuple us)).eval o2).run C.P w3 = .ok (.value v) w3 := by
            simp only [execOp, n4, he, Instr.extract, Sem.run_bind, Result.andThen_ok, Sem.run_pure, hv]
          show Oper.upon C.P o2 _ _ _ ((execOp (a2.put (some dn) (.tuple us)).eval o2).run C.P w3)
          rw [hex, Oper.upon_value, n5]
          exact ⟨rfl, hT'⟩
        rw [e1, wpOps_cons]
        unfold wpOp
        rw [show ([o1, o2].toArray)[0]? = some o1 from rfl]
        dsimp only
        rw [if_pos (by simp [Region.wanted, n3])]
        refine .inl ?_
        show Oper.upon C.P o1 a2 _ _ ((execOp a2.eval o1).run C.P w2)
        rcases run_next_at (P := C.P) w2 o1.type W0.heap.size b clock clock seen es clock hwr hwb hold (Nat.le_refl _) with ⟨hz, hrun⟩ | ⟨e1, he1, wx, hwx, hrun⟩
        · have hex : (execOp a2.eval o1).run C.P w2 = .ok (.value (.tuple #[.bool false])) w2 := by
            simp only [execOp, n1, hit, Sem.run_bind, hrun, Result.andThen_ok, Sem.run_pure]
          rw [hex, Oper.upon_value, n2]
          refine step2 (.bool false) #[.bool false] w2 _ rfl (.inl ⟨?_, rfl, rfl⟩)
          refine List.eq_nil_iff_forall_not_mem.2 fun j hj => ?_
          obtain ⟨e, he, hb⟩ := (hsn j).1 hj
          have hmem : e ∈ leftOf es seen := by
            unfold leftOf
            rw [Array.mem_filter]
            exact ⟨Array.mem_of_getElem? he, by simpa using hb⟩
          have h0 : leftOf es seen = #[] := Array.eq_empty_of_size_eq_zero hz
          rw [h0] at hmem
          simp at hmem
        · have hex : (execOp a2.eval o1).run C.P w2 = .ok (.value (.tuple #[.bool true, e1.key, e1.val])) (ChangeMaps.setBlock wx W0.heap.size (.mapIter (some b) clock (seen.push e1.born) clock)) := by
            simp only [execOp, n1, hit, Sem.run_bind, hrun, Result.andThen_ok, Sem.run_pure]
          rw [hex, Oper.upon_value, n2]
          have hm1 : e1 ∈ es ∧ e1.born ∉ seen := by
            have : e1 ∈ leftOf es seen := Array.mem_toList_iff.1 he1
            unfold leftOf at this
            rw [Array.mem_filter] at this
            exact ⟨this.1, by simpa using this.2⟩
          obtain ⟨j, hj⟩ := Array.mem_iff_getElem?.1 hm1.1
          exact step2 (.bool true) #[.bool true, e1.key, e1.val] _ _ rfl (.inr ⟨e1, j, wx, hj, hm1.2, hwx, rfl, rfl⟩)
    · rintro e a3 w3 ⟨rfl, h3⟩
      show (Code.seq _ _).wpIn _ _ _ _ _ _
      have hc3 : ∀ (u v : Value), ((a2.put (some dn) u).put (some dm) v).eval (.tmp dm) = v := fun u v => by
        show ((a2.put (some dn) u).put (some dm) v).tmps.getD dm undef = v
        rw [put_getD _ dm v dm (by show ((a2.put (some dn) u).tmps).size > dm; simp [Act.put, hI2.size]; exact z3), if_pos rfl]
      rcases h3 with ⟨hR, rfl, rfl⟩ | ⟨e1, j, wx, hej, hborn, hwx, rfl, rfl⟩
      · subst hR
        refine wpIn_seq (wpIn_cond_false (hc3 _ _) (wpIn_exit ?_))
        obtain ⟨s', hp, hK⟩ := hend _ _ (by simpa using hIR)
        unfold put2 at hp
        obtain ⟨sx, hp1, hp2⟩ := Option.bind_eq_some_iff.1 hp
        simp only [Exit.then, Exit.inBlock, if_true]
        exact fin hM2 ((hI2.putTop hp1 _).putTop hp2 _) hK
      · refine wpIn_seq (wpIn_cond_true (hc3 _ _) (wpIn_skip ?_))
        show (Code.block nxt _).wpIn _ _ _ _ _ _
        have hjR : j ∈ R := (hsn j).2 ⟨e1, hej, hborn⟩
        have hjl : j < ks'.length := by
          rw [← Array.getElem?_toList] at hej
          rw [← hesl]
          exact (List.getElem?_eq_some_iff.1 hej).1
        obtain ⟨Ra, Rb, rfl⟩ := List.append_of_mem hjR
        have hjp : prs j = ks'[j] := by simp [prs, List.getD_eq_getElem?_getD, List.getElem?_eq_getElem hjl]
        rw [List.map_append, List.map_cons, hjp] at hIR
        have hndj : j ∉ Ra ++ Rb ∧ (Ra ++ Rb).Nodup := List.nodup_cons.1 ((List.perm_middle (a := j) (l₁ := Ra) (l₂ := Rb)).nodup_iff.1 hnd)
        have hmemj : ∀ i, i ∈ Ra ++ Rb ↔ i ≠ j ∧ i ∈ Ra ++ j :: Rb := fun i => by
          simp only [List.mem_append, List.mem_cons]
          constructor
          · intro h
            exact ⟨fun e => hndj.1 (by rw [← e]; simpa using h), by rcases h with h | h <;> simp [h]⟩
          · rintro ⟨hne, h | h | h⟩
            · exact .inl h
            · exact absurd h hne
            · exact .inr h
        obtain ⟨s', s3, os2, hs2, sf, hp, hp3, hrun2, hos2, hbody⟩ := round _ _ _ s2 _ hIR
        rw [← List.map_append] at hbody
        unfold put2 at hp
        obtain ⟨sx, hp1, hp2⟩ := Option.bind_eq_some_iff.1 hp
        -- the world behind the step
        generalize hw3 : ChangeMaps.setBlock wx W0.heap.size (.mapIter (some b) clock (seen.push e1.born) clock) = w3
        have hwxh : wx.heap = w2.heap ∧ wx.os = w2.os ∧ wx.tape = w2.tape ∧ wx.output = w2.output := by rcases hwx with rfl | rfl <;> exact ⟨rfl, rfl, rfl, rfl⟩
        have hrlt : W0.heap.size < w2.heap.size := Nat.lt_of_lt_of_le hM2.sz hI2.x.2.1
        have hs3 : w3.heap.size = w2.heap.size := by rw [← hw3, setB_size, hwxh.1]
        have hr3 : w3.heap[W0.heap.size]? = some (.mapIter (some b) clock (seen.push e1.born) clock) := by rw [← hw3]; exact setB_same (by rw [hwxh.1]; exact hrlt)
        have ho3 : ∀ y, y ≠ W0.heap.size → w3.heap[y]? = w2.heap[y]? := fun y hy => by rw [← hw3, setB_other hy, hwxh.1]
        have hXw : ∀ y, G2.X y → y ≠ W0.heap.size → w3.heap[y]? = G2.w1.heap[y]? := fun y hy hn => (ho3 y hn).trans (hrb y hy)
        have hGr : ∀ y, G.X y → y ≠ W0.heap.size := fun y hy e => by
          have := hI0.x.lt y hy
          omega
        obtain ⟨Ds, d1, d2, d3, d4⟩ := hM2.ds
        let G3 : Gl := ⟨G2.X, G2.φ0, G2.w0, G2.gok, G2.ds, w3, G2.rd, fun l' hl' => by
          obtain ⟨q1, r1, q2⟩ := G2.hrd l' hl'
          rw [hM2.rd] at hl'
          obtain ⟨q3, _, _⟩ := G.hrd l' hl'
          exact ⟨q1, r1, (hXw l' q1 (hGr l' q3)).trans q2⟩⟩
        have hM3 : MapIt G W0 b W0.heap.size clock es G3 (Ra ++ Rb) := by
          refine ⟨hM2.φ0, hM2.w0, hM2.rd, ⟨Ds, d1, d2, d3, fun D hD => ⟨(d4 D hD).1, (hXw D ((d2 D).2 (.inr hD)) (by have := (d4 D hD).1; omega)).trans (d4 D hD).2⟩⟩, ?_, fun y hy => (hXw y (hM2.XG hy) (hGr y hy)).trans (hM2.x y hy), (hXw b hM2.Xb (by omega)).trans hM2.mp, _, hr3, fun i => ?_⟩
          · show _ < w3.heap.size
            omega
          · rw [hmemj, hsn i]
            constructor
            · rintro ⟨hij, e, he, hne⟩
              refine ⟨e, he, fun hm => ?_⟩
              rcases Array.mem_push.1 hm with hm | hm
              · exact hne hm
              · rw [← Array.getElem?_toList] at he hej
                exact hij (stamps_ne hstp.2 he hej hm)
            · rintro ⟨e, he, hne⟩
              have hne1 : e.born ∉ seen := fun hm => hne (Array.mem_push.2 (.inl hm))
              refine ⟨fun e' => ?_, e, he, hne1⟩
              subst e'
              rw [hej] at he
              cases he
              exact hne (Array.mem_push.2 (.inr rfl))
        have hI3 : Inv C G3 s2 φ2 a2 w3 := hI2.swap (G2 := G3) rfl rfl rfl hI2.defers (by rw [← hw3]; exact hwxh.2) (by omega) (fun y _ hy => ho3 y (fun e => hy (by rw [e]; exact hM2.Xr))) (fun _ _ h => h) (fun _ _ h => h) ⟨fun y hy => by
          show y < w3.heap.size
          rw [hs3]
          exact hI2.x.lt y hy, Nat.le_refl _, fun _ _ => rfl⟩
        have hI4 := (hI3.putTop hp1 (.tuple #[.bool true, e1.key, e1.val])).putTop hp2 (.bool true)
        generalize ha3 : (a2.put (some dn) (.tuple #[.bool true, e1.key, e1.val])).put (some dm) (.bool true) = a3 at hI4
        have hit3 : a3.eval (.tmp dit) = .pointer (some ⟨W0.heap.size, 0, none⟩) := by
          rw [← ha3, eval_put (by simp [Act.put, hI2.size]; exact z3) (fun e => z6 (by cases e; rfl)), eval_put (by rw [hI2.size]; exact z2) (fun e => z5 (by cases e; rfl))]
          exact hit
        obtain ⟨o3, r3, rfl, n7, n8, n9⟩ := h2
        have hwb3 : w3.heap[b]? = some (.map es clock) := (ho3 b (by omega)).trans hwb
        have hent := run_entry_at (P := C.P) w3 W0.heap.size b clock seen es clock e1 hr3 hwb3 (Array.mem_toList_iff.2 (Array.mem_of_getElem? hej)) (by
          rw [List.nodup_iff_pairwise_ne, List.pairwise_map]
          exact hstp.2)
        obtain ⟨e1', hee, hk1, hk2⟩ := (hents (Imm φ2 G3.X w3) w3 φ2).2 j _ (List.getElem?_eq_getElem hjl)
        rw [Array.getElem?_toList, hej] at hee
        cases hee
        -- the entry, and the assignments
        refine wpIn_block (wpIn_seq (wpIn_mono (Q := fun e a4 w4 => e = .normal ∧ ∃ φ4, Inv C G3 sf φ4 a4 w4) ?_ ?_))
        · refine wpIn_region (wpOps_in (ds := G3.ds) (fun e a4 w4 h => ?_) _ a3 w3 hI4.defers ?_)
          · obtain ⟨he, φ4, h4⟩ := h
            exact ⟨he, by rw [h4.defers]; exact Nat.le_refl _⟩
          · have el : List.range (o3 :: r3).toArray.size = 0 :: (List.range' 1 r3.length ++ []) := by
              simp [List.range_eq_range', List.range'_succ]
            rw [el, wpOps_cons]
            unfold wpOp
            rw [show ((o3 :: r3).toArray)[0]? = some o3 by simp]
            dsimp only
            rw [if_pos (by simp [Region.wanted, n9])]
            refine .inl ?_
            show Oper.upon C.P o3 a3 _ _ ((execOp a3.eval o3).run C.P w3)
            have hex : (execOp a3.eval o3).run C.P w3 = .ok (.value (.tuple #[e1.key, e1.val])) w3 := by
              simp only [execOp, n7, hit3, Sem.run_bind, hent, Result.andThen_ok, Sem.run_pure]
            rw [hex, Oper.upon_value, n8]
            have hI5 : Inv C G3 s3 φ2 (a3.put (some pair) (.tuple #[e1.key, e1.val])) w3 := hI4.cl.putV (.tup (by simp) (fun i hi => by
              rcases i with _ | _ | i
              · exact hk1
              · exact hk2
              · simp at hi; omega)) hp3
            exact runL_part hT [] r3 1 s3 φ2 _ w3 os2 (fun q hq => by rw [Nat.add_comm]; rfl) hrun2 hos2 hI5 (fun a' w' φ' hI' => ⟨rfl, φ', hI'⟩)
        · rintro e a4 w4 ⟨rfl, φ4, hI5⟩
          show (body).wpIn _ _ _ _ _ _
          have hb2 := hbody.run G3 φ4 a4 w4 N hI5
          rw [show G3.rd = G.rd from hM2.rd] at hb2
          refine wpIn_mono hb2 fun e a5 w5 ⟨s5, φ5, G5, hg5, hK5, hI6⟩ => ?_
          have hM5 := hM3.ext hg5
          have again : NxtM lk2 ids (I W0.heap.size ((Ra ++ Rb).map prs)) s5 → ∃ n', n' < (Ra ++ j :: Rb).length ∧ ∃ R' s2 φ2 G2, R'.length = n' ∧ MapIt G W0 b W0.heap.size clock es G2 R' ∧ I W0.heap.size (R'.map prs) s2 ∧ R'.Nodup ∧ Inv C G2 s2 φ2 a5 w5 := fun ⟨s6, hk6, hI7⟩ => by
            obtain ⟨φ6, hI8⟩ := keepS_sim hk6 _ _ _ _ hI6
            exact ⟨_, by simp only [List.length_append, List.length_cons]; omega, Ra ++ Rb, s6, φ6, G5, rfl, hM5, hI7, hndj.2, hI8⟩
          cases e with
          | normal => exact again hK5
          | exit id' =>
            simp only [mapK] at hK5
            show Exit.inBlock nxt _ _ _ _
            simp only [Exit.inBlock]
            by_cases e1 : id' = nxt
            · rw [if_pos e1] at hK5 ⊢
              exact again hK5
            · rw [if_neg e1] at hK5 ⊢
              simp only [Exit.then, Exit.inBlock]
              by_cases e2 : id' = out
              · rw [if_pos e2] at hK5 ⊢
                exact fin hM5 hI6 hK5
              · rw [if_neg e2] at hK5 ⊢
                exact fin hM5 hI6 hK5
          | goto l => exact fin hM5 hI6 hK5
          | ret => exact fin hM5 hI6 hK5
          | panic c => exact fin hM5 hI6 hK5
          | outgrown => exact fin hM5 hI6 hK5
end Go.Ab
