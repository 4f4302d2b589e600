/- Ranges over functions. -/
import Derived.Test.YtieoaeidlcdggaaGreatDoorAb32
import Derived.RangeFuncCalls
import Derived.RangeFuncSeq
import Derived.RangeFuncNested
set_option linter.unusedSimpArgs false
set_option linter.unusedVariables false
namespace Go.Ab
open Go.RowKit
section
variable {C : Cx} {G : Gl} {s : St} {φ : Phi} {a : Act} {w w' : World}
/-- What is nobody's here may be changed by its owner; and more may be nobody's, if it is new. -/
theorem Inv.swap (hI : Inv C G s φ a w) {G2 : Gl} {a2 : Act} {w2 : World} (h0 : G2.φ0 = G.φ0) (hw0 : G2.w0 = G.w0) (ht : a2.tmps = a.tmps) (hd : a2.defers = G2.ds)
    (hos : w2.os = w.os ∧ w2.tape = w.tape ∧ w2.output = w.output) (hsz : w.heap.size ≤ w2.heap.size) (hb : ∀ b, b < w.heap.size → ¬ G.X b → w2.heap[b]? = w.heap[b]?)
    (hX : ∀ b, b < w.heap.size → G2.X b → G.X b) (hxx : ∀ b, b < G.w0.heap.size → ¬ G2.X b → ¬ G.X b) (hx2 : XOk G2 w2) : Inv C G2 s φ a2 w2 := by
  have im : ∀ b, Imm φ G.X w b → Imm φ G2.X w2 b ∧ w2.heap[b]? = w.heap[b]? := fun b h =>
    ⟨⟨Nat.lt_of_lt_of_le h.1 hsz, h.2.1, fun hx => h.2.2 (hX b h.1 hx)⟩, hb b h.1 h.2.2⟩
  have own : ∀ i b c, φ i = .at b c → w2.heap[b]? = w.heap[b]? := fun i b c hi => hb b (hI.ok.lt i b c hi) (hI.ok.free i b c hi)
  refine ⟨by rw [ht]; exact hI.size, hd, fun t x hx => ?_, fun i blk hl => (hI.hr i blk hl).mono im (own i) (fun _ _ _ h => h) (fun _ h => h),
    ⟨hI.ok.inj, fun i b c hi => Nat.lt_of_lt_of_le (hI.ok.lt i b c hi) hsz, fun i b c hi hx => hI.ok.free i b c hi (hX b (hI.ok.lt i b c hi) hx), hI.ok.dom⟩, hx2, ?_, ?_, ?_⟩
  · have := hI.tm t x hx
    cases x with
    | plain y =>
      show Rel _ _ _ _ _
      rw [ht]
      exact Rel.mono im this _ (fun _ _ _ h => h) (fun _ h => h)
    | gd d want y =>
      refine ⟨fun e => ?_, fun e => ?_⟩
      · rw [ht] at e ⊢
        exact (this.1 e).mono im _ (fun _ _ _ h => h) (fun _ h => h)
      · rw [ht] at e ⊢
        exact this.2 e
  · have hfr := hI.frm
    refine ⟨by rw [hw0]; exact hos.1.trans hfr.os, by rw [hw0]; exact hos.2.1.trans hfr.tape, by rw [hw0]; exact hos.2.2.trans hfr.output, by rw [hw0]; exact Nat.le_trans hfr.size hsz, fun b hb0 hn hx => ?_⟩
    rw [hw0] at hb0 ⊢
    rw [h0] at hn
    have hlt := Nat.lt_of_lt_of_le hb0 hfr.size
    have hx1 := hxx b hb0 hx
    exact (hb b hlt hx1).trans (hfr.block b hb0 hn hx1)
  · rw [h0, hw0]; exact hI.own
  · rw [h0]; exact hI.fix
/-- What grows without touching what was. -/
theorem Inv.grow (hI : Inv C G s φ a w) (h : Below w.heap.size w w') : Inv C G s φ a w' :=
  hI.swap rfl rfl rfl hI.defers ⟨h.os, h.tape, h.output⟩ h.size (fun b hb _ => h.block b hb) (fun _ _ h => h) (fun _ _ h => h)
    (hI.x.to h.size fun b hb => h.block b (hI.x.lt b hb))
end
theorem Rels.get {I : Nat → Prop} {w : World} {φ : Phi} : ∀ {cs : List V} {us : List Value}, Rels I w φ cs us → ∀ {i : Nat} {v : V}, cs[i]? = some v → ∃ u, us[i]? = some u ∧ Rel I w φ v u := fun {cs us} h => by
  induction h with
  | nil => intro i v h; simp at h
  | cons h1 _ ih =>
    intro i v h
    cases i with
    | zero => simp only [List.getElem?_cons_zero, Option.some.injEq] at h; subst h; exact ⟨_, rfl, h1⟩
    | succ i => exact ih h
theorem distinct_nodup : ∀ {l : List Nat}, distinct l = true → l.Nodup
  | [], _ => List.nodup_nil
  | x :: r, h => by
    simp only [distinct, Bool.and_eq_true, Bool.not_eq_true', List.contains_eq_mem, decide_eq_false_iff_not] at h
    exact List.nodup_cons.2 ⟨h.1, distinct_nodup h.2⟩
theorem Rels.free {I I' : Nat → Prop} {w : World} {φ φ' : Phi} (hI : ∀ b, I b → I' b) {cs : List V} {us : List Value} (h : Rels I w φ cs us) : inIdsL (fun _ => false) cs = true → Rels I' w φ' cs us := by
  induction h with
  | nil => exact fun _ => .nil
  | cons h1 _ ih =>
    intro hf
    simp only [inIdsL, Bool.and_eq_true] at hf
    exact .cons (Rel.mono (fun b hb => ⟨hI b hb, rfl⟩) (h1.only hf.1 φ' (fun _ h => by cases h)) _ (fun _ _ _ h => h) (fun _ h => h)) (ih hf.2)
end Go.Ab
