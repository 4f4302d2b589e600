/- What is deleted of a list of items. -/
import Derived.Test.YtlfjnkobnkfioaaRg
import Derived.Test.YtlfjnkobnkfioaaPlnE
namespace Go.Proofs.Ytlfjnkobnkfioaa
open Go.Ab
set_option maxRecDepth 100000
set_option maxHeartbeats 8000000
set_option linter.unusedSimpArgs false
set_option linter.unusedVariables false
section
variable {α : Type} (p : α → Bool)
/-- The first one that goes. -/
def fstP : List α → Nat
  | [] => 0
  | a :: r => if p a then 0 else fstP r + 1
theorem fstP_le : ∀ R : List α, fstP p R ≤ R.length
  | [] => Nat.le_refl _
  | a :: r => by
    have := fstP_le r
    simp only [fstP, List.length_cons]
    split <;> omega
theorem fstP_at : ∀ {R : List α} {i : Nat} {a : α}, R[i]? = some a → i ≤ fstP p R → (p a = false → i + 1 ≤ fstP p R) ∧ (p a = true → fstP p R = i)
  | [], _, _, h, _ => by simp at h
  | b :: r, 0, a, h, _ => by
    simp at h
    subst h
    refine ⟨fun e => ?_, fun e => ?_⟩
    · simp [fstP, e]
    · simp [fstP, e]
  | b :: r, i + 1, a, h, hi => by
    simp only [fstP] at hi ⊢
    split at hi
    · omega
    · rename_i hb
      rw [if_neg hb]
      have := fstP_at (R := r) (i := i) (by simpa using h) (by omega)
      exact ⟨fun e => by have := this.1 e; omega, fun e => by have := this.2 e; omega⟩
/-- What stays. -/
def keepP (R : List α) : List α := R.filter fun a => !p a
theorem fstP_all : ∀ {R : List α}, fstP p R = R.length → keepP p R = R
  | [], _ => rfl
  | a :: r, h => by
    simp only [fstP, List.length_cons] at h
    split at h
    · omega
    · rename_i ha
      unfold keepP
      rw [List.filter_cons, if_pos (by simpa using ha)]
      exact congrArg _ (fstP_all (by omega))
theorem fstP_take : ∀ (R : List α) (i : Nat), i ≤ fstP p R → keepP p (R.take i) = R.take i
  | [], i, h => by simp [keepP]
  | a :: r, 0, h => by simp [keepP]
  | a :: r, i + 1, h => by
    simp only [fstP] at h
    split at h
    · omega
    · rename_i ha
      unfold keepP
      rw [List.take_succ_cons, List.filter_cons, if_pos (by simpa using ha)]
      exact congrArg _ (fstP_take r i (by omega))
/-- What the cells hold while it is deleted: S; kept: i of them, of the first j. -/
structure DelI (R S : List α) (i j : Nat) : Prop where
  len : S.length = R.length
  le : i < j
  kept : S.take i = keepP p (R.take j)
  rest : S.drop j = R.drop j
theorem DelI.no {p : α → Bool} {R S : List α} {i j : Nat} (h : DelI p R S i j) {a : α} (ha : S[j]? = some a) (hn : p a = true) : DelI p R S i (j + 1) := by
  have e : R[j]? = some a := by
    have := congrArg (fun l => l[0]?) h.rest
    simp only [List.getElem?_drop, Nat.add_zero] at this
    rw [← this]; exact ha
  refine ⟨h.len, by have := h.le; omega, ?_, ?_⟩
  · rw [h.kept]
    unfold keepP
    rw [List.take_add_one, e, List.filter_append]
    simp [hn]
  · rw [← List.drop_drop, ← List.drop_drop, h.rest]
theorem DelI.yes {p : α → Bool} {R S : List α} {i j : Nat} (h : DelI p R S i j) {a : α} (ha : S[j]? = some a) (hy : p a = false) (hj : j < R.length) : DelI p R (S.set i a) (i + 1) (j + 1) := by
  have e : R[j]? = some a := by
    have := congrArg (fun l => l[0]?) h.rest
    simp only [List.getElem?_drop, Nat.add_zero] at this
    rw [← this]; exact ha
  have hl := h.len
  have hle := h.le
  refine ⟨by simpa using h.len, by omega, ?_, ?_⟩
  · rw [List.take_add_one, List.take_set_of_le (by omega), h.kept]
    unfold keepP
    rw [List.take_add_one, e, List.filter_append]
    simp [hy, show i < S.length by omega]
  · rw [List.drop_set_of_lt (by omega), ← List.drop_drop, ← List.drop_drop, h.rest]
end
theorem con_pid (a : It) (id : Int) : Con Try.prog 51 [(2000000001, ⟨[u16 id], true, 1, none⟩)] [a.v, .ptr 2000000001 0] [(2000000001, ⟨[u16 id], true, 1, none⟩)] (vb (a.id == id)) := by
  unfold It.v It.row
  refine Con.of (C := ⟨Try.prog, tc, Try.f51.ntmps⟩) [2000000001] tcok Try.func51 rfl rfl (by kernel_rfl) (by kernel_rfl) ?_
  refine AWP.seq ?_
  refine AWP.regionT tcok hmix [] [1, 2, 3] [2000000001, 2] (os := []) (s' := St.mk [(1, tp (V.ptr 2000000001 0)), (2, tp (V.ptr 2 0)), (3, tp (vb false))] [(2, Blk.mk [u32 a.t, u16 a.id, V.vs (u8s a.c) a.k] true 3 none), (2000000001, Blk.mk [u16 id] true 1 none)]) (by kernel_rfl) trivial ?_
  refine xe0 [3] [2000000001] (by kernel_rfl) ?_
  refine AWP.ret ?_
  refine ⟨Or.inr rfl, Eq.trans (b := some ([(2000000001, Blk.mk [u16 id] true 1 none)], vb (a.id == id))) (by kernel_rfl) ?_⟩
  rfl
theorem con_pbt (a : It) (from_ to_ : Int) : Con Try.prog 53 [(2000000001, ⟨[u32 from_], true, 1, none⟩), (2000000002, ⟨[u32 to_], true, 1, none⟩)] [a.v, .ptr 2000000001 0, .ptr 2000000002 0] [(2000000001, ⟨[u32 from_], true, 1, none⟩), (2000000002, ⟨[u32 to_], true, 1, none⟩)] (vb (decide (a.t < from_) || decide (a.t > to_))) := by
  unfold It.v It.row
  refine Con.of (C := ⟨Try.prog, tc, Try.f53.ntmps⟩) [2000000001, 2000000002] tcok Try.func53 rfl rfl (by kernel_rfl) (by kernel_rfl) ?_
  refine AWP.seq ?_
  refine AWP.regionT tcok hmix [] [1, 2, 3, 4] [2000000001, 2000000002, 3] (os := []) (s' := St.mk [(1, tp (V.ptr 2000000001 0)), (2, tp (V.ptr 2000000002 0)), (3, tp (V.ptr 3 0)), (4, tp (vb false))] [(3, Blk.mk [u32 a.t, u16 a.id, V.vs (u8s a.c) a.k] true 3 none), (2000000001, Blk.mk [u32 from_] true 1 none), (2000000002, Blk.mk [u32 to_] true 1 none)]) (by kernel_rfl) trivial ?_
  refine xe0 [4] [2000000001, 2000000002] (by kernel_rfl) ?_
  refine AWP.ret ?_
  refine ⟨Or.inr rfl, Eq.trans (b := some ([(2000000001, Blk.mk [u32 from_] true 1 none), (2000000002, Blk.mk [u32 to_] true 1 none)], vb (decide (a.t < from_) || decide (a.t > to_)))) (by kernel_rfl) ?_⟩
  rfl
end Go.Proofs.Ytlfjnkobnkfioaa
