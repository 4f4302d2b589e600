/- From a contract to what a statement is asked. -/
import Derived.Test.YtmeiemdnhjnpcaaAb21
import Derived.WideShapes
import Derived.ProofKit
import Derived.OpenShut
set_option linter.unusedSimpArgs false
set_option linter.unusedVariables false
namespace Go.Ab
open Go.RowKit

abbrev u8 (n : Int) : V := .val (.int .u8 n)
abbrev u16 (n : Int) : V := .val (.int .u16 n)
abbrev u32 (n : Int) : V := .val (.int .u32 n)
abbrev u64 (n : Int) : V := .val (.int .u64 n)
abbrev i8 (n : Int) : V := .val (.int .i8 n)
abbrev i32 (n : Int) : V := .val (.int .i32 n)
abbrev i64 (n : Int) : V := .val (.int .i64 n)
abbrev vb (b : Bool) : V := .val (.bool b)
def TyV (tc : List (Nat × TI)) (n : Nat) (t : TypeId) (x : V) : Prop :=
  match lk tc t with
  | some ti => if isRow ti.desc then ∃ xs, x = .agg true xs ∧ Ty tc n t xs else Ty tc n t [x]
  | none => False
def TyVs (tc : List (Nat × TI)) (n : Nat) : List TypeId → List V → Prop
  | [], [] => True
  | t :: ts, x :: xs => TyV tc n t x ∧ TyVs tc n ts xs
  | _, _ => False
theorem rows_cons {ty : List V → Prop} {n : Nat} {xs : List V} (h : Rows ty (n + 1) xs) : ∃ a b, xs = a ++ b ∧ ty a ∧ Rows ty n b := by
  obtain ⟨rows, h1, rfl, h2⟩ := h
  cases rows with
  | nil => simp at h1
  | cons r rows => exact ⟨r, rows.flatten, by simp, h2 r (by simp), rows, by simpa using h1, rfl, fun r hr => h2 r (by simp [hr])⟩
theorem rows_nil {ty : List V → Prop} {xs : List V} (h : Rows ty 0 xs) : xs = [] := by
  obtain ⟨rows, h1, rfl, h2⟩ := h
  simp at h1
  simp [h1]
theorem rows_drop {ty : List V → Prop} {k : Nat} (hk : ∀ r, ty r → r.length = k) : ∀ {n : Nat} {xs : List V} (_ : Rows ty n xs) (i : Nat) (_ : i < n), ∃ r rest, ty r ∧ xs.drop (i * k) = r ++ rest
  | 0, _, _, _, h => absurd h (Nat.not_lt_zero _)
  | n + 1, _, hr, i, hi => by
    obtain ⟨a, b, rfl, ha, hb⟩ := rows_cons hr
    cases i with
    | zero => exact ⟨a, b, ha, by simp⟩
    | succ i =>
      obtain ⟨r, rest, h1, h2⟩ := rows_drop hk hb i (by omega)
      refine ⟨r, rest, h1, ?_⟩
      rw [← h2, show (i + 1) * k = a.length + i * k by rw [hk a ha, Nat.succ_mul, Nat.add_comm], List.drop_append]
      simp
def noX : Nat → Prop := fun _ => False
section
variable {P : Program} {w w' : World} {tc : List (Nat × TI)} {H : Type} {enc : TypeId × Value → H} {spare : Nat → Bool}
theorem lo_imm {b : Nat} (h : Lo w b) : Imm Phi.emp noX w b := ⟨h, fun _ _ h => (by cases h), fun h => h⟩
theorem arg_rel (hT : TCok P tc) {n : Nat} {t : TypeId} {v : Value} {d : DataW H} {ps : List MemPlace} {r : Reach} {base : Nat} (hv : Value.okWide P w r base t v) (h : DataW.Trod enc P w 0 spare true t v d ps) (hok : tyOk tc n t = true) :
    ∃ x, Rel (Imm Phi.emp noX w) w Phi.emp x v ∧ TyV tc n t x := by
  obtain ⟨fuel, hf⟩ := h
  obtain ⟨xs, hr, hty⟩ := trod_ty hT fuel n t _ _ _ hf hok
  have hr' : RelL (Imm Phi.emp noX w) w Phi.emp xs v.cells.toList := hr.mono (fun b hb => ⟨lo_imm hb, rfl⟩) (fun _ _ _ h => h) (fun _ h => h)
  cases n with
  | zero => simp [tyOk] at hok
  | succ n =>
  unfold tyOk at hok
  split at hok
  case h_2 => cases hok
  rename_i ti hti
  have hd := (hT.get hti).desc
  unfold TyV
  simp only [hti]
  have one : v.cells = #[v] → (isRow ti.desc = false) → xs.length = 1 → ∃ x, Rel (Imm Phi.emp noX w) w Phi.emp x v ∧ (if isRow ti.desc = true then ∃ xs, x = .agg true xs ∧ Ty tc (n + 1) t xs else Ty tc (n + 1) t [x]) := fun hc hrow hl => by
    rw [hc] at hr'
    match xs, hl with
    | [x], _ =>
      have := hr'.2.1 0 (by simp)
      refine ⟨x, by simpa using this, ?_⟩
      rw [hrow]
      exact hty
  have row : (∃ cs, v = .agg cs) → (isRow ti.desc = true) → ∃ x, Rel (Imm Phi.emp noX w) w Phi.emp x v ∧ (if isRow ti.desc = true then ∃ xs, x = .agg true xs ∧ Ty tc (n + 1) t xs else Ty tc (n + 1) t [x]) := fun hc hrow => by
    obtain ⟨cs, rfl⟩ := hc
    refine ⟨.agg true xs, ?_, ?_⟩
    · exact RelL.agg (fl := true) (φ := Phi.emp) (by simpa [bFlat, Value.cells] using hr')
    · rw [if_pos hrow]
      exact ⟨xs, rfl, hty⟩
  have hty' := hty
  unfold Ty at hty'
  simp only [hti] at hty'
  split at hok
  · rename_i hdesc
    rw [hdesc] at hd hty'
    obtain ⟨b, rfl⟩ := Go.WideShapes.okWide_bool hd hv
    obtain ⟨_, rfl⟩ := hty'
    exact one rfl (by rw [hdesc]; rfl) rfl
  · rename_i k hdesc
    rw [hdesc] at hd hty'
    obtain ⟨b, rfl⟩ := Go.WideShapes.okWide_int hd hv
    obtain ⟨_, rfl, _⟩ := hty'
    exact one rfl (by rw [hdesc]; rfl) rfl
  · rename_i hdesc
    rw [hdesc] at hd hty'
    obtain ⟨b, rfl⟩ := Go.WideShapes.okWide_string hd hv
    obtain ⟨_, rfl, _⟩ := hty'
    exact one rfl (by rw [hdesc]; rfl) rfl
  · rename_i fs hdesc
    rw [hdesc] at hd
    refine row ?_ (by rw [hdesc]; rfl)
    simp only [Value.okWide, hd] at hv
    obtain ⟨cs, rfl, _⟩ := hv
    exact ⟨cs, rfl⟩
  · rename_i m e hdesc
    rw [hdesc] at hd
    refine row ?_ (by rw [hdesc]; rfl)
    simp only [Value.okWide, hd] at hv
    obtain ⟨cs, rfl, _⟩ := hv
    exact ⟨cs, rfl⟩
  · rename_i e hdesc
    rw [hdesc] at hd hty'
    obtain ⟨a, l, c, rfl⟩ := Go.WideShapes.okWide_slice hd hv
    obtain ⟨_, _, rfl, _⟩ := hty'
    exact one rfl (by rw [hdesc]; rfl) rfl
  · cases hok

/-- A contract on values that are handed in, as the statement's frame asks it. -/
theorem walk_of {f : FuncId} {xs : List V} {us : List Value} {v : Value} (h : Con P f [] xs [] (.val v)) (hr : Rels (Imm Phi.emp noX w) w Phi.emp xs us) (hg : GOk (Imm Phi.emp noX w) w) : Calls P f us.toArray w fun e w' => e = .returned v ∧ Below w.heap.size w w' := by
  refine (h.2 noX Phi.emp w us ⟨fun i j b c c' h => (by cases h), fun i b c h => (by cases h), fun i b c h => (by cases h), fun i _ => rfl⟩ (fun b h => h.elim) (fun id blk h => by cases h) hr hg).mono ?_
  rintro e w' ⟨u, φ', rfl, hf, _, _, _, hu, _⟩
  refine ⟨by rw [hu.val_inv], ⟨hf.os, hf.tape, hf.output, hf.size, fun k hk => hf.block k hk (fun id c h => by cases h)⟩⟩
end
end Go.Ab
