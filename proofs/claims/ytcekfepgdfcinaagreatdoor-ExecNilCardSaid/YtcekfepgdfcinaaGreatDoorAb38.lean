/- Known contracts for a run: of bytes ahead of which a table stands. -/
import Derived.Test.YtcekfepgdfcinaaGreatDoorAb37
set_option linter.unusedSimpArgs false
set_option linter.unusedVariables false
namespace Go.Ab
open Go.RowKit
/-- A function of a table (this one) and of one slice of bytes. -/
def tabC (f : FuncId) (tv : List V) (g : List Int → Option (List (Nat × Blk) × V)) : CallF := fun f' Hin ys => match Hin, ys with
  | [], [.agg true t, .vs xs n] => if f' = f then match eqL t tv with
    | true => match u8L xs with
      | some l => if l.length = n then g l else none
      | none => none
    | false => none else none
  | _, _ => none
theorem tabC_ok {P : Program} {f : FuncId} {tv : List V} {g : List Int → Option (List (Nat × Blk) × V)} (h : ∀ l Hout r, BL l → g l = some (Hout, r) → Con P f [] [.agg true tv, .vs (u8s l) l.length] Hout r) : (tabC f tv g).Ok P := fun f' Hin ys Hout r he => by
  unfold tabC at he
  split at he
  · rename_i t xs n
    split at he
    · rename_i e
      subst e
      split at he
      · rename_i ht
        obtain rfl := eqL_ok _ _ ht
        split at he
        · rename_i l hl
          obtain ⟨rfl, hb⟩ := u8L_ok hl
          split at he
          · rename_i e2
            subst e2
            exact h l Hout r hb he
          · cases he
        · cases he
      · cases he
    · cases he
  · cases he
/-- One call whose contract is known. -/
def oneC (f : FuncId) (Hin : List (Nat × Blk)) (ys : List V) (Hout : List (Nat × Blk)) (r : V) : CallF := fun f' Hin' ys' => if f' = f then match eqH Hin' Hin && eqL ys' ys with
  | true => some (Hout, r)
  | false => none else none
theorem oneC_ok {P : Program} {f : FuncId} {Hin : List (Nat × Blk)} {ys : List V} {Hout : List (Nat × Blk)} {r : V} (h : Con P f Hin ys Hout r) : (oneC f Hin ys Hout r).Ok P := fun f' Hin' ys' Ho r' he => by
  unfold oneC at he
  split at he
  · rename_i e
    subst e
    split at he
    · rename_i hb
      rw [Bool.and_eq_true] at hb
      cases he
      rw [eqH_ok hb.1, eqL_ok _ _ hb.2]
      exact h
    · cases he
  · cases he
end Go.Ab
