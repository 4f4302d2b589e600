/- Arithmetic as omega reads it. -/
import Derived.Test.YtieoaeidlcdggaaGreatDoorAb23
set_option linter.unusedSimpArgs false
set_option linter.unusedVariables false
namespace Go.Ab
open Go.RowKit
theorem wm_u8 {e : Int} : V.val (.int .u8 (IntKind.wrap .u8 e)) = V.val (.int .u8 (e % 256)) := rfl
theorem shr_eq {k : IntKind} {e c m : Int} (hm : (2 : Int) ^ (min c.toNat k.bits) = m) (h0 : 0 ≤ m) : V.val (.int k (ishr k e c)) = V.val (.int k (e / m)) := by
  unfold ishr
  rw [hm, Int.fdiv_eq_ediv_of_nonneg _ h0]
theorem tm_ {k : IntKind} {a b : Int} (h : 0 ≤ a) : V.val (.int k (Int.tmod a b)) = V.val (.int k (a % b)) := by rw [Int.tmod_eq_emod_of_nonneg h]
theorem wtd {k : IntKind} {a b : Int} {v : V} (h : 0 ≤ a) (hw : V.val (.int k (IntKind.wrap k (a / b))) = v) : V.val (.int k (IntKind.wrap k (Int.tdiv a b))) = v := by rw [Int.tdiv_eq_ediv_of_nonneg h]; exact hw
theorem ofInt_nat {n : Nat} {a : Int} (h0 : 0 ≤ a) (h : a < 2 ^ n) : (BitVec.ofInt n a).toNat = a.toNat := by
  rw [BitVec.toNat_ofInt]
  have : (2 ^ n : Nat) = ((2 : Int) ^ n) := by norm_cast
  rw [Int.emod_eq_of_lt h0 (by omega)]
theorem shl_u16 {e c m : Int} (hm : (2 : Int) ^ (min c.toNat (IntKind.bits .u16)) = m) (h0 : 0 ≤ e * m) (h1 : e * m < 65536) : V.val (.int .u16 (ishl .u16 e c)) = V.val (.int .u16 (e * m)) := by
  unfold ishl
  rw [hm, IntWalk.u16_in _ ⟨by omega, by omega⟩]
theorem shm_u16 {e c m : Int} (hm : (2 : Int) ^ (min c.toNat (IntKind.bits .u16)) = m) : V.val (.int .u16 (ishl .u16 e c)) = V.val (.int .u16 (e * m % 65536)) := by
  unfold ishl
  rw [hm]
  rfl
theorem ixor_u8_bd (a b : Int) : 0 ≤ ixor .u8 a b ∧ ixor .u8 a b < 256 := by
  have : ixor .u8 a b = (BitVec.ofInt 8 a ^^^ BitVec.ofInt 8 b).toNat % 256 := rfl
  omega
/-- Bytes that nobody writes; a plain slot (short names for printed steps). -/
abbrev B8 (l : List Int) : V := .vs (u8s l) l.length
abbrev tp (x : V) : T := .plain x
end Go.Ab
