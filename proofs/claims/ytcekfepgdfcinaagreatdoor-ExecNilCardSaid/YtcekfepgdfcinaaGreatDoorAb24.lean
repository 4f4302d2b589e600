/- Arithmetic as omega reads it. -/
import Derived.Test.YtcekfepgdfcinaaGreatDoorAb23
set_option linter.unusedSimpArgs false
set_option linter.unusedVariables false
namespace Go.Ab
open Go.RowKit
theorem wm_u8 {e : Int} : V.val (.int .u8 (IntKind.wrap .u8 e)) = V.val (.int .u8 (e % 256)) := rfl
theorem shr_eq {k : IntKind} {e c m : Int} (hm : (2 : Int) ^ (min c.toNat k.bits) = m) (h0 : 0 ≤ m) : V.val (.int k (ishr k e c)) = V.val (.int k (e / m)) := by
  unfold ishr
  rw [hm, Int.fdiv_eq_ediv_of_nonneg _ h0]
theorem ofInt_nat {n : Nat} {a : Int} (h0 : 0 ≤ a) (h : a < 2 ^ n) : (BitVec.ofInt n a).toNat = a.toNat := by
  rw [BitVec.toNat_ofInt]
  have : (2 ^ n : Nat) = ((2 : Int) ^ n) := by norm_cast
  rw [Int.emod_eq_of_lt h0 (by omega)]
theorem or_nat (j : Nat) {a b : Int} (h1 : a % (2 ^ j : Nat) = 0) (h2 : 0 ≤ a) (h3 : 0 ≤ b) (h4 : b < (2 ^ j : Nat)) : ((a.toNat ||| b.toNat : Nat) : Int) = a + b := by
  obtain ⟨q, rfl⟩ : ∃ q : Nat, a = ((2 ^ j * q : Nat) : Int) := ⟨(a / (2 ^ j : Nat)).toNat, by
    have hp : (0 : Int) < (2 ^ j : Nat) := by
      have := Nat.two_pow_pos j
      omega
    have hd := Int.mul_ediv_add_emod a (2 ^ j : Nat)
    have hn : 0 ≤ a / (2 ^ j : Nat) := Int.ediv_nonneg h2 (Int.le_of_lt hp)
    rw [h1] at hd
    push_cast at hd hn ⊢
    rw [Int.toNat_of_nonneg hn]
    omega⟩
  have hb : b.toNat < 2 ^ j := by omega
  have := Nat.two_pow_add_eq_or_of_lt hb q
  rw [Int.toNat_natCast, ← this]
  push_cast
  rw [Int.toNat_of_nonneg h3]
theorem ior_u16 (j : Nat) {a b : Int} (h1 : a % (2 ^ j : Nat) = 0) (h2 : 0 ≤ a) (h3 : 0 ≤ b) (h4 : b < (2 ^ j : Nat)) (h5 : a + b < 65536) : V.val (.int .u16 (ior .u16 a b)) = V.val (.int .u16 (a + b)) := by
  unfold ior
  rw [BitVec.toNat_or, ofInt_nat h2 (by show a < 2 ^ 16; omega), ofInt_nat h3 (by show b < 2 ^ 16; omega), or_nat j h1 h2 h3 h4, IntWalk.u16_in _ ⟨by omega, by omega⟩]
theorem shl_u16 {e c m : Int} (hm : (2 : Int) ^ (min c.toNat (IntKind.bits .u16)) = m) (h0 : 0 ≤ e * m) (h1 : e * m < 65536) : V.val (.int .u16 (ishl .u16 e c)) = V.val (.int .u16 (e * m)) := by
  unfold ishl
  rw [hm, IntWalk.u16_in _ ⟨by omega, by omega⟩]
theorem shm_u16 {e c m : Int} (hm : (2 : Int) ^ (min c.toNat (IntKind.bits .u16)) = m) : V.val (.int .u16 (ishl .u16 e c)) = V.val (.int .u16 (e * m % 65536)) := by
  unfold ishl
  rw [hm]
  rfl
theorem ixor_u8_bd (a b : Int) : 0 ≤ ixor .u8 a b ∧ ixor .u8 a b < 256 := by
  have : ixor .u8 a b = (BitVec.ofInt 8 a ^^^ BitVec.ofInt 8 b).toNat % 256 := rfl
  omega
/-- Bytes that nobody writes; a plain slot (short names for printed steps). -/
abbrev B8 (l : List Int) : V := .vs (u8s l) l.length
abbrev tp (x : V) : T := .plain x
end Go.Ab
