/- The sum of 16 bits, in plain Lean: one round, eight rounds, a text. No program is named. -/
import Derived.KernelRfl
namespace Go.Proofs.Ytmeiemdnhjnpcaa
namespace Crc

/-- One bit: the sum is shifted, and turned by the polynomial if a bit went out. -/
def rnd (x : Nat) : Nat := (x * 2 % 65536) ^^^ (x / 32768 * 4129 % 65536)
def rnds : Nat → Nat → Nat
  | 0, x => x
  | k + 1, x => rnd (rnds k x)
def step (s b : Nat) : Nat := rnds 8 (s ^^^ (b * 256))
theorem rnd_lt (x : Nat) : rnd x < 65536 := Nat.xor_lt_two_pow (n := 16) (by omega) (by omega)
theorem rnds_lt (k x : Nat) (h : x < 65536) : rnds k x < 65536 := by
  cases k with
  | zero => exact h
  | succ k => exact rnd_lt _
theorem mix_lt (s b : Nat) (hs : s < 65536) (hb : b < 256) : s ^^^ (b * 256) < 65536 := Nat.xor_lt_two_pow (n := 16) (by omega) (by omega)
theorem step_lt (s b : Nat) : step s b < 65536 := rnd_lt _
/-- The sum of a text, from a sum on. -/
def run (s : Nat) (l : List UInt8) : Nat := l.foldl (fun s b => step s b.toNat) s
def sum (l : List UInt8) : Nat := run 65535 l
/-! The rounds are linear. -/
theorem mul2_xor (x y : Nat) : (x ^^^ y) * 2 % 65536 = (x * 2 % 65536) ^^^ (y * 2 % 65536) := by
  apply Nat.eq_of_testBit_eq
  intro i
  rw [show (65536 : Nat) = 2 ^ 16 from rfl, Nat.testBit_xor]
  simp only [Nat.testBit_mod_two_pow]
  have h (z : Nat) : (z * 2).testBit i = (decide (1 ≤ i) && z.testBit (i - 1)) := by
    have := Nat.testBit_mul_two_pow z i 1
    simpa using this
  rw [h, h, h, Nat.testBit_xor]
  cases decide (i < 16) <;> cases decide (1 ≤ i) <;> simp
theorem div_xor (x y : Nat) : (x ^^^ y) / 32768 = (x / 32768) ^^^ (y / 32768) := by
  have := Nat.xor_div_two_pow (a := x) (b := y) (n := 15)
  simpa using this
theorem rnd_xor (x y : Nat) (hx : x < 65536) (hy : y < 65536) : rnd (x ^^^ y) = rnd x ^^^ rnd y := by
  unfold rnd
  rw [mul2_xor, div_xor]
  have h1 : x / 32768 = 0 ∨ x / 32768 = 1 := by omega
  have h2 : y / 32768 = 0 ∨ y / 32768 = 1 := by omega
  rcases h1 with h1 | h1 <;> rcases h2 with h2 | h2 <;> rw [h1, h2]
  · simp
  · simp [Nat.xor_assoc]
  · simp only [Nat.xor_zero, Nat.zero_mul, Nat.zero_mod, Nat.one_mul]
    rw [Nat.xor_assoc, Nat.xor_comm (y * 2 % 65536), ← Nat.xor_assoc]
  · simp only [Nat.xor_self, Nat.zero_mul, Nat.zero_mod, Nat.one_mul, Nat.xor_zero]
    rw [Nat.xor_assoc, Nat.xor_comm (4129 % 65536), Nat.xor_assoc, Nat.xor_self, Nat.xor_zero]
theorem rnds_xor (k x y : Nat) (hx : x < 65536) (hy : y < 65536) : rnds k (x ^^^ y) = rnds k x ^^^ rnds k y := by
  induction k with
  | zero => rfl
  | succ k ih => simp only [rnds]; rw [ih, rnd_xor _ _ (rnds_lt _ _ hx) (rnds_lt _ _ hy)]
theorem rnds_low : ∀ b < 256, rnds 8 b = b * 256 := by decide +kernel

/-! The table. -/
def tab (i : Nat) : Nat := step 0 i
theorem tab_lt (i : Nat) : tab i < 65536 := step_lt _ _
theorem split_byte (s : Nat) : s = (s / 256 * 256) ^^^ (s % 256) := by
  apply Nat.eq_of_testBit_eq
  intro i
  rw [Nat.testBit_xor, show (256 : Nat) = 2 ^ 8 from rfl]
  simp only [Nat.testBit_mod_two_pow, Nat.testBit_mul_two_pow, Nat.testBit_div_two_pow]
  by_cases h : i < 8
  · simp [h, show ¬ 8 ≤ i by omega]
  · simp [h, show 8 ≤ i by omega]
theorem mul_xor (a b : Nat) : (a ^^^ b) * 256 = (a * 256) ^^^ (b * 256) := by
  have := Nat.shiftLeft_xor_distrib (a := a) (b := b) (i := 8)
  simpa [Nat.shiftLeft_eq] using this
/-- One byte, by the table. -/
theorem step_tab (s b : Nat) (hs : s < 65536) (hb : b < 256) : step s b = (s * 256 % 65536) ^^^ tab (s / 256 ^^^ b) := by
  have hx : s / 256 ^^^ b < 256 := Nat.xor_lt_two_pow (n := 8) (by omega) (by omega)
  have e1 : s ^^^ (b * 256) = ((s / 256 ^^^ b) * 256) ^^^ (s % 256) := by
    conv => lhs; rw [split_byte s]
    rw [mul_xor, Nat.xor_assoc, Nat.xor_comm (s % 256), ← Nat.xor_assoc]
  unfold step tab step
  generalize s / 256 ^^^ b = h at *
  have e2 : s * 256 % 65536 = s % 256 * 256 := by omega
  rw [e1, rnds_xor _ _ _ (by omega) (by omega), rnds_low (s % 256) (by omega), Nat.zero_xor, e2, Nat.xor_comm]

/-! Bit by bit. -/
def ser (t bit : Nat) : Nat := (t * 2 % 65536) ^^^ ((t / 32768 ^^^ bit) * 4129)
def serTo (s b : Nat) : Nat → Nat
  | 0 => s
  | k + 1 => ser (serTo s b k) (b / 2 ^ (7 - k) % 2)
theorem ser_eq (t bit : Nat) (ht : t < 65536) (hb : bit < 2) : ser t bit = rnd (t ^^^ bit * 32768) := by
  rw [rnd_xor t _ ht (by omega)]
  have h1 : t / 32768 = 0 ∨ t / 32768 = 1 := by omega
  have h2 : bit = 0 ∨ bit = 1 := by omega
  unfold ser rnd
  rcases h1 with h1 | h1 <;> rcases h2 with h2 | h2 <;> rw [h1, h2] <;> simp [Nat.xor_assoc]
theorem bits_all : ∀ b < 256, ∀ k < 8, b * 2 ^ k % 256 * 256 = ((b / 2 ^ (7 - k) % 2) * 32768) ^^^ (b * 2 ^ k % 128 * 256) ∧ rnd (b * 2 ^ k % 128 * 256) = b * 2 ^ (k + 1) % 256 * 256 := by decide +kernel
theorem inv_step (t r bit low r' : Nat) (ht : t < 65536) (hb : bit < 2) (hl : low < 65536) (h3 : r = bit * 32768 ^^^ low) (h4 : rnd low = r') : rnd (t ^^^ r) = ser t bit ^^^ r' := by
  have hm : t ^^^ bit * 32768 < 65536 := Nat.xor_lt_two_pow (n := 16) (by omega) (by omega)
  rw [h3, ser_eq _ _ ht hb, ← Nat.xor_assoc, rnd_xor _ _ hm hl, h4]
theorem serTo_inv (s b : Nat) (hs : s < 65536) (hb : b < 256) : ∀ k, k ≤ 8 → serTo s b k < 65536 ∧ rnds k (s ^^^ b * 256) = serTo s b k ^^^ (b * 2 ^ k % 256 * 256)
  | 0, _ => ⟨hs, by simp [serTo, rnds, Nat.mod_eq_of_lt hb]⟩
  | k + 1, hk => by
    obtain ⟨h1, h2⟩ := serTo_inv s b hs hb k (by omega)
    obtain ⟨h3, h4⟩ := bits_all b hb k (by omega)
    have hbit : b / 2 ^ (7 - k) % 2 < 2 := Nat.mod_lt _ (by omega)
    have hlow : b * 2 ^ k % 128 * 256 < 65536 := by omega
    refine ⟨?_, ?_⟩
    · simp only [serTo]; rw [ser_eq _ _ h1 hbit]; exact rnd_lt _
    · simp only [serTo, rnds]; rw [h2]; exact inv_step _ _ _ _ _ h1 hbit hlow h3 h4
theorem serTo_8 (s b : Nat) (hs : s < 65536) (hb : b < 256) : serTo s b 8 = step s b := by
  have := (serTo_inv s b hs hb 8 (by omega)).2
  rw [step, this]
  simp [Nat.mul_mod_left]
theorem serTo_lt (s b k : Nat) (hs : s < 65536) (hb : b < 256) (hk : k ≤ 8) : serTo s b k < 65536 := (serTo_inv s b hs hb k hk).1
/-- One bit as the text of the reference has it. -/
theorem ser_odd (t bit : Nat) (ht : t < 65536) (hb : bit < 2) (h : (bit + t / 32768) % 2 = 1) : ser t bit = (t * 2 % 65536) ^^^ 4129 := by
  have h1 : t / 32768 = 0 ∨ t / 32768 = 1 := by omega
  have h2 : bit = 0 ∨ bit = 1 := by omega
  unfold ser
  rcases h1 with h1 | h1 <;> rcases h2 with h2 | h2 <;> rw [h1, h2] at h ⊢ <;> simp at h ⊢
theorem ser_even (t bit : Nat) (ht : t < 65536) (hb : bit < 2) (h : ¬ (bit + t / 32768) % 2 = 1) : ser t bit = t * 2 % 65536 := by
  have h1 : t / 32768 = 0 ∨ t / 32768 = 1 := by omega
  have h2 : bit = 0 ∨ bit = 1 := by omega
  unfold ser
  rcases h1 with h1 | h1 <;> rcases h2 with h2 | h2 <;> rw [h1, h2] at h ⊢ <;> simp at h ⊢

end Crc
end Go.Proofs.Ytmeiemdnhjnpcaa
