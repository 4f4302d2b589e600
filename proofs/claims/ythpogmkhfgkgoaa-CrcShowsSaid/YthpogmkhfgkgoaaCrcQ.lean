/- What the sum shows, in plain Lean. No program is named but by the words of the walks' texts. -/
import Derived.Test.YthpogmkhfgkgoaaCrcV
namespace Go.Proofs.Ythpogmkhfgkgoaa
namespace Crc

theorem rnd_zero (z : Nat) (hz : z < 65536) (h : rnd z = 0) : z = 0 := by
  unfold rnd at h
  rcases (show z / 32768 = 0 ∨ z / 32768 = 1 by omega) with e | e <;> rw [e] at h
  · simp at h
    omega
  · have h1 : (z * 2 % 65536 ^^^ 1 * 4129 % 65536).testBit 0 = true := by
      rw [Nat.testBit_xor]
      simp [Nat.testBit_zero]
    rw [h] at h1
    simp at h1
theorem rnds_zero (k z : Nat) (hz : z < 65536) (h : rnds k z = 0) : z = 0 := by
  induction k with
  | zero => exact h
  | succ k ih => exact ih (rnd_zero _ (rnds_lt _ _ hz) h)
theorem xor_zero_iff (x y : Nat) : x ^^^ y = 0 ↔ x = y := by
  constructor
  · intro h
    have : x ^^^ y ^^^ y = 0 ^^^ y := by rw [h]
    rwa [Nat.xor_assoc, Nat.xor_self, Nat.xor_zero, Nat.zero_xor] at this
  · rintro rfl
    exact Nat.xor_self _
theorem rnds_inj (k x y : Nat) (hx : x < 65536) (hy : y < 65536) (h : rnds k x = rnds k y) : x = y := by
  have h1 : rnds k (x ^^^ y) = 0 := by rw [rnds_xor _ _ _ hx hy, h, Nat.xor_self]
  exact (xor_zero_iff x y).1 (rnds_zero k _ (Nat.xor_lt_two_pow (n := 16) (by omega) (by omega)) h1)
theorem rnds_nought (k : Nat) : rnds k 0 = 0 := by
  induction k with
  | zero => rfl
  | succ k ih => simp [rnds, ih, rnd]
theorem step_xor (s u b : Nat) (hs : s < 65536) (hu : u < 65536) (hb : b < 256) : step (s ^^^ u) b = step s b ^^^ rnds 8 u := by
  unfold step
  rw [Nat.xor_assoc, Nat.xor_comm u, ← Nat.xor_assoc, rnds_xor _ _ _ (mix_lt s b hs hb) hu]
theorem step_byte (s b d : Nat) (hs : s < 65536) (hb : b < 256) (hd : d < 256) : step s (b ^^^ d) = step s b ^^^ rnds 8 (d * 256) := by
  unfold step
  rw [mul_xor, ← Nat.xor_assoc, rnds_xor _ _ _ (mix_lt s b hs hb) (by omega)]
theorem run_xor (s u : Nat) (l : List UInt8) (hs : s < 65536) (hu : u < 65536) : run (s ^^^ u) l = run s l ^^^ rnds (8 * l.length) u := by
  induction l generalizing s u with
  | nil => rfl
  | cons b l ih =>
    show run (step (s ^^^ u) b.toNat) l = run (step s b.toNat) l ^^^ _
    rw [step_xor _ _ _ hs hu b.toNat_lt, ih _ _ (step_lt _ _) (rnds_lt _ _ hu), ← rnds_add, List.length_cons]
    congr 2
theorem run_inj (s t : Nat) (l : List UInt8) (hs : s < 65536) (ht : t < 65536) (h : run s l = run t l) : s = t := by
  have hx : s ^^^ t < 65536 := Nat.xor_lt_two_pow (n := 16) (by omega) (by omega)
  have e : t = s ^^^ (s ^^^ t) := by rw [← Nat.xor_assoc, Nat.xor_self, Nat.zero_xor]
  rw [e, run_xor _ _ _ hs hx] at h
  have h2 : rnds (8 * l.length) (s ^^^ t) = 0 := by
    generalize rnds (8 * l.length) (s ^^^ t) = r at *
    generalize run s l = q at *
    have : q ^^^ (q ^^^ r) = q ^^^ q := by rw [← h]
    rwa [← Nat.xor_assoc, Nat.xor_self, Nat.zero_xor] at this
  exact (xor_zero_iff s t).1 (rnds_zero _ _ hx h2)
/-- The two bytes of a sum bring it to nought. -/
theorem run_own (a b : Nat) (ha : a < 256) (hb : b < 256) : step (step (a * 256 + b) a) b = 0 := by
  have t0 : tab 0 = 0 := by decide
  rw [step_tab (a * 256 + b) a (by omega) ha, show (a * 256 + b) / 256 = a by omega, Nat.xor_self, t0, Nat.xor_zero, show (a * 256 + b) * 256 % 65536 = b * 256 by omega,
    step_tab _ b (by omega) hb, show b * 256 / 256 = b by omega, Nat.xor_self, t0, Nat.xor_zero]
  omega
theorem sum_withSum (p : List UInt8) : sum (withSum p) = 0 := by
  have h := sum_lt p
  unfold withSum sum
  rw [run_append]
  show step (step (run 65535 p) _) _ = 0
  change sum p < 65536 at h
  have e : sum p = sum p / 256 * 256 + sum p % 256 := by omega
  have e1 : (UInt8.ofNat (sum p / 256)).toNat = sum p / 256 := by simp; omega
  have e2 : (UInt8.ofNat (sum p % 256)).toNat = sum p % 256 := by simp
  have := run_own (sum p / 256) (sum p % 256) (by omega) (by omega)
  rw [← e] at this
  rw [show run 65535 p = sum p from rfl, e1, e2]
  exact this
theorem sum_last2 (ys : List UInt8) (x1 x2 : UInt8) : sum (ys ++ [x1, x2]) = 0 ↔ sum ys = x1.toNat * 256 + x2.toNat := by
  have h1 := x1.toNat_lt
  have h2 := x2.toNat_lt
  have ho := run_own x1.toNat x2.toNat h1 h2
  have e : sum (ys ++ [x1, x2]) = run (sum ys) [x1, x2] := run_append _ _ _
  rw [e]
  constructor
  · intro h
    exact run_inj _ _ [x1, x2] (sum_lt _) (by omega) (by rw [h]; exact ho.symm)
  · intro h
    rw [h]
    exact ho
theorem rightB_iff (xs : List UInt8) : rightB xs = true ↔ 2 ≤ xs.length ∧ sum xs = 0 := by
  by_cases h : 2 ≤ xs.length
  · rw [rightB_last xs h, decide_eq_true_eq, ← sum_last2, ← split_last2 xs h]
    simp [h]
  · simp [rightB, h]
theorem rightB_withSum (p : List UInt8) : rightB (withSum p) = true := by
  rw [rightB_iff, withSum_length, sum_withSum]
  omega
theorem rightB_short (xs : List UInt8) (h : xs.length < 2) : rightB xs = false := by
  simp [rightB]
  omega
theorem take_withSum (p : List UInt8) : (withSum p).take ((withSum p).length - 2) = p := by
  rw [withSum_length]
  simp [withSum]

/-! One byte is turned. -/
theorem sum_turn (p : List UInt8) (i : Nat) (hi : i < p.length) (d : UInt8) :
    sum (p.set i (p[i] ^^^ d)) = sum p ^^^ rnds (8 * (p.length - i)) (d.toNat * 256) := by
  have e1 : p = p.take i ++ p[i] :: p.drop (i + 1) := by rw [List.getElem_cons_drop hi, List.take_append_drop]
  have e2 : p.set i (p[i] ^^^ d) = p.take i ++ (p[i] ^^^ d) :: p.drop (i + 1) := by
    rw [List.set_eq_take_append_cons_drop, if_pos hi]
  have hs := run_lt 65535 (p.take i) (by omega)
  have hb := p[i].toNat_lt
  have hd := d.toNat_lt
  have hx : (p[i] ^^^ d).toNat = p[i].toNat ^^^ d.toNat := by simp
  have hl : (p.drop (i + 1)).length = p.length - i - 1 := by simp; omega
  unfold sum
  rw [e2, run_append]
  conv => rhs; arg 1; rw [e1]
  rw [run_append]
  show run (step (run 65535 (p.take i)) (p[i] ^^^ d).toNat) _ = run (step (run 65535 (p.take i)) p[i].toNat) _ ^^^ _
  rw [hx, step_byte _ _ _ hs hb hd, run_xor _ _ _ (step_lt _ _) (rnds_lt _ _ (by omega)), ← rnds_add, hl]
  congr 2
  omega
theorem sum_turn_iff (p : List UInt8) (i : Nat) (hi : i < p.length) (d : UInt8) : sum p = sum (p.set i (p[i] ^^^ d)) ↔ d = 0 := by
  have hd := d.toNat_lt
  rw [sum_turn p i hi d]
  constructor
  · intro h
    have h2 : rnds (8 * (p.length - i)) (d.toNat * 256) = 0 := by
      generalize rnds (8 * (p.length - i)) (d.toNat * 256) = r at *
      generalize sum p = q at *
      have : q ^^^ q = q ^^^ (q ^^^ r) := by rw [← h]
      rw [← Nat.xor_assoc, Nat.xor_self, Nat.zero_xor] at this
      exact this.symm
    have := rnds_zero _ _ (by omega) h2
    apply UInt8.toNat_inj.1
    simp
    omega
  · rintro rfl
    simp [rnds_nought]

/-! One bit is turned, bit m of the text, the highest of the first byte being number 0. -/
def flip (l : List UInt8) (m : Nat) : List UInt8 := if h : m / 8 < l.length then l.set (m / 8) (l[m / 8] ^^^ UInt8.ofNat (128 / 2 ^ (m % 8))) else l
theorem flip_length (l : List UInt8) (m : Nat) : (flip l m).length = l.length := by unfold flip; split <;> simp
theorem high_bits : ∀ j < 16, rnds j (32768 / 2 ^ j) = 32768 := by decide +kernel
theorem sum_flip (l : List UInt8) (m : Nat) (hm : m < 8 * l.length) : sum (flip l m) = sum l ^^^ rnds (8 * l.length - m) 32768 := by
  have hi : m / 8 < l.length := by omega
  have hj : m % 8 < 8 := Nat.mod_lt _ (by omega)
  unfold flip
  rw [dif_pos hi, sum_turn l _ hi]
  congr 1
  have hp : 128 / 2 ^ (m % 8) ≤ 128 := Nat.div_le_self _ _
  have e1 : (UInt8.ofNat (128 / 2 ^ (m % 8))).toNat = 128 / 2 ^ (m % 8) := by simp; omega
  rw [e1]
  have e2 : 128 / 2 ^ (m % 8) * 256 = 32768 / 2 ^ (m % 8) := by
    have : ∀ j < 8, 128 / 2 ^ j * 256 = 32768 / 2 ^ j := by decide
    exact this _ hj
  rw [e2, show 8 * (l.length - m / 8) = (8 * l.length - m) + m % 8 by omega, rnds_add, high_bits _ (by omega)]
/-- Two different bits, however far apart in a text of some 300 bytes, are shown. -/
def orbit : Nat → Nat → Bool
  | 0, _ => true
  | k + 1, x => (rnd x != 32768) && orbit k (rnd x)
theorem orbit_spec (k : Nat) : ∀ x, orbit k x = true → ∀ d, 0 < d → d ≤ k → rnds d x ≠ 32768 := by
  induction k with
  | zero => intro x _ d h1 h2; omega
  | succ k ih =>
    intro x h d h1 h2
    simp only [orbit, Bool.and_eq_true, bne_iff_ne, ne_eq] at h
    by_cases e : d = 1
    · subst e
      exact h.1
    · have e2 : rnds d x = rnds (d - 1) (rnd x) := by
        have := rnds_add (d - 1) 1 x
        rw [show d - 1 + 1 = d by omega] at this
        exact this
      rw [e2]
      exact ih _ h.2 (d - 1) (by omega) (by omega)
theorem far_apart (d : Nat) (h1 : 0 < d) (h2 : d ≤ 2600) : rnds d 32768 ≠ 32768 :=
  orbit_spec 2600 32768 (by decide +kernel) d h1 h2
theorem two_bits (l : List UInt8) (x y : Nat) (h : sum l = 0) (hl : l.length ≤ 320) (hx : x < 8 * l.length) (hy : y < 8 * l.length) :
    sum (flip (flip l x) y) = 0 ↔ x = y := by
  rw [sum_flip _ _ (by rw [flip_length]; exact hy), flip_length, sum_flip _ _ hx, h, Nat.zero_xor, xor_zero_iff]
  constructor
  · intro he
    by_cases hlt : x < y
    · exfalso
      rw [show 8 * l.length - x = (8 * l.length - y) + (y - x) by omega, rnds_add] at he
      exact far_apart (y - x) (by omega) (by omega) (rnds_inj _ _ _ (rnds_lt _ _ (by omega)) (by omega) he)
    · by_cases hgt : y < x
      · exfalso
        rw [show 8 * l.length - y = (8 * l.length - x) + (x - y) by omega, rnds_add] at he
        exact far_apart (x - y) (by omega) (by omega) (rnds_inj _ _ _ (by omega) (rnds_lt _ _ (by omega)) he).symm
      · omega
  · rintro rfl
    rfl

/-! Some of sixteen bits in a row. -/
/-- After k steps the bits of turn up to k are turned, from bit m on, as far as the text goes. -/
def burst (l : List UInt8) (m : Nat) (turn : Nat) : Nat → List UInt8
  | 0 => l
  | k + 1 => if m + k < 8 * l.length ∧ turn / 2 ^ k % 2 = 1 then flip (burst l m turn k) (m + k) else burst l m turn k
theorem burst_length (l : List UInt8) (m turn k : Nat) : (burst l m turn k).length = l.length := by
  induction k with
  | zero => rfl
  | succ k ih =>
    simp only [burst]
    split
    · rw [flip_length, ih]
    · exact ih
/-- What the bits turned so far come to. -/
def burstV (l : List UInt8) (m turn : Nat) : Nat → Nat
  | 0 => 0
  | k + 1 => if m + k < 8 * l.length ∧ turn / 2 ^ k % 2 = 1 then burstV l m turn k ^^^ (32768 / 2 ^ k) else burstV l m turn k
theorem xor_hi (k : Nat) (hk : k < 16) (v : Nat) (hv : v < 65536) (hd : v % (65536 / 2 ^ k) = 0) : v ^^^ (32768 / 2 ^ k) < 65536 ∧ (v ^^^ (32768 / 2 ^ k)) % (65536 / 2 ^ (k + 1)) = 0 ∧ v ^^^ (32768 / 2 ^ k) ≠ 0 := by
  have e1 : 65536 / 2 ^ k = 2 ^ (16 - k) := by
    have : ∀ k < 16, 65536 / 2 ^ k = 2 ^ (16 - k) := by decide
    exact this k hk
  have e2 : 32768 / 2 ^ k = 2 ^ (15 - k) := by
    have : ∀ k < 16, 32768 / 2 ^ k = 2 ^ (15 - k) := by decide
    exact this k hk
  have e3 : 65536 / 2 ^ (k + 1) = 2 ^ (15 - k) := by
    have : ∀ k < 16, 65536 / 2 ^ (k + 1) = 2 ^ (15 - k) := by decide
    exact this k hk
  have hp : 2 ^ (15 - k) < 65536 := by
    have : ∀ k < 16, 2 ^ (15 - k) < 65536 := by decide
    exact this k hk
  rw [e2, e3]
  rw [e1] at hd
  refine ⟨Nat.xor_lt_two_pow (n := 16) (by omega) (by omega), ?_, ?_⟩
  · have h1 : v % 2 ^ (15 - k) = 0 := by
      have : 2 ^ (16 - k) = 2 ^ (15 - k) * 2 := by rw [← Nat.pow_succ]; congr 1; omega
      rw [this] at hd
      exact Nat.mod_eq_zero_of_dvd (Nat.dvd_trans (Nat.dvd_mul_right _ 2) (Nat.dvd_of_mod_eq_zero hd))
    rw [Nat.xor_mod_two_pow, h1, Nat.mod_self, Nat.xor_self]
  · intro h
    rw [xor_zero_iff] at h
    rw [h] at hd
    have : 2 ^ (15 - k) < 2 ^ (16 - k) := Nat.pow_lt_pow_right (by omega) (by omega)
    rw [Nat.mod_eq_of_lt this] at hd
    have : 0 < 2 ^ (15 - k) := Nat.pow_pos (by omega)
    omega
theorem burst_inv (l : List UInt8) (m turn : Nat) (h : sum l = 0) (hm : m < 8 * l.length) : ∀ k, k ≤ 16 →
    burstV l m turn k < 65536 ∧ burstV l m turn k % (65536 / 2 ^ k) = 0 ∧ sum (burst l m turn k) = rnds (8 * l.length - m) (burstV l m turn k) ∧ (burstV l m turn k = 0 → burst l m turn k = l)
  | 0, _ => ⟨by simp [burstV], by simp [burstV], by simp [burst, burstV, h, rnds_nought], fun _ => rfl⟩
  | k + 1, hk => by
    obtain ⟨h1, h2, h3, h4⟩ := burst_inv l m turn h hm k (by omega)
    by_cases hc : m + k < 8 * l.length ∧ turn / 2 ^ k % 2 = 1
    · obtain ⟨g1, g2, g3⟩ := xor_hi k (by omega) _ h1 h2
      simp only [burst, burstV, if_pos hc]
      refine ⟨g1, g2, ?_, fun e => absurd e g3⟩
      have hp : 32768 / 2 ^ k ≤ 32768 := Nat.div_le_self _ _
      rw [sum_flip _ _ (by rw [burst_length]; exact hc.1), burst_length, h3, rnds_xor _ _ _ h1 (by omega)]
      congr 1
      rw [show 8 * l.length - m = (8 * l.length - (m + k)) + k by omega, rnds_add, high_bits k (by omega)]
    · simp only [burst, burstV, if_neg hc]
      refine ⟨h1, ?_, h3, h4⟩
      have e : 65536 / 2 ^ k = 65536 / 2 ^ (k + 1) * 2 := by
        have : ∀ k < 16, 65536 / 2 ^ k = 65536 / 2 ^ (k + 1) * 2 := by decide
        exact this k (by omega)
      rw [e] at h2
      exact Nat.mod_eq_zero_of_dvd (Nat.dvd_trans (Nat.dvd_mul_right _ 2) (Nat.dvd_of_mod_eq_zero h2))
/-- A burst is shown, if it turns anything at all. -/
theorem burst_shown (l : List UInt8) (m turn : Nat) (h : sum l = 0) (hm : m < 8 * l.length) : sum (burst l m turn 16) = 0 ↔ burst l m turn 16 = l := by
  obtain ⟨h1, _, h3, h4⟩ := burst_inv l m turn h hm 16 (by omega)
  constructor
  · intro e
    rw [h3] at e
    exact h4 (rnds_zero _ _ h1 e)
  · intro e
    rw [e, h]
end Crc
end Go.Proofs.Ythpogmkhfgkgoaa
