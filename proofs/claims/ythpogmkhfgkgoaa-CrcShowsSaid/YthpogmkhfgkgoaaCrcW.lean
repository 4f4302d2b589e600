/- The walks of package crc: what each function of it computes. -/
import Derived.Test.YthpogmkhfgkgoaaBytesW
import Derived.Test.YthpogmkhfgkgoaaCrcP
namespace Go.Proofs.Ythpogmkhfgkgoaa
open Go.RowKit

theorem u16_xor_nat (a b : Nat) (ha : a < 65536) (hb : b < 65536) : bits .xor .u16 (a : Int) (b : Int) = ((a ^^^ b : Nat) : Int) := by
  have := u16_xor (a : Int) (b : Int) (by omega) (by omega) (by omega) (by omega)
  simpa using this
theorem u8_xor_nat (a b : Nat) (ha : a < 256) (hb : b < 256) : bits .xor .u8 (a : Int) (b : Int) = ((a ^^^ b : Nat) : Int) := by
  have := u8_xor (a : Int) (b : Int) (by omega) (by omega) (by omega) (by omega)
  simpa using this
theorem i64_xor_nat (a b : Nat) (ha : a < 65536) (hb : b < 65536) : bits .xor .i64 (a : Int) (b : Int) = ((a ^^^ b : Nat) : Int) := by
  have hx : a ^^^ b < 65536 := Nat.xor_lt_two_pow (n := 16) (by omega) (by omega)
  have h1 : (BitVec.ofInt 64 (a : Int)).toNat = a := by
    rw [BitVec.ofInt_natCast, BitVec.toNat_ofNat]; exact Nat.mod_eq_of_lt (by omega)
  have h2 : (BitVec.ofInt 64 (b : Int)).toNat = b := by
    rw [BitVec.ofInt_natCast, BitVec.toNat_ofNat]; exact Nat.mod_eq_of_lt (by omega)
  show IntKind.i64.wrap ((BitVec.ofInt 64 (a : Int) ^^^ BitVec.ofInt 64 (b : Int)).toNat : Int) = _
  rw [BitVec.toNat_xor, h1, h2, IntKind.wrap_i64]
  omega
theorem crc_round (x : Nat) (hx : x < 65536) : bits .xor .u16 (IntKind.u16.wrap ((x : Int) * 2)) ((x : Int) / 32768 * 4129) = ((Crc.rnd x : Nat) : Int) := by
  rw [Crc.rnd, ← u16_xor_nat _ _ (by omega) (by omega), IntKind.wrap_u16]
  congr 1
  omega

set_option maxHeartbeats 400000 in
theorem crc_step_nat (s b : Nat) (hs : s < 65536) (hb : b < 256) (w : World) :
    Calls Try.prog 10 #[.int .u16 s, .int .u8 b] w fun e w' => e = .returned (.int .u16 (Crc.step s b : Nat)) ∧ w = w' := by
  go_enter Try.func10, Try.ntmps10
  go_wp2
  go_loop [0, 11] (fun x i => ∃ k : Nat, k ≤ 8 ∧ i = .int .i64 k ∧ x = .int .u16 (Crc.rnds k (s ^^^ (b * 256)) : Nat)) (fun _ i => 8 - (intOf i).toNat)
  case atStart =>
    exact ⟨0, by omega, rfl, by rw [Crc.rnds, ← u16_xor_nat s (b * 256) hs (by omega)]; simp⟩
  case round =>
    obtain ⟨k, hk, rfl, rfl⟩ := hrel
    have hx := Crc.rnds_lt k _ (Crc.mix_lt s b hs hb)
    have hf : Crc.rnds (k + 1) (s ^^^ (b * 256)) = Crc.rnd (Crc.rnds k (s ^^^ (b * 256))) := rfl
    have hg : k = 8 → Crc.rnds k (s ^^^ (b * 256)) = Crc.step s b := fun e => by subst e; rfl
    generalize Crc.rnds k (s ^^^ (b * 256)) = x at *
    have H := Lib.hid hf
    have G := Lib.hid hg
    clear hf hg
    by_cases hlt : k < 8
    · go_wp2
      go_round
      case rel =>
        exact ⟨k + 1, by omega, by go_num, by rw [H.out, crc_round x hx]⟩
      case measure => simp [intOf]; omega
    · go_wp2
      go_ret
      exact ⟨by rw [← G.out (by omega)]; rfl, rfl⟩
theorem crc_step (s b : Int) (hs : 0 ≤ s ∧ s < 65536) (hb : 0 ≤ b ∧ b < 256) (w : World) :
    Calls Try.prog 10 #[.int .u16 s, .int .u8 b] w fun e w' => e = .returned (.int .u16 (Crc.step s.toNat b.toNat : Nat)) ∧ w = w' := by
  obtain ⟨s, rfl⟩ := Int.eq_ofNat_of_zero_le hs.1
  obtain ⟨b, rfl⟩ := Int.eq_ofNat_of_zero_le hb.1
  exact crc_step_nat s b (by omega) (by omega) w

/-! The table, as far as it is filled. -/
def tabTo (k : Nat) : Array Value := ((List.range 256).map fun i => Value.int .u16 (if i < k then (Crc.tab i : Nat) else (0 : Nat) : Nat)).toArray
theorem tabTo_size (k : Nat) : (tabTo k).size = 256 := by simp [tabTo]
theorem tabTo_get (k i : Nat) (h : i < 256) : (tabTo k)[i]? = some (.int .u16 (if i < k then (Crc.tab i : Nat) else (0 : Nat) : Nat)) := by
  simp [tabTo, h]
theorem tabTo_set (k : Nat) (h : k < 256) : (tabTo k).setIfInBounds k (.int .u16 (Crc.tab k : Nat)) = tabTo (k + 1) := by
  apply Array.ext_getElem?
  intro j
  rw [Array.getElem?_setIfInBounds]
  by_cases hj : j < 256
  · rw [tabTo_get _ _ hj, tabTo_get _ _ hj, tabTo_size]
    by_cases e : k = j
    · subst e
      simp [h]
    · rw [if_neg e]
      have : (j < k) = (j < k + 1) := by simp; omega
      simp [this]
  · rw [Array.getElem?_eq_none (by rw [tabTo_size]; omega), Array.getElem?_eq_none (by rw [tabTo_size]; omega), tabTo_size]
    rw [if_neg (by omega)]
theorem tabTo_one (k : Nat) : (tabTo k).all (·.oneCell') = true := by
  rw [Array.all_eq_true_iff_forall_mem]
  intro v hv
  simp only [tabTo, List.mem_toArray, List.mem_map] at hv
  obtain ⟨i, _, rfl⟩ := hv
  rfl
/-- The whole table, as a value. -/
def tabV : Array Value := tabTo 256
theorem tabV_get (i : Nat) (h : i < 256) : tabV[i]? = some (.int .u16 (Crc.tab i : Nat)) := by
  rw [tabV, tabTo_get _ _ h, if_pos h]
attribute [irreducible] tabTo
theorem tab_info : (Try.prog.info? 27).map (fun i => (i.zero, i.size)) = some (some (.agg (tabTo 0)), 256) := by kernel_rfl
theorem tab_zero (w : World) : (zeroValue 27).run Try.prog w = .ok (.agg (tabTo 0)) w := (zero_of_info tab_info).1 w
theorem tab_size (k : Nat) : (Try.prog.info? 27).map (·.size) = some (tabTo k).size := by rw [tabTo_size]; exact (zero_of_info tab_info).2

set_option maxRecDepth 100000 in
set_option maxHeartbeats 400000 in
theorem crc_make (w : World) :
    Calls Try.prog 9 #[] w fun e w' => e = .returned (.agg tabV) ∧ Ext w w' := by
  have hz := tab_zero
  go_enter Try.func9, Try.ntmps9
  go_wp2_with fail
  go_loopw [3] (fun i wr => ∃ k : Nat, k ≤ 256 ∧ i = .int .i64 k ∧ wr = (w.alloc (.cells (tabTo 0) 27)).alloc (.cells (tabTo k) 27)) (fun i _ => 256 - (intOf i).toNat)
  case atStart => exact ⟨0, by omega, rfl, rfl⟩
  case round =>
    obtain ⟨k, hk, rfl, rfl⟩ := hrel
    by_cases hlt : k < 256
    · have hset := tabTo_set k hlt
      have hget := tabTo_get k k hlt
      go_wp2_with (go_at_call 10; refine (crc_step _ _ (by omega) (by omega) _).mono ?_; rintro e w' ⟨rfl, rfl⟩)
      go_roundw
      case rel => exact ⟨k + 1, by omega, by go_num, by rw [← tabTo_set k hlt]; rfl⟩
      case measure => simp [intOf]; omega
    · go_wp2_with (first
        | (refine wpList_load_row rfl 27 _ rfl (w.heap.size + 1) rfl 27 (tabTo k) (0, 0) _ (by exact heap_alloc2_new _ _ _) Try.underlying27 rfl (tab_size _) ?_)
        | (refine wpList_store_row rfl 27 _ _ rfl w.heap.size (tabTo k) rfl rfl 27 (tabTo 0) (by exact heap_alloc2_old _ _ _) (tab_size _) (by rw [tabTo_size, tabTo_size]) (tabTo_one _) ?_))
      have e : k = 256 := by omega
      subst e
      exact bodyPost_ret (results_cell_row rfl _ _ w.heap.size 27 (tabTo 256) (0, 0) _ rfl (setRow_heap _ _ (tabTo 0) _ _ _ (heap_alloc2_old _ _ _)) Try.underlying27 rfl (tab_size _)) rfl
        ⟨rfl, (((Ext.refl _).alloc _).alloc _).setRow (Nat.le_refl _) _⟩
theorem sum_step_eq (s b : Nat) (hs : s < 65536) (hb : b < 256) :
    bits .xor .u16 (IntKind.u16.wrap ((s : Int) * 256)) ((Crc.tab (s / 256 ^^^ b) : Nat) : Int) = ((Crc.step s b : Nat) : Int) := by
  rw [Crc.step_tab s b hs hb, ← u16_xor_nat _ _ (by omega) (Crc.tab_lt _), IntKind.wrap_u16]
  congr 1

set_option maxRecDepth 100000 in
set_option maxHeartbeats 400000 in
theorem crc_sum (w : World) (A : Option Addr) (n c : Nat) (ps : List (Option Addr × Nat × List UInt8)) (h : Sl w A n c (ps.map SV)) (hp : ∀ p ∈ ps, SlB w p.1 p.2.2.length p.2.1 p.2.2) :
    Calls Try.prog 12 #[.agg tabV, .slice A n c] w fun e w' => e = .returned (.int .u16 (Crc.sum (allOf ps) : Nat)) ∧ Ext w w' := by
  obtain rfl : ps.length = n := by simpa using h.len
  have hl := h.max
  go_enter Try.func12, Try.ntmps12
  go_wp2_with fail
  go_loop [5, 12] (fun s i => ∃ k : Nat, k ≤ ps.length ∧ i = .int .i64 k ∧ s = .int .u16 (Crc.run 65535 (allOf (ps.take k)) : Nat)) (fun _ i => ps.length - (intOf i).toNat)
  case atStart => exact ⟨0, by omega, rfl, rfl⟩
  case round =>
    obtain ⟨k, hk, rfl, rfl⟩ := hrel
    have hs := Crc.run_lt 65535 (allOf (ps.take k)) (by omega)
    by_cases hlt : k < ps.length
    · have hnext : Crc.run 65535 (allOf (ps.take (k + 1))) = Crc.run (Crc.run 65535 (allOf (ps.take k))) ps[k].2.2 := by rw [allOf_take _ _ hlt, Crc.run_append]
      have Hn := Lib.hid hnext
      clear hnext
      generalize Crc.run 65535 (allOf (ps.take k)) = s0 at *
      obtain ⟨b, o, rfl, hb, hcell⟩ := h.get (k := k) (by simpa using hlt)
      have hq := hp ps[k] (List.getElem_mem _)
      simp only [List.getElem_map] at hcell
      generalize ps[k] = q at *
      obtain ⟨qa, qc, xs⟩ := q
      simp only [SV] at hq Hn hcell
      have hql := hq.max
      go_wp2_with fail
      go_loop [5, 18] (fun s i => ∃ j : Nat, j ≤ xs.length ∧ i = .int .i64 j ∧ s = .int .u16 (Crc.run s0 (xs.take j) : Nat)) (fun _ i => xs.length - (intOf i).toNat)
      case atStart => exact ⟨0, by omega, rfl, rfl⟩
      case round =>
        obtain ⟨j, hj, rfl, rfl⟩ := hrel
        have hs1 := Crc.run_lt s0 (xs.take j) hs
        by_cases hjt : j < xs.length
        · obtain ⟨b', o', rfl, hb', hc'⟩ := hq.get (k := j) (by simpa using hjt)
          simp only [List.getElem_map, B8] at hc'
          have hnx : Crc.run s0 (xs.take (j + 1)) = Crc.step (Crc.run s0 (xs.take j)) xs[j].toNat := by rw [List.take_succ_eq_append_getElem hjt, Crc.run_snoc]
          have Hx := Lib.hid hnx
          clear hnx
          generalize Crc.run s0 (xs.take j) = s1 at *
          have hbj := xs[j].toNat_lt
          generalize xs[j].toNat = bj at *
          have hi : s1 / 256 ^^^ bj < 256 := Nat.xor_lt_two_pow (n := 8) (by omega) (by omega)
          have hxor : bits .xor .u8 ((s1 : Int) / 256) (bj : Int) = ((s1 / 256 ^^^ bj : Nat) : Int) := u8_xor_nat (s1 / 256) bj (by omega) hbj
          have htab := tabV_get (s1 / 256 ^^^ bj) hi
          go_wp2_with fail
          go_round
          case rel => exact ⟨j + 1, by omega, by go_num, by rw [Hx.out, sum_step_eq s1 bj hs1 hbj]⟩
          case measure => simp [intOf]; omega
        · go_wp2_with fail
          have e : j = xs.length := by omega
          subst e
          go_round
          case rel => exact ⟨k + 1, by omega, by go_num, by rw [Hn.out, List.take_of_length_le (Nat.le_refl _)]⟩
          case measure => simp [intOf]; omega
    · go_wp2_with fail
      go_ret
      have e : k = ps.length := by omega
      subst e
      exact ⟨by rw [List.take_of_length_le (Nat.le_refl _)]; rfl, (Ext.refl _).alloc _⟩

/-! The references' sum, bit by bit. -/
theorem ser_test (x t k : Nat) (ht : t < 65536) : ((wrap64 (((x : Int) / 2 ^ k).tmod 2 + (t : Int) / 32768)).tmod 2 == 1) = decide ((x / 2 ^ k % 2 + t / 32768) % 2 = 1) := by
  have e : ((x : Int) / 2 ^ k) = ((x / 2 ^ k : Nat) : Int) := by simp
  rw [e]
  generalize x / 2 ^ k = y
  have e1 : (y : Int).tmod 2 = (y : Int) % 2 := Int.tmod_eq_emod_of_nonneg (by omega)
  have e2 : wrap64 ((y : Int) % 2 + (t : Int) / 32768) = (y : Int) % 2 + (t : Int) / 32768 := IntWalk.wrap64_in _ (by omega)
  rw [e1, e2, Int.tmod_eq_emod_of_nonneg (by omega), Bool.eq_iff_iff]
  simp
  omega
set_option maxRecDepth 100000 in
set_option maxHeartbeats 800000 in
theorem ref5_sum (w : World) (A : Option Addr) (n c : Nat) (xs : List UInt8) (h : SlB w A n c xs) :
    Calls Try.prog 11 #[.slice A n c] w fun e w' => e = .returned (.int .u16 (Crc.sum xs : Nat)) ∧ w = w' := by
  obtain rfl := h.size
  have hl := h.max
  go_enter Try.func11, Try.ntmps11
  go_wp2_with fail
  go_loop [3, 10] (fun s i => ∃ k : Nat, k ≤ xs.length ∧ i = .int .i64 k ∧ s = .int .i64 (Crc.run 65535 (xs.take k) : Nat)) (fun _ i => xs.length - (intOf i).toNat)
  case atStart => exact ⟨0, by omega, rfl, rfl⟩
  case round =>
    obtain ⟨k, hk, rfl, rfl⟩ := hrel
    have hs := Crc.run_lt 65535 (xs.take k) (by omega)
    by_cases hlt : k < xs.length
    · obtain ⟨b, o, rfl, hbs, hcell⟩ := h.get (k := k) (by simpa using hlt)
      simp only [List.getElem_map, B8] at hcell
      have E := Lib.hid (show Crc.run 65535 (xs.take (k + 1)) = Crc.step (Crc.run 65535 (xs.take k)) xs[k].toNat by rw [List.take_succ_eq_append_getElem hlt, Crc.run_snoc])
      have hx := xs[k].toNat_lt
      generalize Crc.run 65535 (xs.take k) = s at *
      generalize xs[k].toNat = x at *
      go_wp2_with fail
      go_loop [3, 6] (fun t i => ∃ j : Nat, j ≤ 8 ∧ i = .int .i64 (7 - j) ∧ t = .int .i64 (Crc.serTo s x j : Nat)) (fun _ i => (intOf i + 1).toNat)
      case atStart => exact ⟨0, by omega, rfl, rfl⟩
      case round =>
        obtain ⟨j, hj, rfl, rfl⟩ := hrel
        have ht := Crc.serTo_lt s x j hs hx hj
        by_cases hj8 : j < 8
        · have hbit : x / 2 ^ (7 - j) % 2 < 2 := Nat.mod_lt _ (by omega)
          have E2 := Lib.hid (show Crc.serTo s x (j + 1) = Crc.ser (Crc.serTo s x j) (x / 2 ^ (7 - j) % 2) from rfl)
          have odd := Lib.hid (Crc.ser_odd (Crc.serTo s x j) (x / 2 ^ (7 - j) % 2) ht hbit)
          have even := Lib.hid (Crc.ser_even (Crc.serTo s x j) (x / 2 ^ (7 - j) % 2) ht hbit)
          go_wp2_with fail
          · have hq : ((wrap64 (((x : Int) / 2 ^ (7 - j)).tmod 2 + ((Crc.serTo s x j : Nat) : Int) / 32768)).tmod 2 == 1) = true := by assumption
            rw [ser_test _ _ _ ht] at hq
            go_round
            case rel => exact ⟨j + 1, by omega, by congr 1; omega, by rw [E2.out, odd.out (by simpa using hq), ← i64_xor_nat _ _ (by omega) (by omega)]; rfl⟩
            case measure => simp [intOf]; omega
          · have hq : ((wrap64 (((x : Int) / 2 ^ (7 - j)).tmod 2 + ((Crc.serTo s x j : Nat) : Int) / 32768)).tmod 2 == 1) = false := by assumption
            rw [ser_test _ _ _ ht] at hq
            go_round
            case rel => exact ⟨j + 1, by omega, by congr 1; omega, by rw [E2.out, even.out (by simpa using hq)]; rfl⟩
            case measure => simp [intOf]; omega
        · go_wp2_with fail
          go_round
          case rel => exact ⟨k + 1, by omega, by go_num, by rw [E.out, ← Crc.serTo_8 s x hs hx, show j = 8 by omega]⟩
          case measure => simp [intOf]; omega
    · have e : xs.take k = xs := List.take_of_length_le (by omega)
      rw [e] at hs ⊢
      go_wp2_with fail
      go_ret
      exact ⟨rfl, rfl⟩

end Go.Proofs.Ythpogmkhfgkgoaa
