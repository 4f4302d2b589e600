/- The law CrcShows, walked. -/
import Derived.Test.YthpogmkhfgkgoaaCrcL3
namespace Go.Proofs.Ythpogmkhfgkgoaa
open Go.RowKit

theorem tmod_two (n k : Nat) : (((n : Int) / 2 ^ k).tmod 2 == 1) = decide (n / 2 ^ k % 2 = 1) := by
  rw [show ((n : Int) / 2 ^ k) = ((n / 2 ^ k : Nat) : Int) by simp]
  generalize n / 2 ^ k = x
  rw [Int.tmod_eq_emod_of_nonneg (by omega), Bool.eq_iff_iff]
  simp only [beq_iff_eq, decide_eq_true_eq]
  omega

theorem flip_own {w : World} {B e n c g : Nat} {xs : List UInt8} (h : w.ownsRow B e 1 (.slice (some ⟨g, 0, none⟩) n c) n (xs.map B8)) (m : Nat) (hm : m / 8 < xs.length) :
    (w.setCell ⟨g, m / 8, none⟩ (.int .u8 (bits .xor .u8 ((xs[m / 8]'hm).toNat : Int) (128 / 2 ^ (m % 8))))).drew.ownsRow B e 1 (.slice (some ⟨g, 0, none⟩) n c) n ((Crc.flip xs m).map B8) := by
  have h8 : 128 / 2 ^ (m % 8) < 256 := Nat.lt_of_le_of_lt (Nat.div_le_self _ _) (by omega)
  have hv : bits .xor .u8 ((xs[m / 8]'hm).toNat : Int) (128 / 2 ^ (m % 8)) = (((xs[m / 8]'hm) ^^^ UInt8.ofNat (128 / 2 ^ (m % 8))).toNat : Int) := by
    have := u8_xor_nat (xs[m / 8]'hm).toNat (128 / 2 ^ (m % 8)) (xs[m / 8]'hm).toNat_lt h8
    rw [UInt8.toNat_xor, UInt8.toNat_ofNat', Nat.mod_eq_of_lt h8, ← this]
    simp
  rw [hv]
  have := (h.stored (m / 8) (B8 ((xs[m / 8]'hm) ^^^ UInt8.ofNat (128 / 2 ^ (m % 8))))).1
  rw [← List.map_set] at this
  rw [Crc.flip, dif_pos hm]
  exact own_ext this (Ext.refl _).drew
theorem flip_facts {w : World} {B e n c g : Nat} {xs : List UInt8} (h : w.ownsRow B e 1 (.slice (some ⟨g, 0, none⟩) n c) n (xs.map B8)) (m : Nat) (hm : m / 8 < n) (hl : xs.length = n) :
    ∃ v : Nat, v < 256 ∧ w.drew.cell? ⟨g, m / 8, none⟩ = some (.int .u8 v) ∧ w.drew.frozen? ⟨g, m / 8, none⟩ = false ∧
      (w.setCell ⟨g, m / 8, none⟩ (.int .u8 (bits .xor .u8 (v : Int) (128 / 2 ^ (m % 8))))).drew.ownsRow B e 1 (.slice (some ⟨g, 0, none⟩) n c) n ((Crc.flip xs m).map B8) := by
  refine ⟨(xs[m / 8]'(by omega)).toNat, (xs[m / 8]'(by omega)).toNat_lt, ?_, h.frozenAt _, flip_own h m (by omega)⟩
  show w.cell? _ = _
  rw [h.cellAt (m / 8) (by omega)]
  simp [show m / 8 < xs.length by omega]
theorem other_own {w : World} {B B' e e' n n' c c' g g' : Nat} {xs ys : List Value} (h : w.ownsRow B e 1 (.slice (some ⟨g, 0, none⟩) n c) n xs) (h' : w.ownsRow B' e' 1 (.slice (some ⟨g', 0, none⟩) n' c') n' ys) (hg : g ≠ g') (y : Nat) : ∀ v : Value,
    (w.setCell ⟨g, y, none⟩ v).drew.ownsRow B' e' 1 (.slice (some ⟨g', 0, none⟩) n' c') n' ys :=
  fun v => own_ext (h'.kept (h.stored y v).2 (.inr (by simp only [Value.ownBlock, ne_eq, Option.some.injEq]; exact fun h => hg h.symm))) (Ext.refl _).drew
theorem tmod_eight (a n : Nat) : ((a : Int).tmod (8 * ((n : Int) + 2))) = ((a % (8 * (n + 2)) : Nat) : Int) := by
  rw [Int.tmod_eq_emod_of_nonneg (by omega)]; simp

set_option maxRecDepth 100000 in
set_option maxHeartbeats 3200000 in
theorem law_CrcShows (w : World) (A : Option Addr) (n c : Nat) (xs : List UInt8) (h : SlB w A n c xs) (at_ turn i j : Nat) (ha : at_ < 65536) (ht : turn < 65536) (hi : i < 65536) (hj : j < 65536) :
    Calls Try.prog 5 #[.slice A n c, .int .u16 at_, .int .u16 turn, .int .u16 i, .int .u16 j] w fun e w' => e = .returned (.bool true) ∧ Ext w w' := by
  have hl := h.max
  go_enter Try.func5, Try.ntmps5
  go_wp2_with fail
  refine (law5_awake _).mono ?_
  rintro e w1 ⟨rfl, hb1⟩
  go_wp2_with fail
  refine (r1_cut _ _ _ _ xs _ (h.ext hb1) (by omega)).mono ?_
  rintro e w2 hc2
  obtain ⟨A2, n2, c2, rfl, h2, hb2⟩ := (hc2.from hb1).sl
  have hn2 : n2 ≤ 300 := by rw [← h2.size]; simp; omega
  clear h hl hc2 hb1
  simp only [Int.reduceToNat] at h2
  generalize xs.take 300 = p at *
  go_wp2_with fail
  refine (crc_make _).mono ?_
  rintro e w4 ⟨rfl, hb4⟩
  have hz := tab_zero
  go_wp2_with (refine wpList_store_row rfl 27 _ _ rfl w4.heap.size tabV rfl rfl 27 (tabTo 0) (by exact heap_alloc_new _ _) (tab_size _) (by rw [tabTo_size]; exact (tabTo_size 256).symm) (tabTo_one _) ?_; rw [tab_store])
  have hb5 := (hb2.trans hb4).alloc (.cells tabV 27)
  have h25 := h2.ext (hb4.alloc (.cells tabV 27))
  have hrow := heap_alloc_new w4 (.cells tabV 27)
  generalize w4.alloc (.cells tabV 27) = W at *
  generalize w4.heap.size = g at *
  clear hb2 h2 hb4 hz
  clear w1 w2 w4
  have hrow' := fun X (hx : Ext W X) => hx.heap hrow
  refine wp_region_chain [(0, true), (1, true), (3, true), (4, true), (2, false), (5, false), (6, true), (7, true)] (by kernel_rfl) (by kernel_rfl) ?_
  refine chain_row rfl rfl 27 _ rfl g rfl 27 tabV (0, 0) _ (hrow' _ (by repeat (with_reducible first | exact Ext.refl _ | assumption | apply Ext.of_drew | apply Ext.of_drewN | apply Ext.drew | apply Ext.drewN | apply Ext.alloc | (refine Ext.trans ?_ (by assumption))))) Try.underlying27 rfl (tab_size 256) ?_; simp only [Act.put, List.setIfInBounds_toArray, List.set_cons_zero, List.set_cons_succ]
  (first | (refine chain_skip rfl rfl ?_; simp only [Act.put, List.setIfInBounds_toArray, List.set_cons_zero, List.set_cons_succ]) | (refine chain_quiet rfl rfl rfl (fun K hK => ?_); go_big_quiet_op; refine hK _ ?_; clear hK K))
  refine chain_row rfl rfl 27 _ rfl g rfl 27 tabV (0, 0) _ (hrow' _ (by repeat (with_reducible first | exact Ext.refl _ | assumption | apply Ext.of_drew | apply Ext.of_drewN | apply Ext.drew | apply Ext.drewN | apply Ext.alloc | (refine Ext.trans ?_ (by assumption))))) Try.underlying27 rfl (tab_size 256) ?_; simp only [Act.put, List.setIfInBounds_toArray, List.set_cons_zero, List.set_cons_succ]
  (first | (refine chain_skip rfl rfl ?_; simp only [Act.put, List.setIfInBounds_toArray, List.set_cons_zero, List.set_cons_succ]) | (refine chain_quiet rfl rfl rfl (fun K hK => ?_); go_big_quiet_op; refine hK _ ?_; clear hK K))
  refine chain_do rfl rfl (fun K hK => ?_); go_simp; refine (crc_append _ _ _ _ p (h25.ext (by repeat (with_reducible first | exact Ext.refl _ | assumption | apply Ext.of_drew | apply Ext.of_drewN | apply Ext.drew | apply Ext.drewN | apply Ext.alloc | (refine Ext.trans ?_ (by assumption))))) (by omega)).mono ?_; rintro e w6 hc6; obtain ⟨A6, n6, c6, rfl, ho6, hb6⟩ := hc6; (refine hK _ _ hb6 ?_); clear hK K; have hb6W : Ext W w6 := Ext.trans (by repeat (with_reducible first | exact Ext.refl _ | assumption | apply Ext.of_drew | apply Ext.of_drewN | apply Ext.drew | apply Ext.drewN | apply Ext.alloc | (refine Ext.trans ?_ (by assumption)))) hb6; try simp only [Act.put, List.setIfInBounds_toArray, List.set_cons_zero, List.set_cons_succ]
  refine chain_do rfl rfl (fun K hK => ?_); go_simp; refine (crc_append _ _ _ _ p (h25.ext (by repeat (with_reducible first | exact Ext.refl _ | assumption | apply Ext.of_drew | apply Ext.of_drewN | apply Ext.drew | apply Ext.drewN | apply Ext.alloc | (refine Ext.trans ?_ (by assumption))))) (by omega)).mono ?_; rintro e w7 hc7; obtain ⟨A7, n7, c7, rfl, ho7, hb7⟩ := hc7; (refine hK _ _ hb7 ?_); clear hK K; have hb7W : Ext W w7 := Ext.trans (by repeat (with_reducible first | exact Ext.refl _ | assumption | apply Ext.of_drew | apply Ext.of_drewN | apply Ext.drew | apply Ext.drewN | apply Ext.alloc | (refine Ext.trans ?_ (by assumption)))) hb7; try simp only [Act.put, List.setIfInBounds_toArray, List.set_cons_zero, List.set_cons_succ]
  iterate 2 (first | (refine chain_skip rfl rfl ?_; simp only [Act.put, List.setIfInBounds_toArray, List.set_cons_zero, List.set_cons_succ]) | (refine chain_quiet rfl rfl rfl (fun K hK => ?_); go_big_quiet_op; refine hK _ ?_; clear hK K))
  refine chain_end ?_
  have hs6 := (SlB.of_own ho6).size
  have hs7 := (SlB.of_own ho7).size
  rw [Crc.withSum_length, h25.size] at hs6 hs7
  subst hs6 hs7
  obtain ⟨ga, rfl⟩ := own_form ho6 (by omega)
  obtain ⟨gb, rfl⟩ := own_form ho7 (by omega)
  have hga := (ho6.lt ga rfl).1
  have hgb := (ho7.lt gb rfl).1
  have hga' := (ho6.lt ga rfl).2
  have ho6' := own_ext ho6 hb7
  have hsum := Crc.sum_withSum p
  have hlen : (Crc.withSum p).length = n2 + 2 := by rw [Crc.withSum_length, h25.size]
  generalize hq : Crc.withSum p = q at *
  have HQ := Lib.hid hq
  clear hq
  go_wp2_with fail
  have hmod := tmod_eight at_ n2
  have hm : at_ % (8 * (n2 + 2)) < 8 * (n2 + 2) := Nat.mod_lt _ (by omega)
  generalize at_ % (8 * (n2 + 2)) = m at *
  have hW7 := hb7W
  have e1 : W.drew.heap.size = W.heap.size := rfl
  have e2 := hb6W.size
  have hgW : W.heap.size ≤ ga ∧ W.heap.size ≤ gb := by omega
  have hab : ga ≠ gb := by omega
  generalize w6.heap.size = B7 at *
  have hz0 : q.length = n2 + 2 := hlen
  have HW := Lib.hid hb5
  clear hb6 hb6W hb7 hb7W ho6 hrow hb5
  go_loopw [33] (fun x wr => ∃ k : Nat, k ≤ 16 ∧ x = .int .i64 k ∧ wr.ownsRow W.heap.size 5 1 (.slice (some ⟨ga, 0, none⟩) (n2 + 2) c6) (n2 + 2) ((Crc.burst q m turn k).map B8) ∧ wr.ownsRow W.heap.size 5 1 (.slice (some ⟨gb, 0, none⟩) (n2 + 2) c7) (n2 + 2) (q.map B8) ∧ Ext W wr) (fun x _ => 16 - (intOf x).toNat)
  case atStart => exact ⟨0, by omega, rfl, own_mono ho6' (by omega), own_mono ho7 (by omega), hW7⟩
  case round =>
    obtain ⟨k, hk, rfl, hra, hrb, hx⟩ := hrel
    by_cases hlt : k < 16
    · by_cases hin : m + k < 8 * (n2 + 2)
      · by_cases hbit : turn / 2 ^ k % 2 = 1
        · have hb1 : ((((turn : Int) / 2 ^ k).tmod 2 == 1) = true) := by rw [tmod_two]; exact decide_eq_true hbit
          have hidx : IntKind.i64.wrap (((m : Int) + k).tdiv 8) = (((m + k) / 8 : Nat) : Int) := by
            rw [Int.tdiv_eq_ediv_of_nonneg (by omega), IntKind.wrap_i64]; omega
          have hrem : (((m : Int) + k).tmod 8) = (((m + k) % 8 : Nat) : Int) := by
            rw [Int.tmod_eq_emod_of_nonneg (by omega)]; omega
          go_wp2_with fail
          have HB := Lib.hid (show Crc.burst q m turn (k + 1) = Crc.flip (Crc.burst q m turn k) (m + k) by rw [Crc.burst, if_pos ⟨by rw [hz0]; exact hin, hbit⟩])
          have hin2 : (m + k) / 8 < n2 + 2 := by omega
          have hz8 : (m + k) % 8 < 8 := Nat.mod_lt _ (by omega)
          obtain ⟨v, hv, hcell, hfr, hfo⟩ := flip_facts hra (m + k) hin2 (by rw [Crc.burst_length]; exact hz0)
          have hcells : ∀ s : EW wr.drew, s.w.cell? ⟨ga, (m + k) / 8, none⟩ = some (.int .u8 v) := fun s => s.cell hcell
          have hoo := other_own hra hrb hab ((m + k) / 8)
          generalize turn / 2 ^ k = tk at *
          generalize (m + k) / 8 = y at *
          generalize (m + k) % 8 = z at *
          refine wp_region_chain [(0, true), (1, true), (2, true), (3, true), (4, true), (5, true), (6, true), (7, true), (8, true), (9, true), (10, false)] (by kernel_rfl) (by kernel_rfl) ?_
          iterate 10 (first | (refine chain_skip rfl rfl ?_; simp only [Act.put, List.setIfInBounds_toArray, List.set_cons_zero, List.set_cons_succ]) | (refine chain_quiet rfl rfl rfl (fun K hK => ?_); go_big_quiet_op; refine hK _ ?_; clear hK K))
          (refine chain_bar (by kernel_rfl) rfl rfl (fun K hK => ?_); go_simp; refine hK _ _ ?_; clear hK K)
          refine chain_end ?_
          go_wp2_with fail
          go_roundw
          case rel => exact ⟨k + 1, by omega, by go_num, by rw [HB.out]; exact hfo, hoo _, (hx.setCell hgW.1 _).drew⟩
          case measure => simp [intOf]; omega
        · have hb1 : ((((turn : Int) / 2 ^ k).tmod 2 == 1) = false) := by rw [tmod_two]; exact decide_eq_false hbit
          go_wp2_with fail
          go_roundw
          case rel => exact ⟨k + 1, by omega, by go_num, by rw [Crc.burst, if_neg (fun hc => hbit hc.2)]; exact hra, hrb, hx⟩
          case measure => simp [intOf]; omega
      · go_wp2_with fail
        go_roundw
        case rel => exact ⟨k + 1, by omega, by go_num, by rw [Crc.burst, if_neg (fun hc => hin (by rw [← hz0]; exact hc.1))]; exact hra, hrb, hx⟩
        case measure => simp [intOf]; omega
    · have e : k = 16 := by omega
      subst e
      have HS := Lib.hid (Crc.burst_shown q m turn hsum (by omega))
      have hbl := Crc.burst_length q m turn 16
      rw [hlen] at hbl
      generalize Crc.burst q m turn 16 = ab at *
      have hxm := tmod_eight i n2
      have hx8 : i % (8 * (n2 + 2)) < 8 * (n2 + 2) := Nat.mod_lt _ (by omega)
      have hym := tmod_eight j n2
      have hy8 : j % (8 * (n2 + 2)) < 8 * (n2 + 2) := Nat.mod_lt _ (by omega)
      generalize i % (8 * (n2 + 2)) = x at *
      generalize j % (8 * (n2 + 2)) = y at *
      have HT := Lib.hid (Crc.two_bits q x y hsum (by omega) (by omega) (by omega))
      have hidx : IntKind.i64.wrap ((x : Int).tdiv 8) = ((x / 8 : Nat) : Int) := by
        rw [Int.tdiv_eq_ediv_of_nonneg (by omega), IntKind.wrap_i64]; omega
      have hrem : ((x : Int).tmod 8) = ((x % 8 : Nat) : Int) := by
        rw [Int.tmod_eq_emod_of_nonneg (by omega)]; omega
      have hidy : IntKind.i64.wrap ((y : Int).tdiv 8) = ((y / 8 : Nat) : Int) := by
        rw [Int.tdiv_eq_ediv_of_nonneg (by omega), IntKind.wrap_i64]; omega
      have hrey : ((y : Int).tmod 8) = ((y % 8 : Nat) : Int) := by
        rw [Int.tmod_eq_emod_of_nonneg (by omega)]; omega
      go_wp2_with fail
      refine wp_region_chain [(0, true), (1, true), (2, true), (3, true), (4, true), (5, true), (6, true), (7, true), (8, true), (9, true)] (by kernel_rfl) (by kernel_rfl) ?_
      iterate 10 (first | (refine chain_skip rfl rfl ?_; simp only [Act.put, List.setIfInBounds_toArray, List.set_cons_zero, List.set_cons_succ]) | (refine chain_quiet rfl rfl rfl (fun K hK => ?_); go_big_quiet_op; refine hK _ ?_; clear hK K))
      refine chain_end ?_
      have hra2 := own_ext hra (Ext.refl _).drew
      have hrb2 := own_ext hrb (Ext.refl _).drew
      have hx2 := hx.drew
      generalize wr.drew = V1 at *
      clear hra hrb hx
      have hin2 : x / 8 < n2 + 2 := by omega
      have hz8 : x % 8 < 8 := Nat.mod_lt _ (by omega)
      obtain ⟨v, hv, hcell, hfr, hfo⟩ := flip_facts hrb2 x hin2 hlen
      have hcells : ∀ s : EW V1.drew, s.w.cell? ⟨gb, x / 8, none⟩ = some (.int .u8 v) := fun s => s.cell hcell
      have hoo := other_own hrb2 hra2 (Ne.symm hab) (x / 8)
      have hex := fun v => (hx2.setCell (p := ⟨gb, x / 8, none⟩) hgW.2 v).drew
      have hfl : (Crc.flip q x).length = n2 + 2 := by rw [Crc.flip_length]; exact hlen
      go_wp2_with fail
      refine wp_region_chain [(0, true), (1, true), (2, true), (3, true), (4, true), (5, true), (6, true), (7, true), (8, true), (9, true), (10, false)] (by kernel_rfl) (by kernel_rfl) ?_
      iterate 10 (first | (refine chain_skip rfl rfl ?_; simp only [Act.put, List.setIfInBounds_toArray, List.set_cons_zero, List.set_cons_succ]) | (refine chain_quiet rfl rfl rfl (fun K hK => ?_); go_big_quiet_op; refine hK _ ?_; clear hK K))
      (refine chain_bar (by kernel_rfl) rfl rfl (fun K hK => ?_); go_simp; refine hK _ _ ?_; clear hK K)
      refine chain_end ?_
      have hra3 := hoo (.int .u8 (bits .xor .u8 (v : Int) (128 / 2 ^ (x % 8))))
      have hx3 := hex (.int .u8 (bits .xor .u8 (v : Int) (128 / 2 ^ (x % 8))))
      generalize (V1.setCell ⟨gb, x / 8, none⟩ (.int .u8 (bits .xor .u8 (v : Int) (128 / 2 ^ (x % 8))))).drew = V2 at *
      clear hcell hcells hfr hoo hex hrb2 hra2 hx2 V1
      have hin2q : y / 8 < n2 + 2 := by omega
      have hz8q : y % 8 < 8 := Nat.mod_lt _ (by omega)
      obtain ⟨vq, hvq, hcellq, hfrq, hfoq⟩ := flip_facts hfo y hin2q hfl
      have hcellsq : ∀ s : EW V2.drew, s.w.cell? ⟨gb, y / 8, none⟩ = some (.int .u8 vq) := fun s => s.cell hcellq
      have hooq := other_own hfo hra3 (Ne.symm hab) (y / 8)
      have hex := fun v => (hx3.setCell (p := ⟨gb, y / 8, none⟩) hgW.2 v).drew
      go_wp2_with fail
      refine wp_region_chain [(0, true), (1, true), (2, true), (3, true), (4, true), (5, true), (6, true), (7, true), (8, true), (9, true), (10, false)] (by kernel_rfl) (by kernel_rfl) ?_
      iterate 10 (first | (refine chain_skip rfl rfl ?_; simp only [Act.put, List.setIfInBounds_toArray, List.set_cons_zero, List.set_cons_succ]) | (refine chain_quiet rfl rfl rfl (fun K hK => ?_); go_big_quiet_op; refine hK _ ?_; clear hK K))
      (refine chain_bar (by kernel_rfl) rfl rfl (fun K hK => ?_); go_simp; refine hK _ _ ?_; clear hK K)
      refine chain_end ?_
      have hra4 := hooq (.int .u8 (bits .xor .u8 (vq : Int) (128 / 2 ^ (y % 8))))
      have hx4 := hex (.int .u8 (bits .xor .u8 (vq : Int) (128 / 2 ^ (y % 8))))
      generalize (V2.setCell ⟨gb, y / 8, none⟩ (.int .u8 (bits .xor .u8 (vq : Int) (128 / 2 ^ (y % 8))))).drew = V3 at *
      clear hcellq hcellsq hfrq hooq hex hra3 hx3 hfo V2
      have hA := SlB.of_own hra4
      have hB := SlB.of_own hfoq
      have h26 := h25.ext hx4
      have hrow'' := fun X (hy : Ext V3 X) => hrow' X (hx4.trans hy)
      have f1 : (Crc.rightB ab == sameB ab q) = true := by
        rw [beq_iff_eq, Bool.eq_iff_iff, Crc.rightB_iff, HS.out, sameB, decide_eq_true_eq]
        exact ⟨fun h => h.2, fun h => ⟨by omega, h⟩⟩
      have f2 : (Crc.rightB (Crc.flip (Crc.flip q x) y) == ((x : Int) == (y : Int))) = true := by
        rw [beq_iff_eq, Bool.eq_iff_iff, Crc.rightB_iff, HT.out]
        simp only [Crc.flip_length, beq_iff_eq, Int.natCast_inj]
        exact ⟨fun h => h.2, fun h => ⟨by omega, h⟩⟩
      clear hfoq hra4 hfl hgW hga' hga hgb
      go_wp2_with fail
      refine wp_region_chain [(0, true), (1, true), (3, true), (4, true), (5, true), (2, false), (6, false), (7, false), (8, true), (9, true), (10, true), (11, true), (13, true), (14, true), (15, true), (12, false), (16, true), (17, true), (18, true)] (by kernel_rfl) (by kernel_rfl) ?_
      refine chain_row rfl rfl 27 _ rfl g rfl 27 tabV (0, 0) _ (hrow'' _ (by repeat (with_reducible first | exact Ext.refl _ | assumption | apply Ext.of_drew | apply Ext.of_drewN | apply Ext.drew | apply Ext.drewN | apply Ext.alloc | (refine Ext.trans ?_ (by assumption))))) Try.underlying27 rfl (tab_size 256) ?_; simp only [Act.put, List.setIfInBounds_toArray, List.set_cons_zero, List.set_cons_succ]
      iterate 2 (first | (refine chain_skip rfl rfl ?_; simp only [Act.put, List.setIfInBounds_toArray, List.set_cons_zero, List.set_cons_succ]) | (refine chain_quiet rfl rfl rfl (fun K hK => ?_); go_big_quiet_op; refine hK _ ?_; clear hK K))
      refine chain_row rfl rfl 27 _ rfl g rfl 27 tabV (0, 0) _ (hrow'' _ (by repeat (with_reducible first | exact Ext.refl _ | assumption | apply Ext.of_drew | apply Ext.of_drewN | apply Ext.drew | apply Ext.drewN | apply Ext.alloc | (refine Ext.trans ?_ (by assumption))))) Try.underlying27 rfl (tab_size 256) ?_; simp only [Act.put, List.setIfInBounds_toArray, List.set_cons_zero, List.set_cons_succ]
      (first | (refine chain_skip rfl rfl ?_; simp only [Act.put, List.setIfInBounds_toArray, List.set_cons_zero, List.set_cons_succ]) | (refine chain_quiet rfl rfl rfl (fun K hK => ?_); go_big_quiet_op; refine hK _ ?_; clear hK K))
      refine chain_do rfl rfl (fun K hK => ?_); go_simp; refine (crc_right _ _ _ _ _ (hA.ext (by repeat (with_reducible first | exact Ext.refl _ | assumption | apply Ext.of_drew | apply Ext.of_drewN | apply Ext.drew | apply Ext.drewN | apply Ext.alloc | (refine Ext.trans ?_ (by assumption)))))).mono ?_; rintro e w21 ⟨rfl, hb21⟩; (refine hK _ _ hb21 ?_); clear hK K; have hb21W : Ext V3 w21 := Ext.trans (by repeat (with_reducible first | exact Ext.refl _ | assumption | apply Ext.of_drew | apply Ext.of_drewN | apply Ext.drew | apply Ext.drewN | apply Ext.alloc | (refine Ext.trans ?_ (by assumption)))) hb21; try simp only [Act.put, List.setIfInBounds_toArray, List.set_cons_zero, List.set_cons_succ]
      refine chain_do rfl rfl (fun K hK => ?_); go_simp; refine (crc_append _ _ _ _ p (h26.ext (by repeat (with_reducible first | exact Ext.refl _ | assumption | apply Ext.of_drew | apply Ext.of_drewN | apply Ext.drew | apply Ext.drewN | apply Ext.alloc | (refine Ext.trans ?_ (by assumption))))) (by omega)).mono ?_; rintro e w22 hc22; obtain ⟨A22, n22, c22, rfl, h22, hb22⟩ := hc22.sl; clear hc22; rw [HQ.out] at h22; (refine hK _ _ hb22 ?_); clear hK K; have hb22W : Ext V3 w22 := Ext.trans (by repeat (with_reducible first | exact Ext.refl _ | assumption | apply Ext.of_drew | apply Ext.of_drewN | apply Ext.drew | apply Ext.drewN | apply Ext.alloc | (refine Ext.trans ?_ (by assumption)))) hb22; try simp only [Act.put, List.setIfInBounds_toArray, List.set_cons_zero, List.set_cons_succ]
      refine chain_do rfl rfl (fun K hK => ?_); go_simp; refine (r1_same _ _ _ _ _ _ _ _ _ (hA.ext (by repeat (with_reducible first | exact Ext.refl _ | assumption | apply Ext.of_drew | apply Ext.of_drewN | apply Ext.drew | apply Ext.drewN | apply Ext.alloc | (refine Ext.trans ?_ (by assumption))))) h22).mono ?_; rintro e w23 ⟨rfl, k23, rfl⟩; (refine hK _ _ (by repeat (with_reducible first | exact Ext.refl _ | assumption | apply Ext.of_drew | apply Ext.of_drewN | apply Ext.drew | apply Ext.drewN | apply Ext.alloc | (refine Ext.trans ?_ (by assumption)))) ?_); clear hK K; try simp only [Act.put, List.setIfInBounds_toArray, List.set_cons_zero, List.set_cons_succ]
      iterate 2 (first | (refine chain_skip rfl rfl ?_; simp only [Act.put, List.setIfInBounds_toArray, List.set_cons_zero, List.set_cons_succ]) | (refine chain_quiet rfl rfl rfl (fun K hK => ?_); go_big_quiet_op; refine hK _ ?_; clear hK K))
      refine chain_row rfl rfl 27 _ rfl g rfl 27 tabV (0, 0) _ (hrow'' _ (by repeat (with_reducible first | exact Ext.refl _ | assumption | apply Ext.of_drew | apply Ext.of_drewN | apply Ext.drew | apply Ext.drewN | apply Ext.alloc | (refine Ext.trans ?_ (by assumption))))) Try.underlying27 rfl (tab_size 256) ?_; simp only [Act.put, List.setIfInBounds_toArray, List.set_cons_zero, List.set_cons_succ]
      iterate 4 (first | (refine chain_skip rfl rfl ?_; simp only [Act.put, List.setIfInBounds_toArray, List.set_cons_zero, List.set_cons_succ]) | (refine chain_quiet rfl rfl rfl (fun K hK => ?_); go_big_quiet_op; refine hK _ ?_; clear hK K))
      refine chain_do rfl rfl (fun K hK => ?_); go_simp; refine (crc_right _ _ _ _ _ (hB.ext (by repeat (with_reducible first | exact Ext.refl _ | assumption | apply Ext.of_drew | apply Ext.of_drewN | apply Ext.drew | apply Ext.drewN | apply Ext.alloc | (refine Ext.trans ?_ (by assumption)))))).mono ?_; rintro e w24 ⟨rfl, hb24⟩; (refine hK _ _ hb24 ?_); clear hK K; have hb24W : Ext V3 w24 := Ext.trans (by repeat (with_reducible first | exact Ext.refl _ | assumption | apply Ext.of_drew | apply Ext.of_drewN | apply Ext.drew | apply Ext.drewN | apply Ext.alloc | (refine Ext.trans ?_ (by assumption)))) hb24; try simp only [Act.put, List.setIfInBounds_toArray, List.set_cons_zero, List.set_cons_succ]
      iterate 3 (first | (refine chain_skip rfl rfl ?_; simp only [Act.put, List.setIfInBounds_toArray, List.set_cons_zero, List.set_cons_succ]) | (refine chain_quiet rfl rfl rfl (fun K hK => ?_); go_big_quiet_op; refine hK _ ?_; clear hK K))
      refine chain_end ?_
      go_wp2_with fail
      go_ret
      exact ⟨rfl, HW.out.trans (hx4.trans (by repeat (with_reducible first | exact Ext.refl _ | assumption | apply Ext.of_drew | apply Ext.of_drewN | apply Ext.drew | apply Ext.drewN | apply Ext.alloc | (refine Ext.trans ?_ (by assumption)))))⟩
end Go.Proofs.Ythpogmkhfgkgoaa
