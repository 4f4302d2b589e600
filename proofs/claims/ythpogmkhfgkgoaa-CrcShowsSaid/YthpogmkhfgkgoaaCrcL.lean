/- The law's own example of crc, awake: it is true. -/
import Derived.Test.YthpogmkhfgkgoaaCrcV
import Derived.Test.YthpogmkhfgkgoaaChain
namespace Go.Proofs.Ythpogmkhfgkgoaa
open Go.RowKit

theorem awake_sum : Crc.sum [49, 50, 51, 52, 53, 54, 55, 56, 57] = 10673 := by decide +kernel

set_option maxRecDepth 100000 in
set_option maxHeartbeats 800000 in
theorem law5_awake (w : World) : Calls Try.prog 7 #[] w fun e w' => e = .returned (.bool true) ∧ Ext w w' := by
  have kc := conv_const Try.underlying22 Try.underlying5
  go_enter Try.func7, Try.ntmps7
  go_wp2_with fail
  refine (crc_make _).mono ?_
  rintro e w1 ⟨rfl, hb1⟩
  go_wp2_with fail
  have h1 := sl_lit w1 ([49, 50, 51, 52, 53].map B8) 5 5 5 rfl rfl (by omega) (5, 6)
  have h2 := sl_lit (w1.alloc (.cells ([49, 50, 51, 52, 53].map B8).toArray 5 (5, 6))) ([54, 55, 56, 57].map B8) 5 4 4 rfl rfl (by omega) (4, 5)
  have h3 := sl_lit ((w1.alloc (.cells ([49, 50, 51, 52, 53].map B8).toArray 5 (5, 6))).alloc (.cells ([54, 55, 56, 57].map B8).toArray 5 (4, 5)))
    [SV (some ⟨w1.heap.size, 0, none⟩, 5, [49, 50, 51, 52, 53]), SV (some ⟨w1.heap.size + 1, 0, none⟩, 4, [54, 55, 56, 57])] 22 2 2 rfl rfl (by omega)
  simp only [World.size_alloc] at h2 h3
  have hq : Crc.sum (allOf [(some ⟨w1.heap.size, 0, none⟩, 5, [49, 50, 51, 52, 53]), (some ⟨w1.heap.size + 1, 0, none⟩, 4, [54, 55, 56, 57])]) = 10673 := awake_sum
  refine (crc_sum _ _ 2 2 [(some ⟨w1.heap.size, 0, none⟩, 5, [49, 50, 51, 52, 53]), (some ⟨w1.heap.size + 1, 0, none⟩, 4, [54, 55, 56, 57])] h3 ?_).mono ?_
  · intro p hp
    simp only [List.mem_cons, List.not_mem_nil, or_false] at hp
    rcases hp with rfl | rfl
    · exact (h1.alloc _).alloc _
    · exact h2.alloc _
  rw [hq]
  rintro e w2 ⟨rfl, hb2⟩
  go_wp2_with fail
  go_ret
  exact ⟨rfl, (((hb1.alloc _).alloc _).alloc _).trans hb2⟩

set_option maxRecDepth 100000 in
set_option maxHeartbeats 1600000 in
theorem law_CrcSums (w : World) (A : Option Addr) (n c : Nat) (xs : List UInt8) (h : SlB w A n c xs) (cut : Int) (hcut : 0 ≤ cut ∧ cut < 65536) :
    Calls Try.prog 3 #[.slice A n c, .int .u16 cut] w fun e w' => e = .returned (.bool true) ∧ Ext w w' := by
  have hl := h.max
  go_enter Try.func3, Try.ntmps3
  go_wp2_with fail
  refine (law5_awake _).mono ?_
  rintro e w1 ⟨rfl, hb1⟩
  go_wp2_with fail
  refine (r1_cut _ _ _ _ xs _ (h.ext hb1) (by omega)).mono ?_
  rintro e w2 hc2
  obtain ⟨A2, n2, c2, rfl, h2, hb2⟩ := (hc2.from hb1).sl
  have hn2 : n2 ≤ 200 := by rw [← h2.size]; simp; omega
  clear h hl hc2
  simp only [Int.reduceToNat] at h2
  generalize xs.take 200 = p at *
  go_wp2_with fail
  refine (crc_make _).mono ?_
  rintro e w3 ⟨rfl, hb3⟩
  have hb3' := hb2.trans hb3
  have hz := tab_zero
  obtain ⟨k, hk, hkm⟩ : ∃ k : Nat, k ≤ n2 ∧ (k : Int) = if (n2 : Int) < cut then (n2 : Int) else cut := by
    by_cases hlt : (n2 : Int) < cut
    · exact ⟨n2, Nat.le_refl _, by rw [if_pos hlt]⟩
    · exact ⟨cut.toNat, by omega, by rw [if_neg hlt]; omega⟩
  have hmin := fun ts ty => min_two ts ty .i64 .i64 cut (n2 : Int) k hkm
  clear hkm
  go_wp2_with (refine wpList_store_row rfl 27 _ _ rfl w3.heap.size tabV rfl rfl 27 (tabTo 0) (by exact heap_alloc_new _ _) (tab_size _) (by rw [tabTo_size]; exact (tabTo_size 256).symm) (tabTo_one _) ?_)
  rw [World.setRow_alloc_new]
  have hb4 := hb3'.alloc (.cells tabV 27)
  have h4 := h2.ext (hb3.alloc (.cells tabV 27))
  have hrow := heap_alloc_new w3 (.cells tabV 27)
  generalize w3.alloc (.cells tabV 27) = W at *
  generalize w3.heap.size = g at *
  clear hb1 hb2 hb3 hb3' h2 hz hcut hmin
  clear w1 w2 w3
  have hp := h4.size
  go_loop [7, 23] (fun s i => ∃ j : Nat, j ≤ n2 ∧ i = .int .i64 j ∧ s = .int .u16 (Crc.run 65535 (p.take j) : Nat)) (fun _ i => n2 - (intOf i).toNat)
  case atStart => exact ⟨0, by omega, rfl, rfl⟩
  case round =>
    obtain ⟨j, hj, rfl, rfl⟩ := hrel
    have hs := Crc.run_lt 65535 (p.take j) (by omega)
    by_cases hlt : j < n2
    · obtain ⟨b, o, rfl, hbs, hcell⟩ := h4.get (k := j) (by simp; omega)
      simp only [List.getElem_map, B8] at hcell
      have E := Lib.hid (show Crc.run 65535 (p.take (j + 1)) = Crc.step (Crc.run 65535 (p.take j)) (p[j]'(by omega)).toNat by rw [List.take_succ_eq_append_getElem (by omega), Crc.run_snoc])
      have hx := (p[j]'(by omega)).toNat_lt
      generalize Crc.run 65535 (p.take j) = s at *
      generalize (p[j]'(by omega)).toNat = x at *
      go_wp2_with fail
      refine (crc_step _ _ (by omega) (by omega) _).mono ?_
      rintro e w' ⟨rfl, rfl⟩
      go_wp2_with fail
      go_round
      case rel => exact ⟨j + 1, by omega, by go_num, by rw [E.out]⟩
      case measure => simp [intOf]; omega
    · have e : Crc.run 65535 (p.take j) = Crc.sum p := by rw [List.take_of_length_le (by omega)]; rfl
      rw [e] at hs ⊢
      go_wp2_with fail
      refine (ref5_sum _ _ _ _ p h4).mono ?_
      rintro e w' ⟨rfl, rfl⟩
      go_wp2_with fail
      have b1 : (0 : Int) ≤ (k : Int) := by omega
      have b2 : (k : Int) ≤ (n2 : Int) := by omega
      have e1 : (((Crc.sum p : Nat) : Int) == ((Crc.sum p : Nat) : Int)) = true := by simp
      have hle := h4.le
      have b3 : (k : Int) ≤ (c2 : Int) := by omega
      refine wp_region_chain [(0, true), (1, true), (4, true), (2, false), (3, false), (5, true), (6, true), (7, true), (8, true), (9, true), (10, true), (11, true), (12, true), (13, true), (16, true), (14, false), (15, false), (17, true), (18, true), (19, true), (20, true), (21, true), (22, true), (23, true), (24, true), (25, true), (26, false), (27, true), (28, true), (29, true)] (by kernel_rfl) (by kernel_rfl) ?_
      have hrow' := fun X (hx : Ext W X) => hx.heap hrow
      refine chain_row rfl rfl 27 _ rfl g rfl 27 tabV (0, 0) _ (hrow' _ (by repeat (with_reducible first | exact Ext.refl _ | assumption | apply Ext.of_drew | apply Ext.of_drewN | apply Ext.drew | apply Ext.drewN | apply Ext.alloc | (refine Ext.trans ?_ (by assumption))))) Try.underlying27 rfl (tab_size 256) ?_; simp only [Act.put, List.setIfInBounds_toArray, List.set_cons_zero, List.set_cons_succ]
      iterate 2 (first | (refine chain_skip rfl rfl ?_; simp only [Act.put, List.setIfInBounds_toArray, List.set_cons_zero, List.set_cons_succ]) | (refine chain_quiet rfl rfl rfl (fun K hK => ?_); go_big_quiet_op; refine hK _ ?_; clear hK K))
      (refine chain_do rfl rfl (fun K hK => ?_); go_simp; (refine hK _ _ (by repeat (with_reducible first | exact Ext.refl _ | assumption | apply Ext.of_drew | apply Ext.of_drewN | apply Ext.drew | apply Ext.drewN | apply Ext.alloc | (refine Ext.trans ?_ (by assumption)))) ?_); clear hK K)
      refine chain_do rfl rfl (fun K hK => ?_); go_simp; refine (crc_sum_one _ _ A2 n2 c2 p (by simp) (h4.ext (by repeat (with_reducible first | exact Ext.refl _ | assumption | apply Ext.of_drew | apply Ext.of_drewN | apply Ext.drew | apply Ext.drewN | apply Ext.alloc | (refine Ext.trans ?_ (by assumption)))))).mono ?_; rintro e w5 ⟨rfl, hb5⟩; (refine hK _ _ hb5 ?_); clear hK K; have hb5W : Ext W w5 := Ext.trans (by repeat (with_reducible first | exact Ext.refl _ | assumption | apply Ext.of_drew | apply Ext.of_drewN | apply Ext.drew | apply Ext.drewN | apply Ext.alloc | (refine Ext.trans ?_ (by assumption)))) hb5; try simp only [Act.put, List.setIfInBounds_toArray, List.set_cons_zero, List.set_cons_succ]
      iterate 2 (first | (refine chain_skip rfl rfl ?_; simp only [Act.put, List.setIfInBounds_toArray, List.set_cons_zero, List.set_cons_succ]) | (refine chain_quiet rfl rfl rfl (fun K hK => ?_); go_big_quiet_op; refine hK _ ?_; clear hK K))
      refine chain_row rfl rfl 27 _ rfl g rfl 27 tabV (0, 0) _ (hrow' _ (by repeat (with_reducible first | exact Ext.refl _ | assumption | apply Ext.of_drew | apply Ext.of_drewN | apply Ext.drew | apply Ext.drewN | apply Ext.alloc | (refine Ext.trans ?_ (by assumption))))) Try.underlying27 rfl (tab_size 256) ?_; simp only [Act.put, List.setIfInBounds_toArray, List.set_cons_zero, List.set_cons_succ]
      iterate 7 (first | (refine chain_skip rfl rfl ?_; simp only [Act.put, List.setIfInBounds_toArray, List.set_cons_zero, List.set_cons_succ]) | (refine chain_quiet rfl rfl rfl (fun K hK => ?_); go_big_quiet_op; refine hK _ ?_; clear hK K))
      (refine chain_do rfl rfl (fun K hK => ?_); go_simp; (refine hK _ _ (by repeat (with_reducible first | exact Ext.refl _ | assumption | apply Ext.of_drew | apply Ext.of_drewN | apply Ext.drew | apply Ext.drewN | apply Ext.alloc | (refine Ext.trans ?_ (by assumption)))) ?_); clear hK K)
      refine chain_do rfl rfl (fun K hK => ?_); go_simp; refine (crc_sum_two _ _ _ _ _ _ _ _ (p.take k) (p.drop k) (by simp) (by simp) ((h4.take k hk).ext (by repeat (with_reducible first | exact Ext.refl _ | assumption | apply Ext.of_drew | apply Ext.of_drewN | apply Ext.drew | apply Ext.drewN | apply Ext.alloc | (refine Ext.trans ?_ (by assumption))))) ((h4.drop k hk).ext (by repeat (with_reducible first | exact Ext.refl _ | assumption | apply Ext.of_drew | apply Ext.of_drewN | apply Ext.drew | apply Ext.drewN | apply Ext.alloc | (refine Ext.trans ?_ (by assumption)))))).mono ?_; rw [List.take_append_drop]; rintro e w7 ⟨rfl, hb7⟩; (refine hK _ _ hb7 ?_); clear hK K; have hb7W : Ext W w7 := Ext.trans (by repeat (with_reducible first | exact Ext.refl _ | assumption | apply Ext.of_drew | apply Ext.of_drewN | apply Ext.drew | apply Ext.drewN | apply Ext.alloc | (refine Ext.trans ?_ (by assumption)))) hb7; try simp only [Act.put, List.setIfInBounds_toArray, List.set_cons_zero, List.set_cons_succ]
      iterate 8 (first | (refine chain_skip rfl rfl ?_; simp only [Act.put, List.setIfInBounds_toArray, List.set_cons_zero, List.set_cons_succ]) | (refine chain_quiet rfl rfl rfl (fun K hK => ?_); go_big_quiet_op; refine hK _ ?_; clear hK K))
      refine chain_row rfl rfl 27 _ rfl g rfl 27 tabV (0, 0) _ (hrow' _ (by repeat (with_reducible first | exact Ext.refl _ | assumption | apply Ext.of_drew | apply Ext.of_drewN | apply Ext.drew | apply Ext.drewN | apply Ext.alloc | (refine Ext.trans ?_ (by assumption))))) Try.underlying27 rfl (tab_size 256) ?_; simp only [Act.put, List.setIfInBounds_toArray, List.set_cons_zero, List.set_cons_succ]
      refine chain_do rfl rfl (fun K hK => ?_); go_simp; refine (crc_sum_nil _).mono ?_; rintro e w8 ⟨rfl, hb8⟩; (refine hK _ _ hb8 ?_); clear hK K; have hb8W : Ext W w8 := Ext.trans (by repeat (with_reducible first | exact Ext.refl _ | assumption | apply Ext.of_drew | apply Ext.of_drewN | apply Ext.drew | apply Ext.drewN | apply Ext.alloc | (refine Ext.trans ?_ (by assumption)))) hb8; try simp only [Act.put, List.setIfInBounds_toArray, List.set_cons_zero, List.set_cons_succ]
      iterate 3 (first | (refine chain_skip rfl rfl ?_; simp only [Act.put, List.setIfInBounds_toArray, List.set_cons_zero, List.set_cons_succ]) | (refine chain_quiet rfl rfl rfl (fun K hK => ?_); go_big_quiet_op; refine hK _ ?_; clear hK K))
      refine chain_end ?_
      go_wp2_with fail
      all_goals
        go_ret
        exact ⟨rfl, hb4.trans hb8W⟩
end Go.Proofs.Ythpogmkhfgkgoaa
