/- The law CrcGoes, walked. -/
import Derived.Test.YthpogmkhfgkgoaaCrcL2
namespace Go.Proofs.Ythpogmkhfgkgoaa
open Go.RowKit

set_option maxRecDepth 100000 in
set_option maxHeartbeats 3200000 in
theorem law_CrcGoes (w : World) (A : Option Addr) (n c : Nat) (xs : List UInt8) (h : SlB w A n c xs) (at_ turn : Int) (ha : 0 ≤ at_ ∧ at_ < 65536) (ht : 0 ≤ turn ∧ turn < 256) :
    Calls Try.prog 4 #[.slice A n c, .int .u16 at_, .int .u8 turn] w fun e w' => e = .returned (.bool true) ∧ Ext w w' := by
  have hl := h.max
  obtain ⟨at_, rfl⟩ := Int.eq_ofNat_of_zero_le ha.1
  obtain ⟨tn, htn⟩ : ∃ x : UInt8, (x.toNat : Int) = turn := ⟨UInt8.ofNat turn.toNat, by simp; omega⟩
  subst htn
  go_enter Try.func4, Try.ntmps4
  go_wp2_with fail
  refine (law5_awake _).mono ?_
  rintro e w1 ⟨rfl, hb1⟩
  go_wp2_with fail
  refine (r1_cut _ _ _ _ xs _ (h.ext hb1) (by omega)).mono ?_
  rintro e w2 hc2
  obtain ⟨A2, n2, c2, rfl, h2, hb2⟩ := (hc2.from hb1).sl
  have hn2 : n2 ≤ 200 := by rw [← h2.size]; simp; omega
  clear h hl hc2 hb1
  simp only [Int.reduceToNat] at h2
  generalize xs.take 200 = p at *
  go_wp2_with fail
  refine (crc_make _).mono ?_
  rintro e w4 ⟨rfl, hb4⟩
  have hz := tab_zero
  go_wp2_with (refine wpList_store_row rfl 27 _ _ rfl w4.heap.size tabV rfl rfl 27 (tabTo 0) (by exact heap_alloc_new _ _) (tab_size _) (by rw [tabTo_size]; exact (tabTo_size 256).symm) (tabTo_one _) ?_; rw [tab_store])
  have hb5 := (hb2.trans hb4).alloc (.cells tabV 27)
  have h25 := h2.ext (hb4.alloc (.cells tabV 27))
  have hrow := heap_alloc_new w4 (.cells tabV 27)
  generalize w4.alloc (.cells tabV 27) = W at *
  generalize w4.heap.size = g at *
  clear hb2 h2 hb4 hz
  clear w1 w2 w4
  have hrow' := fun X (hx : Ext W X) => hx.heap hrow
  refine wp_region_chain [(0, true), (1, true), (2, true), (3, false), (4, false), (5, false), (6, true)] (by kernel_rfl) (by kernel_rfl) ?_
  refine chain_row rfl rfl 27 _ rfl g rfl 27 tabV (0, 0) _ (hrow' _ (by repeat (with_reducible first | exact Ext.refl _ | assumption | apply Ext.of_drew | apply Ext.of_drewN | apply Ext.drew | apply Ext.drewN | apply Ext.alloc | (refine Ext.trans ?_ (by assumption))))) Try.underlying27 rfl (tab_size 256) ?_; simp only [Act.put, List.setIfInBounds_toArray, List.set_cons_zero, List.set_cons_succ]
  refine chain_row rfl rfl 27 _ rfl g rfl 27 tabV (0, 0) _ (hrow' _ (by repeat (with_reducible first | exact Ext.refl _ | assumption | apply Ext.of_drew | apply Ext.of_drewN | apply Ext.drew | apply Ext.drewN | apply Ext.alloc | (refine Ext.trans ?_ (by assumption))))) Try.underlying27 rfl (tab_size 256) ?_; simp only [Act.put, List.setIfInBounds_toArray, List.set_cons_zero, List.set_cons_succ]
  (first | (refine chain_skip rfl rfl ?_; simp only [Act.put, List.setIfInBounds_toArray, List.set_cons_zero, List.set_cons_succ]) | (refine chain_quiet rfl rfl rfl (fun K hK => ?_); go_big_quiet_op; refine hK _ ?_; clear hK K))
  refine chain_do rfl rfl (fun K hK => ?_); go_simp; refine (crc_append _ _ _ _ p (h25.ext (by repeat (with_reducible first | exact Ext.refl _ | assumption | apply Ext.of_drew | apply Ext.of_drewN | apply Ext.drew | apply Ext.drewN | apply Ext.alloc | (refine Ext.trans ?_ (by assumption))))) (by omega)).mono ?_; rintro e w6 hc6; obtain ⟨A6, n6, c6, rfl, h6, hb6⟩ := hc6.sl; clear hc6; (refine hK _ _ hb6 ?_); clear hK K; have hb6W : Ext W w6 := Ext.trans (by repeat (with_reducible first | exact Ext.refl _ | assumption | apply Ext.of_drew | apply Ext.of_drewN | apply Ext.drew | apply Ext.drewN | apply Ext.alloc | (refine Ext.trans ?_ (by assumption)))) hb6; try simp only [Act.put, List.setIfInBounds_toArray, List.set_cons_zero, List.set_cons_succ]
  (refine chain_do rfl rfl (fun K hK => ?_); go_simp; (refine hK _ _ (by repeat (with_reducible first | exact Ext.refl _ | assumption | apply Ext.of_drew | apply Ext.of_drewN | apply Ext.drew | apply Ext.drewN | apply Ext.alloc | (refine Ext.trans ?_ (by assumption)))) ?_); clear hK K)
  refine chain_do rfl rfl (fun K hK => ?_); go_simp; refine (crc_sum_one _ _ A6 n6 c6 _ (by simp) (h6.ext (by repeat (with_reducible first | exact Ext.refl _ | assumption | apply Ext.of_drew | apply Ext.of_drewN | apply Ext.drew | apply Ext.drewN | apply Ext.alloc | (refine Ext.trans ?_ (by assumption)))))).mono ?_; rw [Crc.sum_withSum]; rintro e w7 ⟨rfl, hb7⟩; (refine hK _ _ hb7 ?_); clear hK K; have hb7W : Ext W w7 := Ext.trans (by repeat (with_reducible first | exact Ext.refl _ | assumption | apply Ext.of_drew | apply Ext.of_drewN | apply Ext.drew | apply Ext.drewN | apply Ext.alloc | (refine Ext.trans ?_ (by assumption)))) hb7; try simp only [Act.put, List.setIfInBounds_toArray, List.set_cons_zero, List.set_cons_succ]
  (first | (refine chain_skip rfl rfl ?_; simp only [Act.put, List.setIfInBounds_toArray, List.set_cons_zero, List.set_cons_succ]) | (refine chain_quiet rfl rfl rfl (fun K hK => ?_); go_big_quiet_op; refine hK _ ?_; clear hK K))
  refine chain_end ?_
  have hp2 := h25.size
  clear h6
  by_cases hz : n2 = 0
  · have e0 : ((n2 : Int) == 0) = true := by simp; omega
    go_wp2_with fail
    go_ret
    exact ⟨rfl, (by repeat (with_reducible first | exact Ext.refl _ | assumption | apply Ext.of_drew | apply Ext.of_drewN | apply Ext.drew | apply Ext.drewN | apply Ext.alloc | (refine Ext.trans ?_ (by assumption))))⟩
  · have e0 : ((n2 : Int) == 0) = false := by simp; omega
    have hpos : 0 < n2 := by omega
    clear hz
    go_wp2_with fail
    refine (r1_join_one _ _ A2 n2 c2 p (by simp) (h25.ext (by repeat (with_reducible first | exact Ext.refl _ | assumption | apply Ext.of_drew | apply Ext.of_drewN | apply Ext.drew | apply Ext.drewN | apply Ext.alloc | (refine Ext.trans ?_ (by assumption))))) (by omega)).mono ?_
    rintro e w8 hc8
    obtain ⟨A8, n8, c8, rfl, ho8, hb8⟩ := hc8
    have hs8 := (SlB.of_own ho8).size
    rw [hp2] at hs8
    subst hs8
    obtain ⟨b8, o8, hA8, _, _⟩ := (SlB.of_own ho8).get (k := 0) (by simp; omega)
    have hform : ∃ gq, A8 = some ⟨gq, 0, none⟩ := by
      rcases ho8.2 with ⟨h', _⟩ | ⟨gq, cap, cur, h', _⟩
      · cases h'; cases hA8
      · cases h'; exact ⟨gq, rfl⟩
    clear hA8
    obtain ⟨gq, rfl⟩ := hform
    have hgq := (ho8.lt gq rfl).1
    obtain ⟨i, hi, hii⟩ : ∃ i : Nat, i < n2 ∧ ((at_ : Int).tmod (n2 : Int)) = (i : Int) := ⟨at_ % n2, Nat.mod_lt _ hpos, by rw [Int.tmod_eq_emod_of_nonneg (by omega)]; simp⟩
    have hcell : w8.cell? ⟨gq, i, none⟩ = some (.int .u8 (p[i]'(by omega)).toNat) := by
      rw [ho8.cellAt i (by omega)]
      simp [show i < p.length by omega]
    have hfr : w8.frozen? ⟨gq, i, none⟩ = false := ho8.frozenAt i
    have hx := (p[i]'(by omega)).toNat_lt
    have hxor := u8_xor_nat (p[i]'(by omega)).toNat tn.toNat hx tn.toNat_lt
    go_wp2_with fail
    have hq := Crc.sum_turn_iff p i (by omega) tn
    have hst := (ho8.stored i (.int .u8 ((p[i]'(by omega)).toNat ^^^ tn.toNat : Nat))).1
    have hset : (p.map B8).set i (.int .u8 ((p[i]'(by omega)).toNat ^^^ tn.toNat : Nat)) = (p.set i (p[i]'(by omega) ^^^ tn)).map B8 := by
      rw [List.map_set]
      simp [B8]
    rw [hset] at hst
    have hV : Ext W (w8.setCell ⟨gq, i, none⟩ (.int .u8 ((p[i]'(by omega)).toNat ^^^ tn.toNat : Nat))) := Ext.setCell (by repeat (with_reducible first | exact Ext.refl _ | assumption | apply Ext.of_drew | apply Ext.of_drewN | apply Ext.drew | apply Ext.drewN | apply Ext.alloc | (refine Ext.trans ?_ (by assumption)))) (by have := hb7W.size; simp only [World.size_alloc] at hgq ⊢; omega) _
    have hqV := SlB.of_own hst
    generalize w8.setCell ⟨gq, i, none⟩ (.int .u8 ((p[i]'(by omega)).toNat ^^^ tn.toNat : Nat)) = V at *
    generalize p.set i (p[i]'(by omega) ^^^ tn) = q at *
    clear hst hset hcell hfr hxor hb8 ho8 hgq hb7 hb7W hb6 hb6W hx
    have HQ := Lib.hid hq
    clear hq
    refine wp_region_open [(0, true), (1, true), (4, true), (5, true), (9, true), (10, true)] 7 (by kernel_rfl) (by kernel_rfl) ?_
    refine chain_row rfl rfl 27 _ rfl g rfl 27 tabV (0, 0) _ (hrow' _ (by repeat (with_reducible first | exact Ext.refl _ | assumption | apply Ext.of_drew | apply Ext.of_drewN | apply Ext.drew | apply Ext.drewN | apply Ext.alloc | (refine Ext.trans ?_ (by assumption))))) Try.underlying27 rfl (tab_size 256) ?_; simp only [Act.put, List.setIfInBounds_toArray, List.set_cons_zero, List.set_cons_succ]
    (first | (refine chain_skip rfl rfl ?_; simp only [Act.put, List.setIfInBounds_toArray, List.set_cons_zero, List.set_cons_succ]) | (refine chain_quiet rfl rfl rfl (fun K hK => ?_); go_big_quiet_op; refine hK _ ?_; clear hK K))
    refine chain_row rfl rfl 27 _ rfl g rfl 27 tabV (0, 0) _ (hrow' _ (by repeat (with_reducible first | exact Ext.refl _ | assumption | apply Ext.of_drew | apply Ext.of_drewN | apply Ext.drew | apply Ext.drewN | apply Ext.alloc | (refine Ext.trans ?_ (by assumption))))) Try.underlying27 rfl (tab_size 256) ?_; simp only [Act.put, List.setIfInBounds_toArray, List.set_cons_zero, List.set_cons_succ]
    iterate 3 (first | (refine chain_skip rfl rfl ?_; simp only [Act.put, List.setIfInBounds_toArray, List.set_cons_zero, List.set_cons_succ]) | (refine chain_quiet rfl rfl rfl (fun K hK => ?_); go_big_quiet_op; refine hK _ ?_; clear hK K))
    refine chain_nil ?_
    have fin : ((((Crc.sum p : Nat) : Int) == ((Crc.sum q : Nat) : Int)) == (((tn.toNat : Nat) : Int) == 0)) = true := by
      have := HQ.out
      rw [beq_iff_eq, Bool.eq_iff_iff]
      simp only [beq_iff_eq, Int.natCast_inj]
      rw [this, ← UInt8.toNat_inj]
      simp
    have FIN := Lib.hid fin
    clear fin
    refine any_two (i := 2) (j := 6) (by kernel_rfl) rfl rfl rfl rfl (fun K hK => ?_) (fun K hK => ?_)
    · go_simp
      refine hK _ _ (by repeat (with_reducible first | exact Ext.refl _ | assumption | apply Ext.of_drew | apply Ext.of_drewN | apply Ext.drew | apply Ext.drewN | apply Ext.alloc | (refine Ext.trans ?_ (by assumption)))) ?_
      clear hK K
      refine any_two (i := 3) (j := 6) (by kernel_rfl) rfl rfl rfl rfl (fun K hK => ?_) (fun K hK => ?_)
      · go_simp
        (refine (crc_sum_one _ _ A2 n2 c2 p (by simp) (h25.ext (by repeat (with_reducible first | exact Ext.refl _ | assumption | apply Ext.of_drew | apply Ext.of_drewN | apply Ext.drew | apply Ext.drewN | apply Ext.alloc | (refine Ext.trans ?_ (by assumption)))))).mono ?_); rintro e w20 ⟨rfl, hb20⟩; (refine hK _ _ hb20 ?_); clear hK K; try simp only [Act.put, List.setIfInBounds_toArray, List.set_cons_zero, List.set_cons_succ]
        refine any_chain [(6, false), (7, false), (8, true), (11, true), (12, true)] (by kernel_rfl) ?_
        (refine chain_do rfl rfl (fun K hK => ?_); go_simp; (refine hK _ _ (by repeat (with_reducible first | exact Ext.refl _ | assumption | apply Ext.of_drew | apply Ext.of_drewN | apply Ext.drew | apply Ext.drewN | apply Ext.alloc | (refine Ext.trans ?_ (by assumption)))) ?_); clear hK K)
        refine chain_do rfl rfl (fun K hK => ?_); go_simp; (refine (crc_sum_one _ _ (some ⟨gq, 0, none⟩) n2 c8 q (by simp) (hqV.ext (by repeat (with_reducible first | exact Ext.refl _ | assumption | apply Ext.of_drew | apply Ext.of_drewN | apply Ext.drew | apply Ext.drewN | apply Ext.alloc | (refine Ext.trans ?_ (by assumption)))))).mono ?_); rintro e w21 ⟨rfl, hb21⟩; (refine hK _ _ hb21 ?_); clear hK K; try simp only [Act.put, List.setIfInBounds_toArray, List.set_cons_zero, List.set_cons_succ]
        iterate 3 (first | (refine chain_skip rfl rfl ?_; simp only [Act.put, List.setIfInBounds_toArray, List.set_cons_zero, List.set_cons_succ]) | (refine chain_quiet rfl rfl rfl (fun K hK => ?_); go_big_quiet_op; refine hK _ ?_; clear hK K))
        refine chain_end ?_
        go_wp2_with fail
        go_ret
        exact ⟨ret_bool FIN.out, (by repeat (with_reducible first | exact Ext.refl _ | assumption | apply Ext.of_drew | apply Ext.of_drewN | apply Ext.drew | apply Ext.drewN | apply Ext.alloc | (refine Ext.trans ?_ (by assumption))))⟩
      · go_simp
        refine hK _ _ (by repeat (with_reducible first | exact Ext.refl _ | assumption | apply Ext.of_drew | apply Ext.of_drewN | apply Ext.drew | apply Ext.drewN | apply Ext.alloc | (refine Ext.trans ?_ (by assumption)))) ?_
        clear hK K
        refine any_chain [(3, false), (7, false), (8, true), (11, true), (12, true)] (by kernel_rfl) ?_
        refine chain_do rfl rfl (fun K hK => ?_); go_simp; (refine (crc_sum_one _ _ A2 n2 c2 p (by simp) (h25.ext (by repeat (with_reducible first | exact Ext.refl _ | assumption | apply Ext.of_drew | apply Ext.of_drewN | apply Ext.drew | apply Ext.drewN | apply Ext.alloc | (refine Ext.trans ?_ (by assumption)))))).mono ?_); rintro e w20 ⟨rfl, hb20⟩; (refine hK _ _ hb20 ?_); clear hK K; try simp only [Act.put, List.setIfInBounds_toArray, List.set_cons_zero, List.set_cons_succ]
        refine chain_do rfl rfl (fun K hK => ?_); go_simp; (refine (crc_sum_one _ _ (some ⟨gq, 0, none⟩) n2 c8 q (hb20.cell_some (by simp)) (hqV.ext (by repeat (with_reducible first | exact Ext.refl _ | assumption | apply Ext.of_drew | apply Ext.of_drewN | apply Ext.drew | apply Ext.drewN | apply Ext.alloc | (refine Ext.trans ?_ (by assumption)))))).mono ?_); rintro e w21 ⟨rfl, hb21⟩; (refine hK _ _ hb21 ?_); clear hK K; try simp only [Act.put, List.setIfInBounds_toArray, List.set_cons_zero, List.set_cons_succ]
        iterate 3 (first | (refine chain_skip rfl rfl ?_; simp only [Act.put, List.setIfInBounds_toArray, List.set_cons_zero, List.set_cons_succ]) | (refine chain_quiet rfl rfl rfl (fun K hK => ?_); go_big_quiet_op; refine hK _ ?_; clear hK K))
        refine chain_end ?_
        go_wp2_with fail
        go_ret
        exact ⟨ret_bool FIN.out, (by repeat (with_reducible first | exact Ext.refl _ | assumption | apply Ext.of_drew | apply Ext.of_drewN | apply Ext.drew | apply Ext.drewN | apply Ext.alloc | (refine Ext.trans ?_ (by assumption))))⟩
    · go_simp
      refine hK _ _ (by repeat (with_reducible first | exact Ext.refl _ | assumption | apply Ext.of_drew | apply Ext.of_drewN | apply Ext.drew | apply Ext.drewN | apply Ext.alloc | (refine Ext.trans ?_ (by assumption)))) ?_
      clear hK K
      refine any_chain [(2, false), (3, false), (7, false), (8, true), (11, true), (12, true)] (by kernel_rfl) ?_
      (refine chain_do rfl rfl (fun K hK => ?_); go_simp; (refine hK _ _ (by repeat (with_reducible first | exact Ext.refl _ | assumption | apply Ext.of_drew | apply Ext.of_drewN | apply Ext.drew | apply Ext.drewN | apply Ext.alloc | (refine Ext.trans ?_ (by assumption)))) ?_); clear hK K)
      refine chain_do rfl rfl (fun K hK => ?_); go_simp; (refine (crc_sum_one _ _ A2 n2 c2 p (by simp) (h25.ext (by repeat (with_reducible first | exact Ext.refl _ | assumption | apply Ext.of_drew | apply Ext.of_drewN | apply Ext.drew | apply Ext.drewN | apply Ext.alloc | (refine Ext.trans ?_ (by assumption)))))).mono ?_); rintro e w20 ⟨rfl, hb20⟩; (refine hK _ _ hb20 ?_); clear hK K; try simp only [Act.put, List.setIfInBounds_toArray, List.set_cons_zero, List.set_cons_succ]
      refine chain_do rfl rfl (fun K hK => ?_); go_simp; (refine (crc_sum_one _ _ (some ⟨gq, 0, none⟩) n2 c8 q (hb20.cell_some (by simp)) (hqV.ext (by repeat (with_reducible first | exact Ext.refl _ | assumption | apply Ext.of_drew | apply Ext.of_drewN | apply Ext.drew | apply Ext.drewN | apply Ext.alloc | (refine Ext.trans ?_ (by assumption)))))).mono ?_); rintro e w21 ⟨rfl, hb21⟩; (refine hK _ _ hb21 ?_); clear hK K; try simp only [Act.put, List.setIfInBounds_toArray, List.set_cons_zero, List.set_cons_succ]
      iterate 3 (first | (refine chain_skip rfl rfl ?_; simp only [Act.put, List.setIfInBounds_toArray, List.set_cons_zero, List.set_cons_succ]) | (refine chain_quiet rfl rfl rfl (fun K hK => ?_); go_big_quiet_op; refine hK _ ?_; clear hK K))
      refine chain_end ?_
      go_wp2_with fail
      go_ret
      exact ⟨ret_bool FIN.out, (by repeat (with_reducible first | exact Ext.refl _ | assumption | apply Ext.of_drew | apply Ext.of_drewN | apply Ext.drew | apply Ext.drewN | apply Ext.alloc | (refine Ext.trans ?_ (by assumption))))⟩
end Go.Proofs.Ythpogmkhfgkgoaa
