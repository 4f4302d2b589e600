/- The law CrcCuts, walked. -/
import Derived.Test.YthpogmkhfgkgoaaCrcL
import Derived.Test.YthpogmkhfgkgoaaCrcQ
namespace Go.Proofs.Ythpogmkhfgkgoaa
open Go.RowKit

theorem tab_store (w : World) : (w.alloc (.cells (tabTo 0) 27)).setRow w.heap.size tabV = w.alloc (.cells tabV 27) := World.setRow_alloc_new _ _ _ _

set_option maxRecDepth 100000 in
set_option maxHeartbeats 3200000 in
theorem law_CrcCuts (w : World) (A : Option Addr) (n c : Nat) (xs : List UInt8) (h : SlB w A n c xs) (B : Option Addr) (m d : Nat) (ys : List UInt8) (h' : SlB w B m d ys) :
    Calls Try.prog 6 #[.slice A n c, .slice B m d] w fun e w' => e = .returned (.bool true) ∧ Ext w w' := by
  have hl := h.max
  go_enter Try.func6, Try.ntmps6
  go_wp2_with fail
  refine (law5_awake _).mono ?_
  rintro e w1 ⟨rfl, hb1⟩
  go_wp2_with fail
  refine (r1_cut _ _ _ _ xs _ (h.ext hb1) (by omega)).mono ?_
  rintro e w2 hc2
  obtain ⟨A2, n2, c2, rfl, h2, hb2⟩ := (hc2.from hb1).sl
  have hn2 : n2 ≤ 200 := by rw [← h2.size]; simp; omega
  clear h hl hc2 hb1
  simp only [Int.reduceToNat] at h2
  generalize xs.take 200 = p at *
  go_wp2_with fail
  refine (r1_cut _ _ _ _ ys _ (h'.ext hb2) (by omega)).mono ?_
  rintro e w3 hc3
  obtain ⟨A3, n3, c3, rfl, h3, hb3⟩ := hc3.sl
  have h2' := h2.ext hb3
  have hb3' := hb2.trans hb3
  have hn3 : n3 ≤ 20 := by rw [← h3.size]; simp; omega
  clear h' hc3 hb2 h2 hb3
  simp only [Int.reduceToNat] at h3
  generalize ys.take 20 = r at *
  go_wp2_with fail
  refine (crc_make _).mono ?_
  rintro e w4 ⟨rfl, hb4⟩
  have hz := tab_zero
  go_wp2_with (refine wpList_store_row rfl 27 _ _ rfl w4.heap.size tabV rfl rfl 27 (tabTo 0) (by exact heap_alloc_new _ _) (tab_size _) (by rw [tabTo_size]; exact (tabTo_size 256).symm) (tabTo_one _) ?_; rw [tab_store])
  have hb5 := (hb3'.trans hb4).alloc (.cells tabV 27)
  have h25 := h2'.ext (hb4.alloc (.cells tabV 27))
  have h35 := h3.ext (hb4.alloc (.cells tabV 27))
  have hrow := heap_alloc_new w4 (.cells tabV 27)
  generalize w4.alloc (.cells tabV 27) = W at *
  generalize w4.heap.size = g at *
  clear hb3' h3 h2' hb4 hz
  clear w1 w2 w3 w4
  have hrow' := fun X (hx : Ext W X) => hx.heap hrow
  refine wp_load_row 27 _ rfl g rfl 27 tabV (0, 0) _ (hrow' _ (by repeat (with_reducible first | exact Ext.refl _ | assumption | apply Ext.of_drew | apply Ext.of_drewN | apply Ext.drew | apply Ext.drewN | apply Ext.alloc | (refine Ext.trans ?_ (by assumption))))) Try.underlying27 rfl (tab_size 256) ?_
  go_wp2_with (refine wpList_row rfl 27 _ rfl g rfl 27 tabV (0, 0) _ (hrow' _ (by repeat (with_reducible first | exact Ext.refl _ | assumption | apply Ext.of_drew | apply Ext.of_drewN | apply Ext.drew | apply Ext.drewN | apply Ext.alloc | (refine Ext.trans ?_ (by assumption))))) Try.underlying27 rfl (tab_size 256) ?_)
  refine (crc_append _ _ _ _ p (h25.ext (by repeat (with_reducible first | exact Ext.refl _ | assumption | apply Ext.of_drew | apply Ext.of_drewN | apply Ext.drew | apply Ext.drewN | apply Ext.alloc | (refine Ext.trans ?_ (by assumption))))) (by omega)).mono ?_
  rintro e w6 hc6
  obtain ⟨A6, n6, c6, rfl, h6, hb6⟩ := hc6.sl
  have hn6 : n6 = p.length + 2 := by rw [← h6.size, Crc.withSum_length]
  have hn6' : n6 ≤ 300 := by have := h25.size; omega
  have Hn6 := Lib.hid hn6
  clear hn6 hc6
  go_wp2_with (refine wpList_row rfl 27 _ rfl g rfl 27 tabV (0, 0) _ (hrow' _ (by repeat (with_reducible first | exact Ext.refl _ | assumption | apply Ext.of_drew | apply Ext.of_drewN | apply Ext.drew | apply Ext.drewN | apply Ext.alloc | (refine Ext.trans ?_ (by assumption))))) Try.underlying27 rfl (tab_size 256) ?_)
  refine (crc_cut_ok _ _ _ _ _ (h6.ext (by repeat (with_reducible first | exact Ext.refl _ | assumption | apply Ext.of_drew | apply Ext.of_drewN | apply Ext.drew | apply Ext.drewN | apply Ext.alloc | (refine Ext.trans ?_ (by assumption))))) (by omega) (Crc.rightB_withSum p)).mono ?_
  rintro e w7 hc7
  obtain ⟨A7, n7, c7, rfl, ho7, hb7⟩ := hc7
  have h7 : SlB w7 A7 n7 c7 p := by
    have := SlB.of_own ho7
    rwa [← h6.size, Crc.take_withSum] at this
  clear ho7
  have hrs := h35.size
  have hle3 := h35.le
  by_cases hr2 : n3 < 2
  · have hR := Lib.hid (Crc.rightB_short r (by omega))
    go_wp2_with (refine wpList_row rfl 27 _ rfl g rfl 27 tabV (0, 0) _ (hrow' _ (by repeat (with_reducible first | exact Ext.refl _ | assumption | apply Ext.of_drew | apply Ext.of_drewN | apply Ext.drew | apply Ext.drewN | apply Ext.alloc | (refine Ext.trans ?_ (by assumption))))) Try.underlying27 rfl (tab_size 256) ?_)
    refine (crc_cut_form _ _ _ _ r (h35.ext (by repeat (with_reducible first | exact Ext.refl _ | assumption | apply Ext.of_drew | apply Ext.of_drewN | apply Ext.drew | apply Ext.drewN | apply Ext.alloc | (refine Ext.trans ?_ (by assumption))))) hr2).mono ?_
    rintro e w8 ⟨rfl, hb8⟩
    go_wp2_with (refine wpList_row rfl 27 _ rfl g rfl 27 tabV (0, 0) _ (hrow' _ (by repeat (with_reducible first | exact Ext.refl _ | assumption | apply Ext.of_drew | apply Ext.of_drewN | apply Ext.drew | apply Ext.drewN | apply Ext.alloc | (refine Ext.trans ?_ (by assumption))))) Try.underlying27 rfl (tab_size 256) ?_)
    refine (ref5_append _ _ _ _ p (h25.ext (by repeat (with_reducible first | exact Ext.refl _ | assumption | apply Ext.of_drew | apply Ext.of_drewN | apply Ext.drew | apply Ext.drewN | apply Ext.alloc | (refine Ext.trans ?_ (by assumption))))) (by omega)).mono ?_
    rintro e w9 hc9
    obtain ⟨A9, n9, c9, rfl, h9, hb9⟩ := hc9.sl
    clear hc9
    go_wp2_with (refine wpList_row rfl 27 _ rfl g rfl 27 tabV (0, 0) _ (hrow' _ (by repeat (with_reducible first | exact Ext.refl _ | assumption | apply Ext.of_drew | apply Ext.of_drewN | apply Ext.drew | apply Ext.drewN | apply Ext.alloc | (refine Ext.trans ?_ (by assumption))))) Try.underlying27 rfl (tab_size 256) ?_)
    refine (r1_same _ _ _ _ _ _ _ _ _ (h6.ext (by repeat (with_reducible first | exact Ext.refl _ | assumption | apply Ext.of_drew | apply Ext.of_drewN | apply Ext.drew | apply Ext.drewN | apply Ext.alloc | (refine Ext.trans ?_ (by assumption))))) h9).mono ?_
    rw [sameB_true rfl]
    rintro e w10 ⟨rfl, k1, rfl⟩
    go_wp2_with (refine wpList_row rfl 27 _ rfl g rfl 27 tabV (0, 0) _ (hrow' _ (by repeat (with_reducible first | exact Ext.refl _ | assumption | apply Ext.of_drew | apply Ext.of_drewN | apply Ext.drew | apply Ext.drewN | apply Ext.alloc | (refine Ext.trans ?_ (by assumption))))) Try.underlying27 rfl (tab_size 256) ?_)
    refine (crc_right _ _ _ _ _ (h6.ext (by repeat (with_reducible first | exact Ext.refl _ | assumption | apply Ext.of_drew | apply Ext.of_drewN | apply Ext.drew | apply Ext.drewN | apply Ext.alloc | (refine Ext.trans ?_ (by assumption)))))).mono ?_
    rw [Crc.rightB_withSum]
    rintro e w11 ⟨rfl, hb11⟩
    go_wp2_with (refine wpList_row rfl 27 _ rfl g rfl 27 tabV (0, 0) _ (hrow' _ (by repeat (with_reducible first | exact Ext.refl _ | assumption | apply Ext.of_drew | apply Ext.of_drewN | apply Ext.drew | apply Ext.drewN | apply Ext.alloc | (refine Ext.trans ?_ (by assumption))))) Try.underlying27 rfl (tab_size 256) ?_)
    refine (r1_same _ _ _ _ _ _ _ _ _ (h7.ext (by repeat (with_reducible first | exact Ext.refl _ | assumption | apply Ext.of_drew | apply Ext.of_drewN | apply Ext.drew | apply Ext.drewN | apply Ext.alloc | (refine Ext.trans ?_ (by assumption))))) (h25.ext (by repeat (with_reducible first | exact Ext.refl _ | assumption | apply Ext.of_drew | apply Ext.of_drewN | apply Ext.drew | apply Ext.drewN | apply Ext.alloc | (refine Ext.trans ?_ (by assumption)))))).mono ?_
    rw [sameB_true rfl]
    rintro e w12 ⟨rfl, k2, rfl⟩
    go_wp2_with (refine wpList_row rfl 27 _ rfl g rfl 27 tabV (0, 0) _ (hrow' _ (by repeat (with_reducible first | exact Ext.refl _ | assumption | apply Ext.of_drew | apply Ext.of_drewN | apply Ext.drew | apply Ext.drewN | apply Ext.alloc | (refine Ext.trans ?_ (by assumption))))) Try.underlying27 rfl (tab_size 256) ?_)
    refine (crc_right _ _ _ _ r (h35.ext (by repeat (with_reducible first | exact Ext.refl _ | assumption | apply Ext.of_drew | apply Ext.of_drewN | apply Ext.drew | apply Ext.drewN | apply Ext.alloc | (refine Ext.trans ?_ (by assumption)))))).mono ?_
    rw [hR.out]
    rintro e w13 ⟨rfl, hb13⟩
    go_wp2_with fail
    go_ret
    exact ⟨rfl, (by repeat (with_reducible first | exact Ext.refl _ | assumption | apply Ext.of_drew | apply Ext.of_drewN | apply Ext.drew | apply Ext.drewN | apply Ext.alloc | (refine Ext.trans ?_ (by assumption))))⟩
  · by_cases hr : Crc.rightB r = true
    · have hR := Lib.hid hr
      clear hr
      go_wp2_with (refine wpList_row rfl 27 _ rfl g rfl 27 tabV (0, 0) _ (hrow' _ (by repeat (with_reducible first | exact Ext.refl _ | assumption | apply Ext.of_drew | apply Ext.of_drewN | apply Ext.drew | apply Ext.drewN | apply Ext.alloc | (refine Ext.trans ?_ (by assumption))))) Try.underlying27 rfl (tab_size 256) ?_)
      refine (crc_cut_ok _ _ _ _ r (h35.ext (by repeat (with_reducible first | exact Ext.refl _ | assumption | apply Ext.of_drew | apply Ext.of_drewN | apply Ext.drew | apply Ext.drewN | apply Ext.alloc | (refine Ext.trans ?_ (by assumption))))) (by omega) hR.out).mono ?_
      rintro e w8 hc8
      obtain ⟨A8, n8, c8, rfl, ho8, hb8⟩ := hc8
      have h8 := SlB.of_own ho8
      clear ho8
      go_wp2_with (refine wpList_row rfl 27 _ rfl g rfl 27 tabV (0, 0) _ (hrow' _ (by repeat (with_reducible first | exact Ext.refl _ | assumption | apply Ext.of_drew | apply Ext.of_drewN | apply Ext.drew | apply Ext.drewN | apply Ext.alloc | (refine Ext.trans ?_ (by assumption))))) Try.underlying27 rfl (tab_size 256) ?_)
      refine (ref5_right _ _ _ _ r (h35.ext (by repeat (with_reducible first | exact Ext.refl _ | assumption | apply Ext.of_drew | apply Ext.of_drewN | apply Ext.drew | apply Ext.drewN | apply Ext.alloc | (refine Ext.trans ?_ (by assumption)))))).mono ?_
      rw [hR.out]
      rintro e w14 ⟨rfl, k0, rfl⟩
      go_wp2_with (refine wpList_row rfl 27 _ rfl g rfl 27 tabV (0, 0) _ (hrow' _ (by repeat (with_reducible first | exact Ext.refl _ | assumption | apply Ext.of_drew | apply Ext.of_drewN | apply Ext.drew | apply Ext.drewN | apply Ext.alloc | (refine Ext.trans ?_ (by assumption))))) Try.underlying27 rfl (tab_size 256) ?_)
      refine (ref5_append _ _ _ _ p (h25.ext (by repeat (with_reducible first | exact Ext.refl _ | assumption | apply Ext.of_drew | apply Ext.of_drewN | apply Ext.drew | apply Ext.drewN | apply Ext.alloc | (refine Ext.trans ?_ (by assumption))))) (by omega)).mono ?_
      rintro e w9 hc9
      obtain ⟨A9, n9, c9, rfl, h9, hb9⟩ := hc9.sl
      clear hc9
      go_wp2_with (refine wpList_row rfl 27 _ rfl g rfl 27 tabV (0, 0) _ (hrow' _ (by repeat (with_reducible first | exact Ext.refl _ | assumption | apply Ext.of_drew | apply Ext.of_drewN | apply Ext.drew | apply Ext.drewN | apply Ext.alloc | (refine Ext.trans ?_ (by assumption))))) Try.underlying27 rfl (tab_size 256) ?_)
      refine (r1_same _ _ _ _ _ _ _ _ _ (h6.ext (by repeat (with_reducible first | exact Ext.refl _ | assumption | apply Ext.of_drew | apply Ext.of_drewN | apply Ext.drew | apply Ext.drewN | apply Ext.alloc | (refine Ext.trans ?_ (by assumption))))) h9).mono ?_
      rw [sameB_true rfl]
      rintro e w10 ⟨rfl, k1, rfl⟩
      go_wp2_with (refine wpList_row rfl 27 _ rfl g rfl 27 tabV (0, 0) _ (hrow' _ (by repeat (with_reducible first | exact Ext.refl _ | assumption | apply Ext.of_drew | apply Ext.of_drewN | apply Ext.drew | apply Ext.drewN | apply Ext.alloc | (refine Ext.trans ?_ (by assumption))))) Try.underlying27 rfl (tab_size 256) ?_)
      refine (crc_right _ _ _ _ _ (h6.ext (by repeat (with_reducible first | exact Ext.refl _ | assumption | apply Ext.of_drew | apply Ext.of_drewN | apply Ext.drew | apply Ext.drewN | apply Ext.alloc | (refine Ext.trans ?_ (by assumption)))))).mono ?_
      rw [Crc.rightB_withSum]
      rintro e w11 ⟨rfl, hb11⟩
      go_wp2_with (refine wpList_row rfl 27 _ rfl g rfl 27 tabV (0, 0) _ (hrow' _ (by repeat (with_reducible first | exact Ext.refl _ | assumption | apply Ext.of_drew | apply Ext.of_drewN | apply Ext.drew | apply Ext.drewN | apply Ext.alloc | (refine Ext.trans ?_ (by assumption))))) Try.underlying27 rfl (tab_size 256) ?_)
      refine (r1_same _ _ _ _ _ _ _ _ _ (h7.ext (by repeat (with_reducible first | exact Ext.refl _ | assumption | apply Ext.of_drew | apply Ext.of_drewN | apply Ext.drew | apply Ext.drewN | apply Ext.alloc | (refine Ext.trans ?_ (by assumption))))) (h25.ext (by repeat (with_reducible first | exact Ext.refl _ | assumption | apply Ext.of_drew | apply Ext.of_drewN | apply Ext.drew | apply Ext.drewN | apply Ext.alloc | (refine Ext.trans ?_ (by assumption)))))).mono ?_
      rw [sameB_true rfl]
      rintro e w12 ⟨rfl, k2, rfl⟩
      go_wp2_with (refine wpList_row rfl 27 _ rfl g rfl 27 tabV (0, 0) _ (hrow' _ (by repeat (with_reducible first | exact Ext.refl _ | assumption | apply Ext.of_drew | apply Ext.of_drewN | apply Ext.drew | apply Ext.drewN | apply Ext.alloc | (refine Ext.trans ?_ (by assumption))))) Try.underlying27 rfl (tab_size 256) ?_)
      refine (crc_right _ _ _ _ r (h35.ext (by repeat (with_reducible first | exact Ext.refl _ | assumption | apply Ext.of_drew | apply Ext.of_drewN | apply Ext.drew | apply Ext.drewN | apply Ext.alloc | (refine Ext.trans ?_ (by assumption)))))).mono ?_
      rw [hR.out]
      rintro e w13 ⟨rfl, hb13⟩
      go_wp2_with fail
      refine (r1_same _ _ _ _ _ _ _ _ _ (h8.ext (by repeat (with_reducible first | exact Ext.refl _ | assumption | apply Ext.of_drew | apply Ext.of_drewN | apply Ext.drew | apply Ext.drewN | apply Ext.alloc | (refine Ext.trans ?_ (by assumption))))) ((h35.ext (by repeat (with_reducible first | exact Ext.refl _ | assumption | apply Ext.of_drew | apply Ext.of_drewN | apply Ext.drew | apply Ext.drewN | apply Ext.alloc | (refine Ext.trans ?_ (by assumption))))).take (n3 - 2) (by omega))).mono ?_
      rw [sameB_true rfl]
      rintro e w15 ⟨rfl, k3, rfl⟩
      go_wp2_with fail
      go_ret
      exact ⟨rfl, (by repeat (with_reducible first | exact Ext.refl _ | assumption | apply Ext.of_drew | apply Ext.of_drewN | apply Ext.drew | apply Ext.drewN | apply Ext.alloc | (refine Ext.trans ?_ (by assumption))))⟩
    · have hR := Lib.hid (Bool.eq_false_iff.2 hr)
      clear hr
      go_wp2_with (refine wpList_row rfl 27 _ rfl g rfl 27 tabV (0, 0) _ (hrow' _ (by repeat (with_reducible first | exact Ext.refl _ | assumption | apply Ext.of_drew | apply Ext.of_drewN | apply Ext.drew | apply Ext.drewN | apply Ext.alloc | (refine Ext.trans ?_ (by assumption))))) Try.underlying27 rfl (tab_size 256) ?_)
      refine (crc_cut_crc _ _ _ _ r (h35.ext (by repeat (with_reducible first | exact Ext.refl _ | assumption | apply Ext.of_drew | apply Ext.of_drewN | apply Ext.drew | apply Ext.drewN | apply Ext.alloc | (refine Ext.trans ?_ (by assumption))))) (by omega) hR.out).mono ?_
      rintro e w8 ⟨rfl, hb8⟩
      go_wp2_with (refine wpList_row rfl 27 _ rfl g rfl 27 tabV (0, 0) _ (hrow' _ (by repeat (with_reducible first | exact Ext.refl _ | assumption | apply Ext.of_drew | apply Ext.of_drewN | apply Ext.drew | apply Ext.drewN | apply Ext.alloc | (refine Ext.trans ?_ (by assumption))))) Try.underlying27 rfl (tab_size 256) ?_)
      refine (ref5_right _ _ _ _ r (h35.ext (by repeat (with_reducible first | exact Ext.refl _ | assumption | apply Ext.of_drew | apply Ext.of_drewN | apply Ext.drew | apply Ext.drewN | apply Ext.alloc | (refine Ext.trans ?_ (by assumption)))))).mono ?_
      rw [hR.out]
      rintro e w14 ⟨rfl, k0, rfl⟩
      go_wp2_with (refine wpList_row rfl 27 _ rfl g rfl 27 tabV (0, 0) _ (hrow' _ (by repeat (with_reducible first | exact Ext.refl _ | assumption | apply Ext.of_drew | apply Ext.of_drewN | apply Ext.drew | apply Ext.drewN | apply Ext.alloc | (refine Ext.trans ?_ (by assumption))))) Try.underlying27 rfl (tab_size 256) ?_)
      refine (ref5_append _ _ _ _ p (h25.ext (by repeat (with_reducible first | exact Ext.refl _ | assumption | apply Ext.of_drew | apply Ext.of_drewN | apply Ext.drew | apply Ext.drewN | apply Ext.alloc | (refine Ext.trans ?_ (by assumption))))) (by omega)).mono ?_
      rintro e w9 hc9
      obtain ⟨A9, n9, c9, rfl, h9, hb9⟩ := hc9.sl
      clear hc9
      go_wp2_with (refine wpList_row rfl 27 _ rfl g rfl 27 tabV (0, 0) _ (hrow' _ (by repeat (with_reducible first | exact Ext.refl _ | assumption | apply Ext.of_drew | apply Ext.of_drewN | apply Ext.drew | apply Ext.drewN | apply Ext.alloc | (refine Ext.trans ?_ (by assumption))))) Try.underlying27 rfl (tab_size 256) ?_)
      refine (r1_same _ _ _ _ _ _ _ _ _ (h6.ext (by repeat (with_reducible first | exact Ext.refl _ | assumption | apply Ext.of_drew | apply Ext.of_drewN | apply Ext.drew | apply Ext.drewN | apply Ext.alloc | (refine Ext.trans ?_ (by assumption))))) h9).mono ?_
      rw [sameB_true rfl]
      rintro e w10 ⟨rfl, k1, rfl⟩
      go_wp2_with (refine wpList_row rfl 27 _ rfl g rfl 27 tabV (0, 0) _ (hrow' _ (by repeat (with_reducible first | exact Ext.refl _ | assumption | apply Ext.of_drew | apply Ext.of_drewN | apply Ext.drew | apply Ext.drewN | apply Ext.alloc | (refine Ext.trans ?_ (by assumption))))) Try.underlying27 rfl (tab_size 256) ?_)
      refine (crc_right _ _ _ _ _ (h6.ext (by repeat (with_reducible first | exact Ext.refl _ | assumption | apply Ext.of_drew | apply Ext.of_drewN | apply Ext.drew | apply Ext.drewN | apply Ext.alloc | (refine Ext.trans ?_ (by assumption)))))).mono ?_
      rw [Crc.rightB_withSum]
      rintro e w11 ⟨rfl, hb11⟩
      go_wp2_with (refine wpList_row rfl 27 _ rfl g rfl 27 tabV (0, 0) _ (hrow' _ (by repeat (with_reducible first | exact Ext.refl _ | assumption | apply Ext.of_drew | apply Ext.of_drewN | apply Ext.drew | apply Ext.drewN | apply Ext.alloc | (refine Ext.trans ?_ (by assumption))))) Try.underlying27 rfl (tab_size 256) ?_)
      refine (r1_same _ _ _ _ _ _ _ _ _ (h7.ext (by repeat (with_reducible first | exact Ext.refl _ | assumption | apply Ext.of_drew | apply Ext.of_drewN | apply Ext.drew | apply Ext.drewN | apply Ext.alloc | (refine Ext.trans ?_ (by assumption))))) (h25.ext (by repeat (with_reducible first | exact Ext.refl _ | assumption | apply Ext.of_drew | apply Ext.of_drewN | apply Ext.drew | apply Ext.drewN | apply Ext.alloc | (refine Ext.trans ?_ (by assumption)))))).mono ?_
      rw [sameB_true rfl]
      rintro e w12 ⟨rfl, k2, rfl⟩
      go_wp2_with (refine wpList_row rfl 27 _ rfl g rfl 27 tabV (0, 0) _ (hrow' _ (by repeat (with_reducible first | exact Ext.refl _ | assumption | apply Ext.of_drew | apply Ext.of_drewN | apply Ext.drew | apply Ext.drewN | apply Ext.alloc | (refine Ext.trans ?_ (by assumption))))) Try.underlying27 rfl (tab_size 256) ?_)
      refine (crc_right _ _ _ _ r (h35.ext (by repeat (with_reducible first | exact Ext.refl _ | assumption | apply Ext.of_drew | apply Ext.of_drewN | apply Ext.drew | apply Ext.drewN | apply Ext.alloc | (refine Ext.trans ?_ (by assumption)))))).mono ?_
      rw [hR.out]
      rintro e w13 ⟨rfl, hb13⟩
      go_wp2_with fail
      go_ret
      exact ⟨rfl, (by repeat (with_reducible first | exact Ext.refl _ | assumption | apply Ext.of_drew | apply Ext.of_drewN | apply Ext.drew | apply Ext.drewN | apply Ext.alloc | (refine Ext.trans ?_ (by assumption))))⟩
end Go.Proofs.Ythpogmkhfgkgoaa
