/- Chapter 7: GuardScrubs. -/
import Derived.Test.YtmeiemdnhjnpcaaGrdD
import Derived.Test.YtmeiemdnhjnpcaaGrdP
namespace Go.Proofs.Ytmeiemdnhjnpcaa
open Go.Ab
set_option linter.unusedSimpArgs false
set_option linter.unusedVariables false
set_option maxHeartbeats 4000000
/-- A copy, of which a byte is turned if it is the one. -/
def fl (j i : Int) (l : List Int) (at_ m : Int) : List Int := if i = j then l.set (0 + at_.toNat * 1) (ixor .u8 (l.getD (0 + at_.toNat * 1) 0) m) else l
theorem fl_len (j i : Int) (l : List Int) (at_ m : Int) : (fl j i l at_ m).length = l.length := by
  unfold fl
  split
  · rw [List.length_set]
  · rfl
theorem fl_bl {j i : Int} {l : List Int} {at_ m : Int} (h : BL l) : BL (fl j i l at_ m) := by
  unfold fl
  split
  · exact BL.set h (ixor_u8_bd _ _)
  · exact h
theorem fl_bad {j i : Int} {l : List Int} {at_ m : Int} (hj : i = j) (hl : BL l) (hE : cE l = 0) (ha : 0 ≤ at_ ∧ at_ < l.length) (hm : 0 < m ∧ m < 256) : cE (fl j i l at_ m) ≠ 0 := by
  unfold fl
  rw [if_pos hj]
  exact spoilt hE hl (by omega) (ixor_u8_bd _ _) (xor_ne (hl.at_ _) hm)
theorem fl_same {j i : Int} {l : List Int} {at_ m : Int} (hj : ¬ i = j) : fl j i l at_ m = l := by
  unfold fl
  rw [if_neg hj]
theorem con_gflip (a b c : List Int) (i at_ mask : Int) (hi : 0 ≤ i ∧ i < 3) (h1 : 0 ≤ at_ ∧ at_ < a.length) (h2 : at_ < b.length) (h3 : at_ < c.length) (hla : a.length ≤ 1000000) (hlb : b.length ≤ 1000000) (hlc : c.length ≤ 1000000) : Con Try.prog 51 [(1000000000, ⟨[B8 a, B8 b, B8 c, nilS], true, 4, none⟩)] [.ptr 1000000000 0, i64 i, i64 at_, u8 mask] [(1000000000, ⟨[B8 (fl 0 i a at_ mask), B8 (fl 1 i b at_ mask), B8 (fl 2 i c at_ mask), nilS], true, 4, none⟩)] (i64 0) := by
  rcases (by omega : i = 0 ∨ i = 1 ∨ i = 2) with rfl | rfl | rfl
  · rw [fl_same (j := 1) (by omega), fl_same (j := 2) (by omega)]
    exact con_gflip0n a b c _ at_ mask h1 hla (by unfold fl; rw [if_pos rfl])
  · rw [fl_same (j := 0) (by omega), fl_same (j := 2) (by omega)]
    exact con_gflip1n a b c _ at_ mask ⟨h1.1, h2⟩ hlb (by unfold fl; rw [if_pos rfl])
  · rw [fl_same (j := 0) (by omega), fl_same (j := 1) (by omega)]
    exact con_gflip2n a b c _ at_ mask ⟨h1.1, h3⟩ hlc (by unfold fl; rw [if_pos rfl])
theorem vst_flip {C : List Int} {i at_ m : Int} (hi : 0 ≤ i ∧ i < 3) (hl : BL C) (hE : cE C = 0) (ha : 0 ≤ at_ ∧ at_ < C.length) (hm : 0 < m ∧ m < 256) : vst [fl 0 i C at_ m, fl 1 i C at_ m, fl 2 i C at_ m] = (2, C) ∧ nq (fl 0 i C at_ m) C + nq (fl 1 i C at_ m) C + nq (fl 2 i C at_ m) C = 1 := by
  have ne : ∀ X : List Int, cE X ≠ 0 → nq X C = 1 := fun X hX => by
    unfold nq
    rw [if_neg (fun e => hX (by rw [e]; exact hE))]
  have eq : nq C C = 0 := by simp [nq]
  rcases (by omega : i = 0 ∨ i = 1 ∨ i = 2) with rfl | rfl | rfl
  · have hb := fl_bad (j := 0) (i := 0) rfl hl hE ha hm
    rw [fl_same (j := 1) (by omega), fl_same (j := 2) (by omega), ne _ hb, eq]
    refine ⟨?_, by omega⟩
    simp [vst, vnx, newer, hb, hE]
  · have hb := fl_bad (j := 1) (i := 1) rfl hl hE ha hm
    rw [fl_same (j := 0) (by omega), fl_same (j := 2) (by omega), ne _ hb, eq]
    refine ⟨?_, by omega⟩
    simp [vst, vnx, newer, hb, hE]
  · have hb := fl_bad (j := 2) (i := 2) rfl hl hE ha hm
    rw [fl_same (j := 0) (by omega), fl_same (j := 1) (by omega), ne _ hb, eq]
    refine ⟨?_, by omega⟩
    simp [vst, vnx, newer, hb, hE]
/-- Both turned in the same copy: two are left. -/
theorem vst_same {C : List Int} {i at_ m at2 m2 : Int} (hi : 0 ≤ i ∧ i < 3) (hE : cE C = 0) : 2 ≤ (vst [fl 0 i (fl 0 i C at_ m) at2 m2, fl 1 i (fl 1 i C at_ m) at2 m2, fl 2 i (fl 2 i C at_ m) at2 m2]).1 := by
  rcases (by omega : i = 0 ∨ i = 1 ∨ i = 2) with rfl | rfl | rfl
  · rw [fl_same (j := 1) (i := 0) (by omega), fl_same (j := 2) (i := 0) (by omega), fl_same (j := 1) (i := 0) (by omega), fl_same (j := 2) (i := 0) (by omega)]
    generalize fl 0 0 (fl 0 0 C at_ m) at2 m2 = Y
    by_cases hY : cE Y = 0 <;> simp [vst, vnx, hY, hE]
  · rw [fl_same (j := 0) (i := 1) (by omega), fl_same (j := 2) (i := 1) (by omega), fl_same (j := 0) (i := 1) (by omega), fl_same (j := 2) (i := 1) (by omega)]
    generalize fl 1 1 (fl 1 1 C at_ m) at2 m2 = Y
    by_cases hY : cE Y = 0 <;> simp [vst, vnx, hY, hE]
  · rw [fl_same (j := 0) (i := 2) (by omega), fl_same (j := 1) (i := 2) (by omega), fl_same (j := 0) (i := 2) (by omega), fl_same (j := 1) (i := 2) (by omega)]
    generalize fl 2 2 (fl 2 2 C at_ m) at2 m2 = Y
    by_cases hY : cE Y = 0 <;> simp [vst, vnx, hY, hE]
/-- Turned in two copies: one is left. -/
theorem vst_two {C : List Int} {i j at_ m at2 m2 : Int} (hi : 0 ≤ i ∧ i < 3) (hj : 0 ≤ j ∧ j < 3) (hij : i ≠ j) (hl : BL C) (hE : cE C = 0) (ha : 0 ≤ at_ ∧ at_ < C.length) (hm : 0 < m ∧ m < 256) (ha2 : 0 ≤ at2 ∧ at2 < C.length) (hm2 : 0 < m2 ∧ m2 < 256) : (vst [fl 0 j (fl 0 i C at_ m) at2 m2, fl 1 j (fl 1 i C at_ m) at2 m2, fl 2 j (fl 2 i C at_ m) at2 m2]).1 < 2 := by
  rcases (by omega : i = 0 ∨ i = 1 ∨ i = 2) with rfl | rfl | rfl <;> rcases (by omega : j = 0 ∨ j = 1 ∨ j = 2) with rfl | rfl | rfl
  · exact absurd rfl hij
  · have h1 := fl_bad (j := 0) (i := 0) rfl hl hE ha hm
    have h2 := fl_bad (j := 1) (i := 1) rfl hl hE ha2 hm2
    rw [fl_same (j := 0) (i := 1) (l := fl 0 0 C at_ m) (by omega), fl_same (j := 1) (i := 0) (l := C) (by omega), fl_same (j := 2) (i := 1) (l := fl 2 0 C at_ m) (by omega), fl_same (j := 2) (i := 0) (l := C) (by omega)]
    simp [vst, vnx, newer, h1, h2, hE]
  · have h1 := fl_bad (j := 0) (i := 0) rfl hl hE ha hm
    have h2 := fl_bad (j := 2) (i := 2) rfl hl hE ha2 hm2
    rw [fl_same (j := 0) (i := 2) (l := fl 0 0 C at_ m) (by omega), fl_same (j := 2) (i := 0) (l := C) (by omega), fl_same (j := 1) (i := 2) (l := fl 1 0 C at_ m) (by omega), fl_same (j := 1) (i := 0) (l := C) (by omega)]
    simp [vst, vnx, newer, h1, h2, hE]
  · have h1 := fl_bad (j := 1) (i := 1) rfl hl hE ha hm
    have h2 := fl_bad (j := 0) (i := 0) rfl hl hE ha2 hm2
    rw [fl_same (j := 1) (i := 0) (l := fl 1 1 C at_ m) (by omega), fl_same (j := 0) (i := 1) (l := C) (by omega), fl_same (j := 2) (i := 0) (l := fl 2 1 C at_ m) (by omega), fl_same (j := 2) (i := 1) (l := C) (by omega)]
    simp [vst, vnx, newer, h1, h2, hE]
  · exact absurd rfl hij
  · have h1 := fl_bad (j := 1) (i := 1) rfl hl hE ha hm
    have h2 := fl_bad (j := 2) (i := 2) rfl hl hE ha2 hm2
    rw [fl_same (j := 1) (i := 2) (l := fl 1 1 C at_ m) (by omega), fl_same (j := 2) (i := 1) (l := C) (by omega), fl_same (j := 0) (i := 2) (l := fl 0 1 C at_ m) (by omega), fl_same (j := 0) (i := 1) (l := C) (by omega)]
    simp [vst, vnx, newer, h1, h2, hE]
  · have h1 := fl_bad (j := 2) (i := 2) rfl hl hE ha hm
    have h2 := fl_bad (j := 0) (i := 0) rfl hl hE ha2 hm2
    rw [fl_same (j := 2) (i := 0) (l := fl 2 2 C at_ m) (by omega), fl_same (j := 0) (i := 2) (l := C) (by omega), fl_same (j := 1) (i := 0) (l := fl 1 2 C at_ m) (by omega), fl_same (j := 1) (i := 2) (l := C) (by omega)]
    simp [vst, vnx, newer, h1, h2, hE]
  · have h1 := fl_bad (j := 2) (i := 2) rfl hl hE ha hm
    have h2 := fl_bad (j := 1) (i := 1) rfl hl hE ha2 hm2
    rw [fl_same (j := 2) (i := 1) (l := fl 2 2 C at_ m) (by omega), fl_same (j := 1) (i := 2) (l := C) (by omega), fl_same (j := 0) (i := 1) (l := fl 0 2 C at_ m) (by omega), fl_same (j := 0) (i := 2) (l := C) (by omega)]
    simp [vst, vnx, newer, h1, h2, hE]
  · exact absurd rfl hij
theorem scr_eq (a b at_ to_ i1 j1 M1 M2 : Int) (l P C X0 X1 X2 Y0 Y1 Y2 : List Int) (hl : BL l) (hll : l.length ≤ 9223372036854775807) (hP : l.take 100 = P) (hC : mk 1 P = C) (ha : 0 ≤ a ∧ a < 256) (hb : 0 ≤ b ∧ b < 256) (hat : 0 ≤ at_ ∧ at_ < 65536) (hto : 0 ≤ to_ ∧ to_ < 65536)
    (wfi : Int.tmod at_ (8 * ((P.length : Int) + 8)) = i1) (wfj : Int.tmod to_ (8 * ((P.length : Int) + 8)) = j1) (wfm : ishl .u8 1 (i1 % 8) = M1) (wfn : ishl .u8 1 (j1 % 8) = M2)
    (e0 : fl 0 (a % 3) C (i1 / 8) M1 = X0) (e1 : fl 1 (a % 3) C (i1 / 8) M1 = X1) (e2 : fl 2 (a % 3) C (i1 / 8) M1 = X2) (f0 : fl 0 (b % 3) X0 (j1 / 8) M2 = Y0) (f1 : fl 1 (b % 3) X1 (j1 / 8) M2 = Y1) (f2 : fl 2 (b % 3) X2 (j1 / 8) M2 = Y2) (hab : a % 3 = b % 3) : Con Try.prog 11 [] [.vs (u8s l) l.length, u8 a, u8 b, u16 at_, u16 to_] [] (vb true) := by
  have haw := con_awake7
  have hPb : BL P := by rw [← hP]; exact BL.take hl _
  have hPl : P.length ≤ 100 := by rw [← hP, List.length_take]; omega
  have hcut : Con Try.prog 18 [] [.vs (u8s l) l.length, i64 100] [(5, ⟨u8s P, true, 0, some (5, 1)⟩)] (.sl 5 0 P.length) := by
    rw [← hP]
    exact con_cut l 100 (by omega) (by omega) hll
  have cB : BL C := by rw [← hC]; exact mk_bl (by omega) hPb (by omega)
  have cL : C.length = P.length + 8 := by rw [← hC]; exact mk_len
  have cE0 : cE C = 0 := by rw [← hC]; exact mk_cE (by omega)
  have cN1 : cNo C = 1 := by rw [← hC]; exact mk_cNo (by omega) (by omega)
  have cP1 : cPo C = P := by rw [← hC]; exact mk_cPo (by omega)
  have hi1 : 0 ≤ i1 ∧ i1 < 8 * ((P.length : Int) + 8) := by
    rw [← wfi, Int.tmod_eq_emod_of_nonneg hat.1]
    exact ⟨Int.emod_nonneg _ (by omega), Int.emod_lt_of_pos _ (by omega)⟩
  have hj1 : 0 ≤ j1 ∧ j1 < 8 * ((P.length : Int) + 8) := by
    rw [← wfj, Int.tmod_eq_emod_of_nonneg hto.1]
    exact ⟨Int.emod_nonneg _ (by omega), Int.emod_lt_of_pos _ (by omega)⟩
  have hM1 : 0 < M1 ∧ M1 < 256 := by rw [← wfm]; exact bit_bd (by omega)
  have hM2 : 0 < M2 ∧ M2 < 256 := by rw [← wfn]; exact bit_bd (by omega)
  have xl0 : X0.length = C.length := by rw [← e0]; exact fl_len _ _ _ _ _
  have xl1 : X1.length = C.length := by rw [← e1]; exact fl_len _ _ _ _ _
  have xl2 : X2.length = C.length := by rw [← e2]; exact fl_len _ _ _ _ _
  have yl0 : Y0.length = C.length := by rw [← f0, fl_len]; exact xl0
  have yl1 : Y1.length = C.length := by rw [← f1, fl_len]; exact xl1
  have yl2 : Y2.length = C.length := by rw [← f2, fl_len]; exact xl2
  have xb0 : BL X0 := by rw [← e0]; exact fl_bl cB
  have xb1 : BL X1 := by rw [← e1]; exact fl_bl cB
  have xb2 : BL X2 := by rw [← e2]; exact fl_bl cB
  have yb0 : BL Y0 := by rw [← f0]; exact fl_bl xb0
  have yb1 : BL Y1 := by rw [← f1]; exact fl_bl xb1
  have yb2 : BL Y2 := by rw [← f2]; exact fl_bl xb2
  obtain ⟨hv1, hn1⟩ := vst_flip (i := a % 3) (at_ := i1 / 8) (m := M1) (by omega) cB cE0 (by omega) hM1
  rw [e0, e1, e2] at hv1 hn1
  have hv2 : vst [C, C, C] = (3, C) := by simp [vst, vnx, newer, cE0]
  have cf := con_gfill_0 P P.length hPb rfl (by omega) C hC
  have g1 := con_gflip C C C (a % 3) (i1 / 8) M1 (by omega) (by omega) (by omega) (by omega) (by omega) (by omega) (by omega)
  rw [e0, e1, e2] at g1
  have g2 := con_gflip X0 X1 X2 (b % 3) (j1 / 8) M2 (by omega) (by omega) (by omega) (by omega) (by omega) (by omega) (by omega)
  rw [f0, f1, f2] at g2
  have s1 := con_gscrub_y X0 X1 X2 xb0 xb1 xb2 (by omega) (by omega) (by omega) C 2 hv1 (by omega)
  rw [hn1] at s1
  have s2 := con_gscrub_y C C C cB cB cB (by omega) (by omega) (by omega) C 3 hv2 (by omega)
  rw [show nq C C + nq C C + nq C C = 0 by simp [nq]] at s2
  have r1 := con_gread_y C C C cB cB cB (by omega) (by omega) (by omega) nilS C 3 hv2 (by omega)
  rw [cN1, cP1] at r1
  have h3 := vst_same (C := C) (i := a % 3) (at_ := i1 / 8) (m := M1) (at2 := j1 / 8) (m2 := M2) (by omega) cE0
  rw [e0, e1, e2, hab, f0, f1, f2] at h3
  obtain ⟨k3, m3, hv3⟩ : ∃ k m, vst [Y0, Y1, Y2] = (k, m) := ⟨_, _, rfl⟩
  rw [hv3] at h3
  have s3 := con_gscrub_y Y0 Y1 Y2 yb0 yb1 yb2 (by omega) (by omega) (by omega) m3 k3 hv3 h3
  refine Con.of (C := ⟨Try.prog, tc, Try.f11.ntmps⟩) [] tcok Try.func11 rfl rfl (by kernel_rfl) (by kernel_rfl) ?_
  refine AWP.seq ?_
  refine AWP.regionT tcok hmix [] [0, 1, 2, 3, 4, 10] [] (os := []) (s' := St.mk [(0, T.plain (V.vs (u8s l) (List.length l))), (1, T.plain (u8 a)), (2, T.plain (u8 b)), (3, T.plain (u16 at_)), (4, T.plain (u16 to_)), (10, T.plain (vb false))] []) (by kernel_rfl) trivial ?_
  refine AWP.seq ?_
  refine AWP.seq ?_
  refine AWP.regionT tcok hmix [(0, ⟨none, some ⟨vb true, [], []⟩⟩)] [0, 1, 2, 3, 4, 10, 27] [] (os := [Con Try.prog 43 [] [] [] (vb true)]) (s' := St.mk [(0, T.plain (V.vs (u8s l) (List.length l))), (1, T.plain (u8 a)), (2, T.plain (u8 b)), (3, T.plain (u16 at_)), (4, T.plain (u16 to_)), (10, T.plain (vb false)), (27, T.plain (vb false))] []) (by kernel_rfl) ⟨(haw ), trivial⟩ ?_
  refine AWP.cond (b := false) (by kernel_rfl) (fun h => by cases h) (fun _ => ?_)
  refine AWP.skip ?_
  refine AWP.seq ?_
  refine AWP.regionT tcok hmix [(1, ⟨none, some ⟨V.sl 5 0 (List.length P), [(5, Blk.mk (u8s P) true 0 (some (5, 1)))], []⟩⟩)] [0, 1, 2, 3, 4, 10] [300005] (os := [Con Try.prog 18 [] [V.vs (u8s l) (List.length l), i64 100] [(5, Blk.mk (u8s P) true 0 (some (5, 1)))] (V.sl 5 0 (List.length P))]) (s' := St.mk [(0, T.plain (V.sl 300005 0 (List.length P))), (1, T.plain (u8 a)), (2, T.plain (u8 b)), (3, T.plain (u16 at_)), (4, T.plain (u16 to_)), (10, T.plain (vb false))] [(300005, Blk.mk (u8s P) true 0 (some (5, 1)))]) (by kernel_rfl) ⟨(hcut ), trivial⟩ ?_
  refine AWP.seq ?_
  refine AWP.regionT tcok hmix [(0, ⟨none, some ⟨V.ptr 2 0, [(2, Blk.mk [nilS, nilS, nilS, nilS] true 4 none)], []⟩⟩)] [0, 1, 2, 3, 4, 10, 11] [300005, 310002] (os := [Con Try.prog 50 [] [] [(2, Blk.mk [V.val (Value.slice none 0 0), V.val (Value.slice none 0 0), V.val (Value.slice none 0 0), V.val (Value.slice none 0 0)] true 4 none)] (V.ptr 2 0)]) (s' := St.mk [(0, T.plain (V.sl 300005 0 (List.length P))), (1, T.plain (u8 a)), (2, T.plain (u8 b)), (3, T.plain (u16 at_)), (4, T.plain (u16 to_)), (10, T.plain (vb false)), (11, T.plain (V.ptr 310002 0))] [(300005, Blk.mk (u8s P) true 0 (some (5, 1))), (310002, Blk.mk [V.val (Value.slice none 0 0), V.val (Value.slice none 0 0), V.val (Value.slice none 0 0), V.val (Value.slice none 0 0)] true 4 none)]) (by kernel_rfl) ⟨(Go.Proofs.Ytmeiemdnhjnpcaa.con_gnew ), trivial⟩ ?_
  refine AWP.seq ?_
  refine AWP.frz 300005 (s' := St.mk [(0, T.plain (V.vs (u8s P) (List.length P))), (1, T.plain (u8 a)), (2, T.plain (u8 b)), (3, T.plain (u16 at_)), (4, T.plain (u16 to_)), (10, T.plain (vb false)), (11, T.plain (V.ptr 310002 0))] [(310002, Blk.mk [V.val (Value.slice none 0 0), V.val (Value.slice none 0 0), V.val (Value.slice none 0 0), V.val (Value.slice none 0 0)] true 4 none)]) (by kernel_rfl) ?_
  refine AWP.regionT tcok hmix [(2, ⟨some (V.tup [V.sl 1000000000 310002 0]), some ⟨i64 0, [(1000000000, Blk.mk [B8 C, B8 C, B8 C, nilS] true 4 none)], []⟩⟩)] [0, 1, 2, 3, 4, 10, 11] [310002] (os := [Con Try.prog 46 [(1000000000, Blk.mk [V.val (Value.slice none 0 0), V.val (Value.slice none 0 0), V.val (Value.slice none 0 0), V.val (Value.slice none 0 0)] true 4 none)] [V.ptr 1000000000 0, V.vs (u8s P) (List.length P)] [(1000000000, Blk.mk [V.vs (u8s C) (List.length C), V.vs (u8s C) (List.length C), V.vs (u8s C) (List.length C), V.val (Value.slice none 0 0)] true 4 none)] (i64 0)]) (s' := St.mk [(0, T.plain (V.vs (u8s P) (List.length P))), (1, T.plain (u8 a)), (2, T.plain (u8 b)), (3, T.plain (u16 at_)), (4, T.plain (u16 to_)), (10, T.plain (vb false)), (11, T.plain (V.ptr 310002 0))] [(310002, Blk.mk [V.vs (u8s C) (List.length C), V.vs (u8s C) (List.length C), V.vs (u8s C) (List.length C), V.val (Value.slice none 0 0)] true 4 none)]) (by kernel_rfl) ⟨(cf ), trivial⟩ ?_
  refine AWP.seq ?_
  refine AWP.regionT tcok hmix [(2, ⟨some (i64 ((↑(List.length P) : Int) + 8)), none⟩), (3, ⟨some (i64 (8 * ((↑(List.length P) : Int) + 8))), none⟩)] [0, 1, 2, 3, 4, 10, 11, 12] [310002] (os := [i64 (IntKind.wrap IntKind.i64 ((↑(List.length P) : Int) + 8)) = i64 ((↑(List.length P) : Int) + 8), i64 (IntKind.wrap IntKind.i64 (8 * ((↑(List.length P) : Int) + 8))) = i64 (8 * ((↑(List.length P) : Int) + 8))]) (s' := St.mk [(0, T.plain (V.vs (u8s P) (List.length P))), (1, T.plain (u8 a)), (2, T.plain (u8 b)), (3, T.plain (u16 at_)), (4, T.plain (u16 to_)), (10, T.plain (vb false)), (11, T.plain (V.ptr 310002 0)), (12, T.plain (i64 (8 * ((↑(List.length P) : Int) + 8))))] [(310002, Blk.mk [V.vs (u8s C) (List.length C), V.vs (u8s C) (List.length C), V.vs (u8s C) (List.length C), V.val (Value.slice none 0 0)] true 4 none)]) (by kernel_rfl) ⟨(wr_i64 (by omega) (by omega)), (wr_i64 (by omega) (by omega)), trivial⟩ ?_
  refine AWP.seq ?_
  refine AWP.regionT tcok hmix [(1, ⟨some (i64 at_), none⟩), (3, ⟨some (i64 i1), none⟩), (5, ⟨some (i64 to_), none⟩), (7, ⟨some (i64 j1), none⟩)] [0, 1, 2, 10, 11, 13, 14] [310002] (os := [i64 (IntKind.wrap IntKind.i64 at_) = i64 at_, (8 : Int) * ((↑(List.length P) : Int) + (8 : Int)) ≠ (0 : Int), i64 (Int.tmod at_ (8 * ((↑(List.length P) : Int) + 8))) = i64 i1, i64 (IntKind.wrap IntKind.i64 to_) = i64 to_, (8 : Int) * ((↑(List.length P) : Int) + (8 : Int)) ≠ (0 : Int), i64 (Int.tmod to_ (8 * ((↑(List.length P) : Int) + 8))) = i64 j1]) (s' := St.mk [(0, T.plain (V.vs (u8s P) (List.length P))), (1, T.plain (u8 a)), (2, T.plain (u8 b)), (10, T.plain (vb false)), (11, T.plain (V.ptr 310002 0)), (13, T.plain (i64 i1)), (14, T.plain (i64 j1))] [(310002, Blk.mk [V.vs (u8s C) (List.length C), V.vs (u8s C) (List.length C), V.vs (u8s C) (List.length C), V.val (Value.slice none 0 0)] true 4 none)]) (by kernel_rfl) ⟨(wr_i64 (by omega) (by omega)), (by omega), (in_eq wfi), (wr_i64 (by omega) (by omega)), (by omega), (in_eq wfj), trivial⟩ ?_
  refine AWP.seq ?_
  refine AWP.regionT tcok hmix [(2, ⟨some (u8 (a % 3)), none⟩), (3, ⟨some (i64 (a % 3)), none⟩), (5, ⟨some (i64 (i1 / 8)), none⟩), (7, ⟨some (i64 (i1 % 8)), none⟩), (8, ⟨some (u8 M1), none⟩), (9, ⟨some (V.tup [V.sl 1000000000 310002 0]), some ⟨i64 0, [(1000000000, Blk.mk [B8 X0, B8 X1, B8 X2, nilS] true 4 none)], []⟩⟩)] [0, 1, 2, 10, 11, 13, 14] [310002] (os := [(3 : Int) ≠ (0 : Int), u8 (Int.tmod a 3) = u8 (a % 3), i64 (IntKind.wrap IntKind.i64 (a % 3)) = i64 (a % 3), (8 : Int) ≠ (0 : Int), i64 (IntKind.wrap IntKind.i64 (Int.tdiv i1 8)) = i64 (i1 / 8), (8 : Int) ≠ (0 : Int), i64 (Int.tmod i1 8) = i64 (i1 % 8), (0 : Int) ≤ i1 % (8 : Int), u8 (ishl IntKind.u8 1 (i1 % 8)) = u8 M1, Con Try.prog 51 [(1000000000, Blk.mk [V.vs (u8s C) (List.length C), V.vs (u8s C) (List.length C), V.vs (u8s C) (List.length C), V.val (Value.slice none 0 0)] true 4 none)] [V.ptr 1000000000 0, i64 (a % 3), i64 (i1 / 8), u8 M1] [(1000000000, Blk.mk [V.vs (u8s X0) (List.length X0), V.vs (u8s X1) (List.length X1), V.vs (u8s X2) (List.length X2), V.val (Value.slice none 0 0)] true 4 none)] (i64 0)]) (s' := St.mk [(0, T.plain (V.vs (u8s P) (List.length P))), (1, T.plain (u8 a)), (2, T.plain (u8 b)), (10, T.plain (vb false)), (11, T.plain (V.ptr 310002 0)), (13, T.plain (i64 i1)), (14, T.plain (i64 j1))] [(310002, Blk.mk [V.vs (u8s X0) (List.length X0), V.vs (u8s X1) (List.length X1), V.vs (u8s X2) (List.length X2), V.val (Value.slice none 0 0)] true 4 none)]) (by kernel_rfl) ⟨(by omega), (tm_ (by omega)), (wr_i64 (by omega) (by omega)), (by omega), (wtd (by omega) (wr_i64 (by omega) (by omega))), (by omega), (tm_ (by omega)), (by omega), (in_eq wfm), (g1 ), trivial⟩ ?_
  refine AWP.seq ?_
  refine AWP.regionT tcok hmix [(1, ⟨some (V.tup [V.sl 1000000000 310002 0]), some ⟨V.tup [i64 1, i64 0], [(1000000000, Blk.mk [B8 C, B8 C, B8 C, nilS] true 4 none)], []⟩⟩)] [0, 1, 2, 10, 11, 13, 14, 15, 16] [310002] (os := [Con Try.prog 48 [(1000000000, Blk.mk [V.vs (u8s X0) (List.length X0), V.vs (u8s X1) (List.length X1), V.vs (u8s X2) (List.length X2), V.val (Value.slice none 0 0)] true 4 none)] [V.ptr 1000000000 0] [(1000000000, Blk.mk [V.vs (u8s C) (List.length C), V.vs (u8s C) (List.length C), V.vs (u8s C) (List.length C), V.val (Value.slice none 0 0)] true 4 none)] (V.tup [i64 1, i64 0])]) (s' := St.mk [(0, T.plain (V.vs (u8s P) (List.length P))), (1, T.plain (u8 a)), (2, T.plain (u8 b)), (10, T.plain (vb false)), (11, T.plain (V.ptr 310002 0)), (13, T.plain (i64 i1)), (14, T.plain (i64 j1)), (15, T.plain (i64 1)), (16, T.plain (i64 0))] [(310002, Blk.mk [V.vs (u8s C) (List.length C), V.vs (u8s C) (List.length C), V.vs (u8s C) (List.length C), V.val (Value.slice none 0 0)] true 4 none)]) (by kernel_rfl) ⟨(s1 ), trivial⟩ ?_
  refine AWP.seq ?_
  refine AWP.regionT tcok hmix [(1, ⟨some (V.tup [V.sl 1000000000 310002 0]), some ⟨V.tup [i64 0, i64 0], [(1000000000, Blk.mk [B8 C, B8 C, B8 C, nilS] true 4 none)], []⟩⟩)] [0, 1, 2, 10, 11, 13, 14, 15, 16, 17, 18] [310002] (os := [Con Try.prog 48 [(1000000000, Blk.mk [V.vs (u8s C) (List.length C), V.vs (u8s C) (List.length C), V.vs (u8s C) (List.length C), V.val (Value.slice none 0 0)] true 4 none)] [V.ptr 1000000000 0] [(1000000000, Blk.mk [V.vs (u8s C) (List.length C), V.vs (u8s C) (List.length C), V.vs (u8s C) (List.length C), V.val (Value.slice none 0 0)] true 4 none)] (V.tup [i64 0, i64 0])]) (s' := St.mk [(0, T.plain (V.vs (u8s P) (List.length P))), (1, T.plain (u8 a)), (2, T.plain (u8 b)), (10, T.plain (vb false)), (11, T.plain (V.ptr 310002 0)), (13, T.plain (i64 i1)), (14, T.plain (i64 j1)), (15, T.plain (i64 1)), (16, T.plain (i64 0)), (17, T.plain (i64 0)), (18, T.plain (i64 0))] [(310002, Blk.mk [V.vs (u8s C) (List.length C), V.vs (u8s C) (List.length C), V.vs (u8s C) (List.length C), V.val (Value.slice none 0 0)] true 4 none)]) (by kernel_rfl) ⟨(s2 ), trivial⟩ ?_
  refine AWP.seq ?_
  refine AWP.regionT tcok hmix [(1, ⟨none, some ⟨V.tup [u32 1, V.sl 1210005 0 (List.length P), i64 0], [(1210005, Blk.mk (u8s P) true 0 (some (5, 1)))], [(310002, true)]⟩⟩)] [0, 1, 2, 10, 11, 13, 14, 15, 16, 17, 18, 20, 21] [310002, 1900005] (os := [VO (V.tup [u32 (1 : Int), V.sl (1210005 : Nat) (0 : Nat) (List.length P), i64 (0 : Int)]), VOH [((1210005 : Nat), Blk.mk (u8s P) true (0 : Nat) (some ((5 : Nat), (1 : Nat))))], Con Try.prog 47 [] [V.vp [V.vs (u8s C) (List.length C), V.vs (u8s C) (List.length C), V.vs (u8s C) (List.length C), V.val (Value.slice none 0 0)]] [(1210005, Blk.mk (u8s P) true 0 (some (5, 1)))] (V.tup [u32 1, V.sl 1210005 0 (List.length P), i64 0])]) (s' := St.mk [(0, T.plain (V.vs (u8s P) (List.length P))), (1, T.plain (u8 a)), (2, T.plain (u8 b)), (10, T.plain (vb false)), (11, T.plain (V.ptr 310002 0)), (13, T.plain (i64 i1)), (14, T.plain (i64 j1)), (15, T.plain (i64 1)), (16, T.plain (i64 0)), (17, T.plain (i64 0)), (18, T.plain (i64 0)), (20, T.plain (V.sl 1900005 0 (List.length P))), (21, T.plain (i64 0))] [(310002, Blk.mk [V.vs (u8s C) (List.length C), V.vs (u8s C) (List.length C), V.vs (u8s C) (List.length C), V.val (Value.slice none 0 0)] true 4 none), (1900005, Blk.mk (u8s P) true 0 (some (5, 1)))]) (by kernel_rfl) ⟨(VO.tup (VOL.cons (VO.val _) (VOL.cons (VO.sl _ _ _) (VOL.cons (VO.val _) VOL.nil)))), ⟨(VOL.u8s _), trivial⟩, (r1 ), trivial⟩ ?_
  refine AWP.seq ?_
  refine AWP.seq ?_
  refine AWP.regionT tcok hmix [(21, ⟨none, some ⟨vb (decide (P = P)), [], [(1900005, true)]⟩⟩)] [1, 2, 10, 11, 13, 14, 95] [310002] (os := [false = false → VO (vb (decide (P = P))) ∧ VOH [] ∧ Con Try.prog (23 : Nat) [] [V.vs (u8s P) (List.length P), V.vs (u8s P) (List.length P)] [] (vb (decide (P = P))) ∧ (0 : Nat) = (0 : Nat) ∧ List.length P * (1 : Nat) = List.length (u8s P) ∧ True]) (s' := St.mk [(1, T.plain (u8 a)), (2, T.plain (u8 b)), (10, T.plain (vb false)), (11, T.plain (V.ptr 310002 0)), (13, T.plain (i64 i1)), (14, T.plain (i64 j1)), (95, T.plain (vb (false || !decide (P = P))))] [(310002, Blk.mk [V.vs (u8s C) (List.length C), V.vs (u8s C) (List.length C), V.vs (u8s C) (List.length C), V.val (Value.slice none 0 0)] true 4 none)]) (by kernel_rfl) ⟨(by intro hc0; first | (cases hc0; done) | (try simp only [Bool.or_false, Bool.false_or, Bool.true_and, Bool.and_true, decide_eq_true_eq, decide_eq_false_iff_not, Bool.and_eq_true, Bool.or_eq_true, Bool.or_eq_false_iff, Bool.not_eq_true', Bool.and_eq_false_iff, beq_iff_eq, bne_iff_ne, bne_eq_false_iff_eq, beq_eq_false_iff_ne, Bool.not_eq_false'] at hc0; exact ⟨(VO.val _), trivial, (Go.Proofs.Ytmeiemdnhjnpcaa.con_samen (P) (P) (List.length P) (List.length P) (by (first | assumption | omega | (simp [len_u8s]; done) | (simp [len_u8s]; omega))) (by (first | assumption | omega | (simp [len_u8s]; done) | (simp [len_u8s]; omega))) (by (first | assumption | omega | (simp [len_u8s]; done) | (simp [len_u8s]; omega))) (by (first | assumption | omega | (simp [len_u8s]; done) | (simp [len_u8s]; omega)))), (by omega), (by first | omega | (simp [len_u8s]; omega) | (simp [len_u8s]; done)), trivial⟩)), trivial⟩ ?_
  refine AWP.cond (b := false || !decide (P = P)) (by kernel_rfl) (fun hq1 => ?_) (fun hq1 => ?_)
  · try simp only [Bool.or_false, Bool.false_or, Bool.true_and, Bool.and_true, decide_eq_true_eq, decide_eq_false_iff_not, Bool.and_eq_true, Bool.or_eq_true, Bool.or_eq_false_iff, Bool.not_eq_true', Bool.and_eq_false_iff, beq_iff_eq, bne_iff_ne, bne_eq_false_iff_eq, beq_eq_false_iff_ne, Bool.not_eq_false'] at hq1
    (simp [bl] at hq1; done)
  try simp only [Bool.or_false, Bool.false_or, Bool.true_and, Bool.and_true, decide_eq_true_eq, decide_eq_false_iff_not, Bool.and_eq_true, Bool.or_eq_true, Bool.or_eq_false_iff, Bool.not_eq_true', Bool.and_eq_false_iff, beq_iff_eq, bne_iff_ne, bne_eq_false_iff_eq, beq_eq_false_iff_ne, Bool.not_eq_false'] at hq1
  refine AWP.skip ?_
  refine AWP.seq ?_
  refine AWP.regionT tcok hmix [(2, ⟨some (u8 (a % 3)), none⟩), (3, ⟨some (i64 (a % 3)), none⟩), (5, ⟨some (i64 (i1 / 8)), none⟩), (7, ⟨some (i64 (i1 % 8)), none⟩), (8, ⟨some (u8 M1), none⟩), (9, ⟨some (V.tup [V.sl 1000000000 310002 0]), some ⟨i64 0, [(1000000000, Blk.mk [B8 X0, B8 X1, B8 X2, nilS] true 4 none)], []⟩⟩)] [1, 2, 10, 11, 14] [310002] (os := [(3 : Int) ≠ (0 : Int), u8 (Int.tmod a 3) = u8 (a % 3), i64 (IntKind.wrap IntKind.i64 (a % 3)) = i64 (a % 3), (8 : Int) ≠ (0 : Int), i64 (IntKind.wrap IntKind.i64 (Int.tdiv i1 8)) = i64 (i1 / 8), (8 : Int) ≠ (0 : Int), i64 (Int.tmod i1 8) = i64 (i1 % 8), (0 : Int) ≤ i1 % (8 : Int), u8 (ishl IntKind.u8 1 (i1 % 8)) = u8 M1, Con Try.prog 51 [(1000000000, Blk.mk [V.vs (u8s C) (List.length C), V.vs (u8s C) (List.length C), V.vs (u8s C) (List.length C), V.val (Value.slice none 0 0)] true 4 none)] [V.ptr 1000000000 0, i64 (a % 3), i64 (i1 / 8), u8 M1] [(1000000000, Blk.mk [V.vs (u8s X0) (List.length X0), V.vs (u8s X1) (List.length X1), V.vs (u8s X2) (List.length X2), V.val (Value.slice none 0 0)] true 4 none)] (i64 0)]) (s' := St.mk [(1, T.plain (u8 a)), (2, T.plain (u8 b)), (10, T.plain (vb false)), (11, T.plain (V.ptr 310002 0)), (14, T.plain (i64 j1))] [(310002, Blk.mk [V.vs (u8s X0) (List.length X0), V.vs (u8s X1) (List.length X1), V.vs (u8s X2) (List.length X2), V.val (Value.slice none 0 0)] true 4 none)]) (by kernel_rfl) ⟨(by omega), (tm_ (by omega)), (wr_i64 (by omega) (by omega)), (by omega), (wtd (by omega) (wr_i64 (by omega) (by omega))), (by omega), (tm_ (by omega)), (by omega), (in_eq wfm), (g1 ), trivial⟩ ?_
  refine AWP.seq ?_
  refine AWP.regionT tcok hmix [(2, ⟨some (u8 (b % 3)), none⟩), (3, ⟨some (i64 (b % 3)), none⟩), (5, ⟨some (i64 (j1 / 8)), none⟩), (7, ⟨some (i64 (j1 % 8)), none⟩), (8, ⟨some (u8 M2), none⟩), (9, ⟨some (V.tup [V.sl 1000000000 310002 0]), some ⟨i64 0, [(1000000000, Blk.mk [B8 Y0, B8 Y1, B8 Y2, nilS] true 4 none)], []⟩⟩)] [1, 2, 10, 11] [310002] (os := [(3 : Int) ≠ (0 : Int), u8 (Int.tmod b 3) = u8 (b % 3), i64 (IntKind.wrap IntKind.i64 (b % 3)) = i64 (b % 3), (8 : Int) ≠ (0 : Int), i64 (IntKind.wrap IntKind.i64 (Int.tdiv j1 8)) = i64 (j1 / 8), (8 : Int) ≠ (0 : Int), i64 (Int.tmod j1 8) = i64 (j1 % 8), (0 : Int) ≤ j1 % (8 : Int), u8 (ishl IntKind.u8 1 (j1 % 8)) = u8 M2, Con Try.prog 51 [(1000000000, Blk.mk [V.vs (u8s X0) (List.length X0), V.vs (u8s X1) (List.length X1), V.vs (u8s X2) (List.length X2), V.val (Value.slice none 0 0)] true 4 none)] [V.ptr 1000000000 0, i64 (b % 3), i64 (j1 / 8), u8 M2] [(1000000000, Blk.mk [V.vs (u8s Y0) (List.length Y0), V.vs (u8s Y1) (List.length Y1), V.vs (u8s Y2) (List.length Y2), V.val (Value.slice none 0 0)] true 4 none)] (i64 0)]) (s' := St.mk [(1, T.plain (u8 a)), (2, T.plain (u8 b)), (10, T.plain (vb false)), (11, T.plain (V.ptr 310002 0))] [(310002, Blk.mk [V.vs (u8s Y0) (List.length Y0), V.vs (u8s Y1) (List.length Y1), V.vs (u8s Y2) (List.length Y2), V.val (Value.slice none 0 0)] true 4 none)]) (by kernel_rfl) ⟨(by omega), (tm_ (by omega)), (wr_i64 (by omega) (by omega)), (by omega), (wtd (by omega) (wr_i64 (by omega) (by omega))), (by omega), (tm_ (by omega)), (by omega), (in_eq wfn), (g2 ), trivial⟩ ?_
  refine AWP.seq ?_
  refine AWP.regionT tcok hmix [(1, ⟨some (V.tup [V.sl 1000000000 310002 0]), some ⟨V.sl 3 0 3, [(3, Blk.mk [B8 Y0, B8 Y1, B8 Y2] true 0 (some (29, 1))), (1000000000, Blk.mk [B8 Y0, B8 Y1, B8 Y2, V.val (Value.slice none 0 0)] true 4 none)], []⟩⟩)] [1, 2, 10, 11, 22] [310002, 1180003] (os := [Con Try.prog 52 [(1000000000, Blk.mk [V.vs (u8s Y0) (List.length Y0), V.vs (u8s Y1) (List.length Y1), V.vs (u8s Y2) (List.length Y2), V.val (Value.slice none 0 0)] true 4 none)] [V.ptr 1000000000 0] [(3, Blk.mk [V.vs (u8s Y0) (List.length Y0), V.vs (u8s Y1) (List.length Y1), V.vs (u8s Y2) (List.length Y2)] true 0 (some (29, 1))), (1000000000, Blk.mk [V.vs (u8s Y0) (List.length Y0), V.vs (u8s Y1) (List.length Y1), V.vs (u8s Y2) (List.length Y2), V.val (Value.slice none 0 0)] true 4 none)] (V.sl 3 0 3)]) (s' := St.mk [(1, T.plain (u8 a)), (2, T.plain (u8 b)), (10, T.plain (vb false)), (11, T.plain (V.ptr 310002 0)), (22, T.plain (V.sl 1180003 0 3))] [(310002, Blk.mk [V.vs (u8s Y0) (List.length Y0), V.vs (u8s Y1) (List.length Y1), V.vs (u8s Y2) (List.length Y2), V.val (Value.slice none 0 0)] true 4 none), (1180003, Blk.mk [V.vs (u8s Y0) (List.length Y0), V.vs (u8s Y1) (List.length Y1), V.vs (u8s Y2) (List.length Y2)] true 0 (some (29, 1)))]) (by kernel_rfl) ⟨(Go.Proofs.Ytmeiemdnhjnpcaa.con_gcopies (Y0) (Y1) (Y2) (V.val (Value.slice none 0 0)) (by (first | assumption | omega | (simp [len_u8s]; done) | (simp [len_u8s]; omega))) (by (first | assumption | omega | (simp [len_u8s]; done) | (simp [len_u8s]; omega))) (by (first | assumption | omega | (simp [len_u8s]; done) | (simp [len_u8s]; omega)))), trivial⟩ ?_
  refine AWP.seq ?_
  refine AWP.regionT tcok hmix [(1, ⟨some (V.tup [V.sl 1000000000 310002 0]), some ⟨V.tup [i64 (nq Y0 m3 + nq Y1 m3 + nq Y2 m3), i64 0], [(1000000000, Blk.mk [B8 m3, B8 m3, B8 m3, nilS] true 4 none)], []⟩⟩)] [1, 2, 10, 11, 22, 24] [310002, 1180003] (os := [Con Try.prog 48 [(1000000000, Blk.mk [V.vs (u8s Y0) (List.length Y0), V.vs (u8s Y1) (List.length Y1), V.vs (u8s Y2) (List.length Y2), V.val (Value.slice none 0 0)] true 4 none)] [V.ptr 1000000000 0] [(1000000000, Blk.mk [V.vs (u8s m3) (List.length m3), V.vs (u8s m3) (List.length m3), V.vs (u8s m3) (List.length m3), V.val (Value.slice none 0 0)] true 4 none)] (V.tup [i64 (nq Y0 m3 + nq Y1 m3 + nq Y2 m3), i64 0])]) (s' := St.mk [(1, T.plain (u8 a)), (2, T.plain (u8 b)), (10, T.plain (vb false)), (11, T.plain (V.ptr 310002 0)), (22, T.plain (V.sl 1180003 0 3)), (24, T.plain (i64 0))] [(310002, Blk.mk [V.vs (u8s m3) (List.length m3), V.vs (u8s m3) (List.length m3), V.vs (u8s m3) (List.length m3), V.val (Value.slice none 0 0)] true 4 none), (1180003, Blk.mk [V.vs (u8s Y0) (List.length Y0), V.vs (u8s Y1) (List.length Y1), V.vs (u8s Y2) (List.length Y2)] true 0 (some (29, 1)))]) (by kernel_rfl) ⟨(s3 ), trivial⟩ ?_
  refine AWP.seq ?_
  refine AWP.seq ?_
  refine AWP.regionT tcok hmix [(1, ⟨some (u8 (a % 3)), none⟩), (3, ⟨some (u8 (b % 3)), none⟩)] [10, 11, 22, 24, 127] [310002, 1180003] (os := [(3 : Int) ≠ (0 : Int), u8 (Int.tmod a 3) = u8 (a % 3), (3 : Int) ≠ (0 : Int), u8 (Int.tmod b 3) = u8 (b % 3)]) (s' := St.mk [(10, T.plain (vb false)), (11, T.plain (V.ptr 310002 0)), (22, T.plain (V.sl 1180003 0 3)), (24, T.plain (i64 0)), (127, T.plain (vb (a % 3 == b % 3)))] [(310002, Blk.mk [V.vs (u8s m3) (List.length m3), V.vs (u8s m3) (List.length m3), V.vs (u8s m3) (List.length m3), V.val (Value.slice none 0 0)] true 4 none), (1180003, Blk.mk [V.vs (u8s Y0) (List.length Y0), V.vs (u8s Y1) (List.length Y1), V.vs (u8s Y2) (List.length Y2)] true 0 (some (29, 1)))]) (by kernel_rfl) ⟨(by omega), (tm_ (by omega)), (by omega), (tm_ (by omega)), trivial⟩ ?_
  refine AWP.cond (b := a % 3 == b % 3) (by kernel_rfl) (fun hq2 => ?_) (fun hq2 => ?_)
  · try simp only [Bool.or_false, Bool.false_or, Bool.true_and, Bool.and_true, decide_eq_true_eq, decide_eq_false_iff_not, Bool.and_eq_true, Bool.or_eq_true, Bool.or_eq_false_iff, Bool.not_eq_true', Bool.and_eq_false_iff, beq_iff_eq, bne_iff_ne, bne_eq_false_iff_eq, beq_eq_false_iff_ne, Bool.not_eq_false'] at hq2
    refine AWP.seq ?_
    refine AWP.regionT tcok hmix [] [10, 11, 22, 24] [310002, 1180003] (os := []) (s' := St.mk [(10, T.plain (vb true)), (11, T.plain (V.ptr 310002 0)), (22, T.plain (V.sl 1180003 0 3)), (24, T.plain (i64 0))] [(310002, Blk.mk [V.vs (u8s m3) (List.length m3), V.vs (u8s m3) (List.length m3), V.vs (u8s m3) (List.length m3), V.val (Value.slice none 0 0)] true 4 none), (1180003, Blk.mk [V.vs (u8s Y0) (List.length Y0), V.vs (u8s Y1) (List.length Y1), V.vs (u8s Y2) (List.length Y2)] true 0 (some (29, 1)))]) (by kernel_rfl) trivial ?_
    refine AWP.ret ?_
    refine ⟨Or.inr rfl, Eq.trans (b := some ([], vb true)) (by kernel_rfl) ?_⟩
    first | rfl | (simp; done)
  try simp only [Bool.or_false, Bool.false_or, Bool.true_and, Bool.and_true, decide_eq_true_eq, decide_eq_false_iff_not, Bool.and_eq_true, Bool.or_eq_true, Bool.or_eq_false_iff, Bool.not_eq_true', Bool.and_eq_false_iff, beq_iff_eq, bne_iff_ne, bne_eq_false_iff_eq, beq_eq_false_iff_ne, Bool.not_eq_false'] at hq2
  (exfalso; omega)
theorem scr_ne (a b at_ to_ i1 j1 M1 M2 : Int) (l P C X0 X1 X2 Y0 Y1 Y2 : List Int) (hl : BL l) (hll : l.length ≤ 9223372036854775807) (hP : l.take 100 = P) (hC : mk 1 P = C) (ha : 0 ≤ a ∧ a < 256) (hb : 0 ≤ b ∧ b < 256) (hat : 0 ≤ at_ ∧ at_ < 65536) (hto : 0 ≤ to_ ∧ to_ < 65536)
    (wfi : Int.tmod at_ (8 * ((P.length : Int) + 8)) = i1) (wfj : Int.tmod to_ (8 * ((P.length : Int) + 8)) = j1) (wfm : ishl .u8 1 (i1 % 8) = M1) (wfn : ishl .u8 1 (j1 % 8) = M2)
    (e0 : fl 0 (a % 3) C (i1 / 8) M1 = X0) (e1 : fl 1 (a % 3) C (i1 / 8) M1 = X1) (e2 : fl 2 (a % 3) C (i1 / 8) M1 = X2) (f0 : fl 0 (b % 3) X0 (j1 / 8) M2 = Y0) (f1 : fl 1 (b % 3) X1 (j1 / 8) M2 = Y1) (f2 : fl 2 (b % 3) X2 (j1 / 8) M2 = Y2) (hab : a % 3 ≠ b % 3) : Con Try.prog 11 [] [.vs (u8s l) l.length, u8 a, u8 b, u16 at_, u16 to_] [] (vb true) := by
  have haw := con_awake7
  have hPb : BL P := by rw [← hP]; exact BL.take hl _
  have hPl : P.length ≤ 100 := by rw [← hP, List.length_take]; omega
  have hcut : Con Try.prog 18 [] [.vs (u8s l) l.length, i64 100] [(5, ⟨u8s P, true, 0, some (5, 1)⟩)] (.sl 5 0 P.length) := by
    rw [← hP]
    exact con_cut l 100 (by omega) (by omega) hll
  have cB : BL C := by rw [← hC]; exact mk_bl (by omega) hPb (by omega)
  have cL : C.length = P.length + 8 := by rw [← hC]; exact mk_len
  have cE0 : cE C = 0 := by rw [← hC]; exact mk_cE (by omega)
  have cN1 : cNo C = 1 := by rw [← hC]; exact mk_cNo (by omega) (by omega)
  have cP1 : cPo C = P := by rw [← hC]; exact mk_cPo (by omega)
  have hi1 : 0 ≤ i1 ∧ i1 < 8 * ((P.length : Int) + 8) := by
    rw [← wfi, Int.tmod_eq_emod_of_nonneg hat.1]
    exact ⟨Int.emod_nonneg _ (by omega), Int.emod_lt_of_pos _ (by omega)⟩
  have hj1 : 0 ≤ j1 ∧ j1 < 8 * ((P.length : Int) + 8) := by
    rw [← wfj, Int.tmod_eq_emod_of_nonneg hto.1]
    exact ⟨Int.emod_nonneg _ (by omega), Int.emod_lt_of_pos _ (by omega)⟩
  have hM1 : 0 < M1 ∧ M1 < 256 := by rw [← wfm]; exact bit_bd (by omega)
  have hM2 : 0 < M2 ∧ M2 < 256 := by rw [← wfn]; exact bit_bd (by omega)
  have xl0 : X0.length = C.length := by rw [← e0]; exact fl_len _ _ _ _ _
  have xl1 : X1.length = C.length := by rw [← e1]; exact fl_len _ _ _ _ _
  have xl2 : X2.length = C.length := by rw [← e2]; exact fl_len _ _ _ _ _
  have yl0 : Y0.length = C.length := by rw [← f0, fl_len]; exact xl0
  have yl1 : Y1.length = C.length := by rw [← f1, fl_len]; exact xl1
  have yl2 : Y2.length = C.length := by rw [← f2, fl_len]; exact xl2
  have xb0 : BL X0 := by rw [← e0]; exact fl_bl cB
  have xb1 : BL X1 := by rw [← e1]; exact fl_bl cB
  have xb2 : BL X2 := by rw [← e2]; exact fl_bl cB
  have yb0 : BL Y0 := by rw [← f0]; exact fl_bl xb0
  have yb1 : BL Y1 := by rw [← f1]; exact fl_bl xb1
  have yb2 : BL Y2 := by rw [← f2]; exact fl_bl xb2
  obtain ⟨hv1, hn1⟩ := vst_flip (i := a % 3) (at_ := i1 / 8) (m := M1) (by omega) cB cE0 (by omega) hM1
  rw [e0, e1, e2] at hv1 hn1
  have hv2 : vst [C, C, C] = (3, C) := by simp [vst, vnx, newer, cE0]
  have cf := con_gfill_0 P P.length hPb rfl (by omega) C hC
  have g1 := con_gflip C C C (a % 3) (i1 / 8) M1 (by omega) (by omega) (by omega) (by omega) (by omega) (by omega) (by omega)
  rw [e0, e1, e2] at g1
  have g2 := con_gflip X0 X1 X2 (b % 3) (j1 / 8) M2 (by omega) (by omega) (by omega) (by omega) (by omega) (by omega) (by omega)
  rw [f0, f1, f2] at g2
  have s1 := con_gscrub_y X0 X1 X2 xb0 xb1 xb2 (by omega) (by omega) (by omega) C 2 hv1 (by omega)
  rw [hn1] at s1
  have s2 := con_gscrub_y C C C cB cB cB (by omega) (by omega) (by omega) C 3 hv2 (by omega)
  rw [show nq C C + nq C C + nq C C = 0 by simp [nq]] at s2
  have r1 := con_gread_y C C C cB cB cB (by omega) (by omega) (by omega) nilS C 3 hv2 (by omega)
  rw [cN1, cP1] at r1
  have h3 := vst_two (C := C) (i := a % 3) (j := b % 3) (at_ := i1 / 8) (m := M1) (at2 := j1 / 8) (m2 := M2) (by omega) (by omega) hab cB cE0 (by omega) hM1 (by omega) hM2
  rw [e0, e1, e2, f0, f1, f2] at h3
  have s3 := con_gscrub_n Y0 Y1 Y2 yb0 yb1 yb2 (by omega) (by omega) (by omega) h3
  refine Con.of (C := ⟨Try.prog, tc, Try.f11.ntmps⟩) [] tcok Try.func11 rfl rfl (by kernel_rfl) (by kernel_rfl) ?_
  refine AWP.seq ?_
  refine AWP.regionT tcok hmix [] [0, 1, 2, 3, 4, 10] [] (os := []) (s' := St.mk [(0, T.plain (V.vs (u8s l) (List.length l))), (1, T.plain (u8 a)), (2, T.plain (u8 b)), (3, T.plain (u16 at_)), (4, T.plain (u16 to_)), (10, T.plain (vb false))] []) (by kernel_rfl) trivial ?_
  refine AWP.seq ?_
  refine AWP.seq ?_
  refine AWP.regionT tcok hmix [(0, ⟨none, some ⟨vb true, [], []⟩⟩)] [0, 1, 2, 3, 4, 10, 27] [] (os := [Con Try.prog 43 [] [] [] (vb true)]) (s' := St.mk [(0, T.plain (V.vs (u8s l) (List.length l))), (1, T.plain (u8 a)), (2, T.plain (u8 b)), (3, T.plain (u16 at_)), (4, T.plain (u16 to_)), (10, T.plain (vb false)), (27, T.plain (vb false))] []) (by kernel_rfl) ⟨(haw ), trivial⟩ ?_
  refine AWP.cond (b := false) (by kernel_rfl) (fun h => by cases h) (fun _ => ?_)
  refine AWP.skip ?_
  refine AWP.seq ?_
  refine AWP.regionT tcok hmix [(1, ⟨none, some ⟨V.sl 5 0 (List.length P), [(5, Blk.mk (u8s P) true 0 (some (5, 1)))], []⟩⟩)] [0, 1, 2, 3, 4, 10] [300005] (os := [Con Try.prog 18 [] [V.vs (u8s l) (List.length l), i64 100] [(5, Blk.mk (u8s P) true 0 (some (5, 1)))] (V.sl 5 0 (List.length P))]) (s' := St.mk [(0, T.plain (V.sl 300005 0 (List.length P))), (1, T.plain (u8 a)), (2, T.plain (u8 b)), (3, T.plain (u16 at_)), (4, T.plain (u16 to_)), (10, T.plain (vb false))] [(300005, Blk.mk (u8s P) true 0 (some (5, 1)))]) (by kernel_rfl) ⟨(hcut ), trivial⟩ ?_
  refine AWP.seq ?_
  refine AWP.regionT tcok hmix [(0, ⟨none, some ⟨V.ptr 2 0, [(2, Blk.mk [nilS, nilS, nilS, nilS] true 4 none)], []⟩⟩)] [0, 1, 2, 3, 4, 10, 11] [300005, 310002] (os := [Con Try.prog 50 [] [] [(2, Blk.mk [V.val (Value.slice none 0 0), V.val (Value.slice none 0 0), V.val (Value.slice none 0 0), V.val (Value.slice none 0 0)] true 4 none)] (V.ptr 2 0)]) (s' := St.mk [(0, T.plain (V.sl 300005 0 (List.length P))), (1, T.plain (u8 a)), (2, T.plain (u8 b)), (3, T.plain (u16 at_)), (4, T.plain (u16 to_)), (10, T.plain (vb false)), (11, T.plain (V.ptr 310002 0))] [(300005, Blk.mk (u8s P) true 0 (some (5, 1))), (310002, Blk.mk [V.val (Value.slice none 0 0), V.val (Value.slice none 0 0), V.val (Value.slice none 0 0), V.val (Value.slice none 0 0)] true 4 none)]) (by kernel_rfl) ⟨(Go.Proofs.Ytmeiemdnhjnpcaa.con_gnew ), trivial⟩ ?_
  refine AWP.seq ?_
  refine AWP.frz 300005 (s' := St.mk [(0, T.plain (V.vs (u8s P) (List.length P))), (1, T.plain (u8 a)), (2, T.plain (u8 b)), (3, T.plain (u16 at_)), (4, T.plain (u16 to_)), (10, T.plain (vb false)), (11, T.plain (V.ptr 310002 0))] [(310002, Blk.mk [V.val (Value.slice none 0 0), V.val (Value.slice none 0 0), V.val (Value.slice none 0 0), V.val (Value.slice none 0 0)] true 4 none)]) (by kernel_rfl) ?_
  refine AWP.regionT tcok hmix [(2, ⟨some (V.tup [V.sl 1000000000 310002 0]), some ⟨i64 0, [(1000000000, Blk.mk [B8 C, B8 C, B8 C, nilS] true 4 none)], []⟩⟩)] [0, 1, 2, 3, 4, 10, 11] [310002] (os := [Con Try.prog 46 [(1000000000, Blk.mk [V.val (Value.slice none 0 0), V.val (Value.slice none 0 0), V.val (Value.slice none 0 0), V.val (Value.slice none 0 0)] true 4 none)] [V.ptr 1000000000 0, V.vs (u8s P) (List.length P)] [(1000000000, Blk.mk [V.vs (u8s C) (List.length C), V.vs (u8s C) (List.length C), V.vs (u8s C) (List.length C), V.val (Value.slice none 0 0)] true 4 none)] (i64 0)]) (s' := St.mk [(0, T.plain (V.vs (u8s P) (List.length P))), (1, T.plain (u8 a)), (2, T.plain (u8 b)), (3, T.plain (u16 at_)), (4, T.plain (u16 to_)), (10, T.plain (vb false)), (11, T.plain (V.ptr 310002 0))] [(310002, Blk.mk [V.vs (u8s C) (List.length C), V.vs (u8s C) (List.length C), V.vs (u8s C) (List.length C), V.val (Value.slice none 0 0)] true 4 none)]) (by kernel_rfl) ⟨(cf ), trivial⟩ ?_
  refine AWP.seq ?_
  refine AWP.regionT tcok hmix [(2, ⟨some (i64 ((↑(List.length P) : Int) + 8)), none⟩), (3, ⟨some (i64 (8 * ((↑(List.length P) : Int) + 8))), none⟩)] [0, 1, 2, 3, 4, 10, 11, 12] [310002] (os := [i64 (IntKind.wrap IntKind.i64 ((↑(List.length P) : Int) + 8)) = i64 ((↑(List.length P) : Int) + 8), i64 (IntKind.wrap IntKind.i64 (8 * ((↑(List.length P) : Int) + 8))) = i64 (8 * ((↑(List.length P) : Int) + 8))]) (s' := St.mk [(0, T.plain (V.vs (u8s P) (List.length P))), (1, T.plain (u8 a)), (2, T.plain (u8 b)), (3, T.plain (u16 at_)), (4, T.plain (u16 to_)), (10, T.plain (vb false)), (11, T.plain (V.ptr 310002 0)), (12, T.plain (i64 (8 * ((↑(List.length P) : Int) + 8))))] [(310002, Blk.mk [V.vs (u8s C) (List.length C), V.vs (u8s C) (List.length C), V.vs (u8s C) (List.length C), V.val (Value.slice none 0 0)] true 4 none)]) (by kernel_rfl) ⟨(wr_i64 (by omega) (by omega)), (wr_i64 (by omega) (by omega)), trivial⟩ ?_
  refine AWP.seq ?_
  refine AWP.regionT tcok hmix [(1, ⟨some (i64 at_), none⟩), (3, ⟨some (i64 i1), none⟩), (5, ⟨some (i64 to_), none⟩), (7, ⟨some (i64 j1), none⟩)] [0, 1, 2, 10, 11, 13, 14] [310002] (os := [i64 (IntKind.wrap IntKind.i64 at_) = i64 at_, (8 : Int) * ((↑(List.length P) : Int) + (8 : Int)) ≠ (0 : Int), i64 (Int.tmod at_ (8 * ((↑(List.length P) : Int) + 8))) = i64 i1, i64 (IntKind.wrap IntKind.i64 to_) = i64 to_, (8 : Int) * ((↑(List.length P) : Int) + (8 : Int)) ≠ (0 : Int), i64 (Int.tmod to_ (8 * ((↑(List.length P) : Int) + 8))) = i64 j1]) (s' := St.mk [(0, T.plain (V.vs (u8s P) (List.length P))), (1, T.plain (u8 a)), (2, T.plain (u8 b)), (10, T.plain (vb false)), (11, T.plain (V.ptr 310002 0)), (13, T.plain (i64 i1)), (14, T.plain (i64 j1))] [(310002, Blk.mk [V.vs (u8s C) (List.length C), V.vs (u8s C) (List.length C), V.vs (u8s C) (List.length C), V.val (Value.slice none 0 0)] true 4 none)]) (by kernel_rfl) ⟨(wr_i64 (by omega) (by omega)), (by omega), (in_eq wfi), (wr_i64 (by omega) (by omega)), (by omega), (in_eq wfj), trivial⟩ ?_
  refine AWP.seq ?_
  refine AWP.regionT tcok hmix [(2, ⟨some (u8 (a % 3)), none⟩), (3, ⟨some (i64 (a % 3)), none⟩), (5, ⟨some (i64 (i1 / 8)), none⟩), (7, ⟨some (i64 (i1 % 8)), none⟩), (8, ⟨some (u8 M1), none⟩), (9, ⟨some (V.tup [V.sl 1000000000 310002 0]), some ⟨i64 0, [(1000000000, Blk.mk [B8 X0, B8 X1, B8 X2, nilS] true 4 none)], []⟩⟩)] [0, 1, 2, 10, 11, 13, 14] [310002] (os := [(3 : Int) ≠ (0 : Int), u8 (Int.tmod a 3) = u8 (a % 3), i64 (IntKind.wrap IntKind.i64 (a % 3)) = i64 (a % 3), (8 : Int) ≠ (0 : Int), i64 (IntKind.wrap IntKind.i64 (Int.tdiv i1 8)) = i64 (i1 / 8), (8 : Int) ≠ (0 : Int), i64 (Int.tmod i1 8) = i64 (i1 % 8), (0 : Int) ≤ i1 % (8 : Int), u8 (ishl IntKind.u8 1 (i1 % 8)) = u8 M1, Con Try.prog 51 [(1000000000, Blk.mk [V.vs (u8s C) (List.length C), V.vs (u8s C) (List.length C), V.vs (u8s C) (List.length C), V.val (Value.slice none 0 0)] true 4 none)] [V.ptr 1000000000 0, i64 (a % 3), i64 (i1 / 8), u8 M1] [(1000000000, Blk.mk [V.vs (u8s X0) (List.length X0), V.vs (u8s X1) (List.length X1), V.vs (u8s X2) (List.length X2), V.val (Value.slice none 0 0)] true 4 none)] (i64 0)]) (s' := St.mk [(0, T.plain (V.vs (u8s P) (List.length P))), (1, T.plain (u8 a)), (2, T.plain (u8 b)), (10, T.plain (vb false)), (11, T.plain (V.ptr 310002 0)), (13, T.plain (i64 i1)), (14, T.plain (i64 j1))] [(310002, Blk.mk [V.vs (u8s X0) (List.length X0), V.vs (u8s X1) (List.length X1), V.vs (u8s X2) (List.length X2), V.val (Value.slice none 0 0)] true 4 none)]) (by kernel_rfl) ⟨(by omega), (tm_ (by omega)), (wr_i64 (by omega) (by omega)), (by omega), (wtd (by omega) (wr_i64 (by omega) (by omega))), (by omega), (tm_ (by omega)), (by omega), (in_eq wfm), (g1 ), trivial⟩ ?_
  refine AWP.seq ?_
  refine AWP.regionT tcok hmix [(1, ⟨some (V.tup [V.sl 1000000000 310002 0]), some ⟨V.tup [i64 1, i64 0], [(1000000000, Blk.mk [B8 C, B8 C, B8 C, nilS] true 4 none)], []⟩⟩)] [0, 1, 2, 10, 11, 13, 14, 15, 16] [310002] (os := [Con Try.prog 48 [(1000000000, Blk.mk [V.vs (u8s X0) (List.length X0), V.vs (u8s X1) (List.length X1), V.vs (u8s X2) (List.length X2), V.val (Value.slice none 0 0)] true 4 none)] [V.ptr 1000000000 0] [(1000000000, Blk.mk [V.vs (u8s C) (List.length C), V.vs (u8s C) (List.length C), V.vs (u8s C) (List.length C), V.val (Value.slice none 0 0)] true 4 none)] (V.tup [i64 1, i64 0])]) (s' := St.mk [(0, T.plain (V.vs (u8s P) (List.length P))), (1, T.plain (u8 a)), (2, T.plain (u8 b)), (10, T.plain (vb false)), (11, T.plain (V.ptr 310002 0)), (13, T.plain (i64 i1)), (14, T.plain (i64 j1)), (15, T.plain (i64 1)), (16, T.plain (i64 0))] [(310002, Blk.mk [V.vs (u8s C) (List.length C), V.vs (u8s C) (List.length C), V.vs (u8s C) (List.length C), V.val (Value.slice none 0 0)] true 4 none)]) (by kernel_rfl) ⟨(s1 ), trivial⟩ ?_
  refine AWP.seq ?_
  refine AWP.regionT tcok hmix [(1, ⟨some (V.tup [V.sl 1000000000 310002 0]), some ⟨V.tup [i64 0, i64 0], [(1000000000, Blk.mk [B8 C, B8 C, B8 C, nilS] true 4 none)], []⟩⟩)] [0, 1, 2, 10, 11, 13, 14, 15, 16, 17, 18] [310002] (os := [Con Try.prog 48 [(1000000000, Blk.mk [V.vs (u8s C) (List.length C), V.vs (u8s C) (List.length C), V.vs (u8s C) (List.length C), V.val (Value.slice none 0 0)] true 4 none)] [V.ptr 1000000000 0] [(1000000000, Blk.mk [V.vs (u8s C) (List.length C), V.vs (u8s C) (List.length C), V.vs (u8s C) (List.length C), V.val (Value.slice none 0 0)] true 4 none)] (V.tup [i64 0, i64 0])]) (s' := St.mk [(0, T.plain (V.vs (u8s P) (List.length P))), (1, T.plain (u8 a)), (2, T.plain (u8 b)), (10, T.plain (vb false)), (11, T.plain (V.ptr 310002 0)), (13, T.plain (i64 i1)), (14, T.plain (i64 j1)), (15, T.plain (i64 1)), (16, T.plain (i64 0)), (17, T.plain (i64 0)), (18, T.plain (i64 0))] [(310002, Blk.mk [V.vs (u8s C) (List.length C), V.vs (u8s C) (List.length C), V.vs (u8s C) (List.length C), V.val (Value.slice none 0 0)] true 4 none)]) (by kernel_rfl) ⟨(s2 ), trivial⟩ ?_
  refine AWP.seq ?_
  refine AWP.regionT tcok hmix [(1, ⟨none, some ⟨V.tup [u32 1, V.sl 1210005 0 (List.length P), i64 0], [(1210005, Blk.mk (u8s P) true 0 (some (5, 1)))], [(310002, true)]⟩⟩)] [0, 1, 2, 10, 11, 13, 14, 15, 16, 17, 18, 20, 21] [310002, 1900005] (os := [VO (V.tup [u32 (1 : Int), V.sl (1210005 : Nat) (0 : Nat) (List.length P), i64 (0 : Int)]), VOH [((1210005 : Nat), Blk.mk (u8s P) true (0 : Nat) (some ((5 : Nat), (1 : Nat))))], Con Try.prog 47 [] [V.vp [V.vs (u8s C) (List.length C), V.vs (u8s C) (List.length C), V.vs (u8s C) (List.length C), V.val (Value.slice none 0 0)]] [(1210005, Blk.mk (u8s P) true 0 (some (5, 1)))] (V.tup [u32 1, V.sl 1210005 0 (List.length P), i64 0])]) (s' := St.mk [(0, T.plain (V.vs (u8s P) (List.length P))), (1, T.plain (u8 a)), (2, T.plain (u8 b)), (10, T.plain (vb false)), (11, T.plain (V.ptr 310002 0)), (13, T.plain (i64 i1)), (14, T.plain (i64 j1)), (15, T.plain (i64 1)), (16, T.plain (i64 0)), (17, T.plain (i64 0)), (18, T.plain (i64 0)), (20, T.plain (V.sl 1900005 0 (List.length P))), (21, T.plain (i64 0))] [(310002, Blk.mk [V.vs (u8s C) (List.length C), V.vs (u8s C) (List.length C), V.vs (u8s C) (List.length C), V.val (Value.slice none 0 0)] true 4 none), (1900005, Blk.mk (u8s P) true 0 (some (5, 1)))]) (by kernel_rfl) ⟨(VO.tup (VOL.cons (VO.val _) (VOL.cons (VO.sl _ _ _) (VOL.cons (VO.val _) VOL.nil)))), ⟨(VOL.u8s _), trivial⟩, (r1 ), trivial⟩ ?_
  refine AWP.seq ?_
  refine AWP.seq ?_
  refine AWP.regionT tcok hmix [(21, ⟨none, some ⟨vb (decide (P = P)), [], [(1900005, true)]⟩⟩)] [1, 2, 10, 11, 13, 14, 95] [310002] (os := [false = false → VO (vb (decide (P = P))) ∧ VOH [] ∧ Con Try.prog (23 : Nat) [] [V.vs (u8s P) (List.length P), V.vs (u8s P) (List.length P)] [] (vb (decide (P = P))) ∧ (0 : Nat) = (0 : Nat) ∧ List.length P * (1 : Nat) = List.length (u8s P) ∧ True]) (s' := St.mk [(1, T.plain (u8 a)), (2, T.plain (u8 b)), (10, T.plain (vb false)), (11, T.plain (V.ptr 310002 0)), (13, T.plain (i64 i1)), (14, T.plain (i64 j1)), (95, T.plain (vb (false || !decide (P = P))))] [(310002, Blk.mk [V.vs (u8s C) (List.length C), V.vs (u8s C) (List.length C), V.vs (u8s C) (List.length C), V.val (Value.slice none 0 0)] true 4 none)]) (by kernel_rfl) ⟨(by intro hc0; first | (cases hc0; done) | (try simp only [Bool.or_false, Bool.false_or, Bool.true_and, Bool.and_true, decide_eq_true_eq, decide_eq_false_iff_not, Bool.and_eq_true, Bool.or_eq_true, Bool.or_eq_false_iff, Bool.not_eq_true', Bool.and_eq_false_iff, beq_iff_eq, bne_iff_ne, bne_eq_false_iff_eq, beq_eq_false_iff_ne, Bool.not_eq_false'] at hc0; exact ⟨(VO.val _), trivial, (Go.Proofs.Ytmeiemdnhjnpcaa.con_samen (P) (P) (List.length P) (List.length P) (by (first | assumption | omega | (simp [len_u8s]; done) | (simp [len_u8s]; omega))) (by (first | assumption | omega | (simp [len_u8s]; done) | (simp [len_u8s]; omega))) (by (first | assumption | omega | (simp [len_u8s]; done) | (simp [len_u8s]; omega))) (by (first | assumption | omega | (simp [len_u8s]; done) | (simp [len_u8s]; omega)))), (by omega), (by first | omega | (simp [len_u8s]; omega) | (simp [len_u8s]; done)), trivial⟩)), trivial⟩ ?_
  refine AWP.cond (b := false || !decide (P = P)) (by kernel_rfl) (fun hq4 => ?_) (fun hq4 => ?_)
  · try simp only [Bool.or_false, Bool.false_or, Bool.true_and, Bool.and_true, decide_eq_true_eq, decide_eq_false_iff_not, Bool.and_eq_true, Bool.or_eq_true, Bool.or_eq_false_iff, Bool.not_eq_true', Bool.and_eq_false_iff, beq_iff_eq, bne_iff_ne, bne_eq_false_iff_eq, beq_eq_false_iff_ne, Bool.not_eq_false'] at hq4
    (simp [bl] at hq4; done)
  try simp only [Bool.or_false, Bool.false_or, Bool.true_and, Bool.and_true, decide_eq_true_eq, decide_eq_false_iff_not, Bool.and_eq_true, Bool.or_eq_true, Bool.or_eq_false_iff, Bool.not_eq_true', Bool.and_eq_false_iff, beq_iff_eq, bne_iff_ne, bne_eq_false_iff_eq, beq_eq_false_iff_ne, Bool.not_eq_false'] at hq4
  refine AWP.skip ?_
  refine AWP.seq ?_
  refine AWP.regionT tcok hmix [(2, ⟨some (u8 (a % 3)), none⟩), (3, ⟨some (i64 (a % 3)), none⟩), (5, ⟨some (i64 (i1 / 8)), none⟩), (7, ⟨some (i64 (i1 % 8)), none⟩), (8, ⟨some (u8 M1), none⟩), (9, ⟨some (V.tup [V.sl 1000000000 310002 0]), some ⟨i64 0, [(1000000000, Blk.mk [B8 X0, B8 X1, B8 X2, nilS] true 4 none)], []⟩⟩)] [1, 2, 10, 11, 14] [310002] (os := [(3 : Int) ≠ (0 : Int), u8 (Int.tmod a 3) = u8 (a % 3), i64 (IntKind.wrap IntKind.i64 (a % 3)) = i64 (a % 3), (8 : Int) ≠ (0 : Int), i64 (IntKind.wrap IntKind.i64 (Int.tdiv i1 8)) = i64 (i1 / 8), (8 : Int) ≠ (0 : Int), i64 (Int.tmod i1 8) = i64 (i1 % 8), (0 : Int) ≤ i1 % (8 : Int), u8 (ishl IntKind.u8 1 (i1 % 8)) = u8 M1, Con Try.prog 51 [(1000000000, Blk.mk [V.vs (u8s C) (List.length C), V.vs (u8s C) (List.length C), V.vs (u8s C) (List.length C), V.val (Value.slice none 0 0)] true 4 none)] [V.ptr 1000000000 0, i64 (a % 3), i64 (i1 / 8), u8 M1] [(1000000000, Blk.mk [V.vs (u8s X0) (List.length X0), V.vs (u8s X1) (List.length X1), V.vs (u8s X2) (List.length X2), V.val (Value.slice none 0 0)] true 4 none)] (i64 0)]) (s' := St.mk [(1, T.plain (u8 a)), (2, T.plain (u8 b)), (10, T.plain (vb false)), (11, T.plain (V.ptr 310002 0)), (14, T.plain (i64 j1))] [(310002, Blk.mk [V.vs (u8s X0) (List.length X0), V.vs (u8s X1) (List.length X1), V.vs (u8s X2) (List.length X2), V.val (Value.slice none 0 0)] true 4 none)]) (by kernel_rfl) ⟨(by omega), (tm_ (by omega)), (wr_i64 (by omega) (by omega)), (by omega), (wtd (by omega) (wr_i64 (by omega) (by omega))), (by omega), (tm_ (by omega)), (by omega), (in_eq wfm), (g1 ), trivial⟩ ?_
  refine AWP.seq ?_
  refine AWP.regionT tcok hmix [(2, ⟨some (u8 (b % 3)), none⟩), (3, ⟨some (i64 (b % 3)), none⟩), (5, ⟨some (i64 (j1 / 8)), none⟩), (7, ⟨some (i64 (j1 % 8)), none⟩), (8, ⟨some (u8 M2), none⟩), (9, ⟨some (V.tup [V.sl 1000000000 310002 0]), some ⟨i64 0, [(1000000000, Blk.mk [B8 Y0, B8 Y1, B8 Y2, nilS] true 4 none)], []⟩⟩)] [1, 2, 10, 11] [310002] (os := [(3 : Int) ≠ (0 : Int), u8 (Int.tmod b 3) = u8 (b % 3), i64 (IntKind.wrap IntKind.i64 (b % 3)) = i64 (b % 3), (8 : Int) ≠ (0 : Int), i64 (IntKind.wrap IntKind.i64 (Int.tdiv j1 8)) = i64 (j1 / 8), (8 : Int) ≠ (0 : Int), i64 (Int.tmod j1 8) = i64 (j1 % 8), (0 : Int) ≤ j1 % (8 : Int), u8 (ishl IntKind.u8 1 (j1 % 8)) = u8 M2, Con Try.prog 51 [(1000000000, Blk.mk [V.vs (u8s X0) (List.length X0), V.vs (u8s X1) (List.length X1), V.vs (u8s X2) (List.length X2), V.val (Value.slice none 0 0)] true 4 none)] [V.ptr 1000000000 0, i64 (b % 3), i64 (j1 / 8), u8 M2] [(1000000000, Blk.mk [V.vs (u8s Y0) (List.length Y0), V.vs (u8s Y1) (List.length Y1), V.vs (u8s Y2) (List.length Y2), V.val (Value.slice none 0 0)] true 4 none)] (i64 0)]) (s' := St.mk [(1, T.plain (u8 a)), (2, T.plain (u8 b)), (10, T.plain (vb false)), (11, T.plain (V.ptr 310002 0))] [(310002, Blk.mk [V.vs (u8s Y0) (List.length Y0), V.vs (u8s Y1) (List.length Y1), V.vs (u8s Y2) (List.length Y2), V.val (Value.slice none 0 0)] true 4 none)]) (by kernel_rfl) ⟨(by omega), (tm_ (by omega)), (wr_i64 (by omega) (by omega)), (by omega), (wtd (by omega) (wr_i64 (by omega) (by omega))), (by omega), (tm_ (by omega)), (by omega), (in_eq wfn), (g2 ), trivial⟩ ?_
  refine AWP.seq ?_
  refine AWP.regionT tcok hmix [(1, ⟨some (V.tup [V.sl 1000000000 310002 0]), some ⟨V.sl 3 0 3, [(3, Blk.mk [B8 Y0, B8 Y1, B8 Y2] true 0 (some (29, 1))), (1000000000, Blk.mk [B8 Y0, B8 Y1, B8 Y2, V.val (Value.slice none 0 0)] true 4 none)], []⟩⟩)] [1, 2, 10, 11, 22] [310002, 1180003] (os := [Con Try.prog 52 [(1000000000, Blk.mk [V.vs (u8s Y0) (List.length Y0), V.vs (u8s Y1) (List.length Y1), V.vs (u8s Y2) (List.length Y2), V.val (Value.slice none 0 0)] true 4 none)] [V.ptr 1000000000 0] [(3, Blk.mk [V.vs (u8s Y0) (List.length Y0), V.vs (u8s Y1) (List.length Y1), V.vs (u8s Y2) (List.length Y2)] true 0 (some (29, 1))), (1000000000, Blk.mk [V.vs (u8s Y0) (List.length Y0), V.vs (u8s Y1) (List.length Y1), V.vs (u8s Y2) (List.length Y2), V.val (Value.slice none 0 0)] true 4 none)] (V.sl 3 0 3)]) (s' := St.mk [(1, T.plain (u8 a)), (2, T.plain (u8 b)), (10, T.plain (vb false)), (11, T.plain (V.ptr 310002 0)), (22, T.plain (V.sl 1180003 0 3))] [(310002, Blk.mk [V.vs (u8s Y0) (List.length Y0), V.vs (u8s Y1) (List.length Y1), V.vs (u8s Y2) (List.length Y2), V.val (Value.slice none 0 0)] true 4 none), (1180003, Blk.mk [V.vs (u8s Y0) (List.length Y0), V.vs (u8s Y1) (List.length Y1), V.vs (u8s Y2) (List.length Y2)] true 0 (some (29, 1)))]) (by kernel_rfl) ⟨(Go.Proofs.Ytmeiemdnhjnpcaa.con_gcopies (Y0) (Y1) (Y2) (V.val (Value.slice none 0 0)) (by (first | assumption | omega | (simp [len_u8s]; done) | (simp [len_u8s]; omega))) (by (first | assumption | omega | (simp [len_u8s]; done) | (simp [len_u8s]; omega))) (by (first | assumption | omega | (simp [len_u8s]; done) | (simp [len_u8s]; omega)))), trivial⟩ ?_
  refine AWP.seq ?_
  refine AWP.regionT tcok hmix [(1, ⟨some (V.tup [V.sl 1000000000 310002 0]), some ⟨V.tup [i64 0, i64 3], [(1000000000, Blk.mk [B8 Y0, B8 Y1, B8 Y2, nilS] true 4 none)], []⟩⟩)] [1, 2, 10, 11, 22, 24] [310002, 1180003] (os := [Con Try.prog 48 [(1000000000, Blk.mk [V.vs (u8s Y0) (List.length Y0), V.vs (u8s Y1) (List.length Y1), V.vs (u8s Y2) (List.length Y2), V.val (Value.slice none 0 0)] true 4 none)] [V.ptr 1000000000 0] [(1000000000, Blk.mk [V.vs (u8s Y0) (List.length Y0), V.vs (u8s Y1) (List.length Y1), V.vs (u8s Y2) (List.length Y2), V.val (Value.slice none 0 0)] true 4 none)] (V.tup [i64 0, i64 3])]) (s' := St.mk [(1, T.plain (u8 a)), (2, T.plain (u8 b)), (10, T.plain (vb false)), (11, T.plain (V.ptr 310002 0)), (22, T.plain (V.sl 1180003 0 3)), (24, T.plain (i64 3))] [(310002, Blk.mk [V.vs (u8s Y0) (List.length Y0), V.vs (u8s Y1) (List.length Y1), V.vs (u8s Y2) (List.length Y2), V.val (Value.slice none 0 0)] true 4 none), (1180003, Blk.mk [V.vs (u8s Y0) (List.length Y0), V.vs (u8s Y1) (List.length Y1), V.vs (u8s Y2) (List.length Y2)] true 0 (some (29, 1)))]) (by kernel_rfl) ⟨(s3 ), trivial⟩ ?_
  refine AWP.seq ?_
  refine AWP.seq ?_
  refine AWP.regionT tcok hmix [(1, ⟨some (u8 (a % 3)), none⟩), (3, ⟨some (u8 (b % 3)), none⟩)] [10, 11, 22, 24, 127] [310002, 1180003] (os := [(3 : Int) ≠ (0 : Int), u8 (Int.tmod a 3) = u8 (a % 3), (3 : Int) ≠ (0 : Int), u8 (Int.tmod b 3) = u8 (b % 3)]) (s' := St.mk [(10, T.plain (vb false)), (11, T.plain (V.ptr 310002 0)), (22, T.plain (V.sl 1180003 0 3)), (24, T.plain (i64 3)), (127, T.plain (vb (a % 3 == b % 3)))] [(310002, Blk.mk [V.vs (u8s Y0) (List.length Y0), V.vs (u8s Y1) (List.length Y1), V.vs (u8s Y2) (List.length Y2), V.val (Value.slice none 0 0)] true 4 none), (1180003, Blk.mk [V.vs (u8s Y0) (List.length Y0), V.vs (u8s Y1) (List.length Y1), V.vs (u8s Y2) (List.length Y2)] true 0 (some (29, 1)))]) (by kernel_rfl) ⟨(by omega), (tm_ (by omega)), (by omega), (tm_ (by omega)), trivial⟩ ?_
  refine AWP.cond (b := a % 3 == b % 3) (by kernel_rfl) (fun hq5 => ?_) (fun hq5 => ?_)
  · try simp only [Bool.or_false, Bool.false_or, Bool.true_and, Bool.and_true, decide_eq_true_eq, decide_eq_false_iff_not, Bool.and_eq_true, Bool.or_eq_true, Bool.or_eq_false_iff, Bool.not_eq_true', Bool.and_eq_false_iff, beq_iff_eq, bne_iff_ne, bne_eq_false_iff_eq, beq_eq_false_iff_ne, Bool.not_eq_false'] at hq5
    (exfalso; omega)
  try simp only [Bool.or_false, Bool.false_or, Bool.true_and, Bool.and_true, decide_eq_true_eq, decide_eq_false_iff_not, Bool.and_eq_true, Bool.or_eq_true, Bool.or_eq_false_iff, Bool.not_eq_true', Bool.and_eq_false_iff, beq_iff_eq, bne_iff_ne, bne_eq_false_iff_eq, beq_eq_false_iff_ne, Bool.not_eq_false'] at hq5
  refine AWP.skip ?_
  refine AWP.seq ?_
  refine AWP.regionT tcok hmix [(1, ⟨some (V.tup [V.sl 1000000000 310002 0]), some ⟨V.sl 3 0 3, [(3, Blk.mk [B8 Y0, B8 Y1, B8 Y2] true 0 (some (29, 1))), (1000000000, Blk.mk [B8 Y0, B8 Y1, B8 Y2, V.val (Value.slice none 0 0)] true 4 none)], []⟩⟩)] [10, 22, 24, 25] [1180003, 1320003] (os := [Con Try.prog 52 [(1000000000, Blk.mk [V.vs (u8s Y0) (List.length Y0), V.vs (u8s Y1) (List.length Y1), V.vs (u8s Y2) (List.length Y2), V.val (Value.slice none 0 0)] true 4 none)] [V.ptr 1000000000 0] [(3, Blk.mk [V.vs (u8s Y0) (List.length Y0), V.vs (u8s Y1) (List.length Y1), V.vs (u8s Y2) (List.length Y2)] true 0 (some (29, 1))), (1000000000, Blk.mk [V.vs (u8s Y0) (List.length Y0), V.vs (u8s Y1) (List.length Y1), V.vs (u8s Y2) (List.length Y2), V.val (Value.slice none 0 0)] true 4 none)] (V.sl 3 0 3)]) (s' := St.mk [(10, T.plain (vb false)), (22, T.plain (V.sl 1180003 0 3)), (24, T.plain (i64 3)), (25, T.plain (V.sl 1320003 0 3))] [(1180003, Blk.mk [V.vs (u8s Y0) (List.length Y0), V.vs (u8s Y1) (List.length Y1), V.vs (u8s Y2) (List.length Y2)] true 0 (some (29, 1))), (1320003, Blk.mk [V.vs (u8s Y0) (List.length Y0), V.vs (u8s Y1) (List.length Y1), V.vs (u8s Y2) (List.length Y2)] true 0 (some (29, 1)))]) (by kernel_rfl) ⟨(Go.Proofs.Ytmeiemdnhjnpcaa.con_gcopies (Y0) (Y1) (Y2) (V.val (Value.slice none 0 0)) (by (first | assumption | omega | (simp [len_u8s]; done) | (simp [len_u8s]; omega))) (by (first | assumption | omega | (simp [len_u8s]; done) | (simp [len_u8s]; omega))) (by (first | assumption | omega | (simp [len_u8s]; done) | (simp [len_u8s]; omega)))), trivial⟩ ?_
  refine AWP.seq ?_
  refine AWP.regionT tcok hmix [(9, ⟨none, some ⟨vb (decide (Y0 = Y0)), [], []⟩⟩), (18, ⟨none, some ⟨vb (decide (Y1 = Y1)), [], []⟩⟩), (27, ⟨none, some ⟨vb (decide (Y2 = Y2)), [], []⟩⟩)] [10] [] (os := [true = true → Con Try.prog (23 : Nat) [] [V.vs (u8s Y0) (List.length Y0), V.vs (u8s Y0) (List.length Y0)] [] (vb (decide (Y0 = Y0))) ∧ True, (true && decide (Y0 = Y0)) = true → Con Try.prog (23 : Nat) [] [V.vs (u8s Y1) (List.length Y1), V.vs (u8s Y1) (List.length Y1)] [] (vb (decide (Y1 = Y1))) ∧ True, (true && decide (Y0 = Y0) && decide (Y1 = Y1)) = true → Con Try.prog (23 : Nat) [] [V.vs (u8s Y2) (List.length Y2), V.vs (u8s Y2) (List.length Y2)] [] (vb (decide (Y2 = Y2))) ∧ True]) (s' := St.mk [(10, T.plain (vb (true && decide (Y0 = Y0) && decide (Y1 = Y1) && decide (Y2 = Y2))))] []) (by kernel_rfl) ⟨(by intro hc0; first | (cases hc0; done) | (try simp only [Bool.or_false, Bool.false_or, Bool.true_and, Bool.and_true, decide_eq_true_eq, decide_eq_false_iff_not, Bool.and_eq_true, Bool.or_eq_true, Bool.or_eq_false_iff, Bool.not_eq_true', Bool.and_eq_false_iff, beq_iff_eq, bne_iff_ne, bne_eq_false_iff_eq, beq_eq_false_iff_ne, Bool.not_eq_false'] at hc0; exact ⟨(Go.Proofs.Ytmeiemdnhjnpcaa.con_samen (Y0) (Y0) (List.length Y0) (List.length Y0) (by (first | assumption | omega | (simp [len_u8s]; done) | (simp [len_u8s]; omega))) (by (first | assumption | omega | (simp [len_u8s]; done) | (simp [len_u8s]; omega))) (by (first | assumption | omega | (simp [len_u8s]; done) | (simp [len_u8s]; omega))) (by (first | assumption | omega | (simp [len_u8s]; done) | (simp [len_u8s]; omega)))), trivial⟩)), (by intro hc0; first | (cases hc0; done) | (try simp only [Bool.or_false, Bool.false_or, Bool.true_and, Bool.and_true, decide_eq_true_eq, decide_eq_false_iff_not, Bool.and_eq_true, Bool.or_eq_true, Bool.or_eq_false_iff, Bool.not_eq_true', Bool.and_eq_false_iff, beq_iff_eq, bne_iff_ne, bne_eq_false_iff_eq, beq_eq_false_iff_ne, Bool.not_eq_false'] at hc0; exact ⟨(Go.Proofs.Ytmeiemdnhjnpcaa.con_samen (Y1) (Y1) (List.length Y1) (List.length Y1) (by (first | assumption | omega | (simp [len_u8s]; done) | (simp [len_u8s]; omega))) (by (first | assumption | omega | (simp [len_u8s]; done) | (simp [len_u8s]; omega))) (by (first | assumption | omega | (simp [len_u8s]; done) | (simp [len_u8s]; omega))) (by (first | assumption | omega | (simp [len_u8s]; done) | (simp [len_u8s]; omega)))), trivial⟩)), (by intro hc0; first | (cases hc0; done) | (try simp only [Bool.or_false, Bool.false_or, Bool.true_and, Bool.and_true, decide_eq_true_eq, decide_eq_false_iff_not, Bool.and_eq_true, Bool.or_eq_true, Bool.or_eq_false_iff, Bool.not_eq_true', Bool.and_eq_false_iff, beq_iff_eq, bne_iff_ne, bne_eq_false_iff_eq, beq_eq_false_iff_ne, Bool.not_eq_false'] at hc0; exact ⟨(Go.Proofs.Ytmeiemdnhjnpcaa.con_samen (Y2) (Y2) (List.length Y2) (List.length Y2) (by (first | assumption | omega | (simp [len_u8s]; done) | (simp [len_u8s]; omega))) (by (first | assumption | omega | (simp [len_u8s]; done) | (simp [len_u8s]; omega))) (by (first | assumption | omega | (simp [len_u8s]; done) | (simp [len_u8s]; omega))) (by (first | assumption | omega | (simp [len_u8s]; done) | (simp [len_u8s]; omega)))), trivial⟩)), trivial⟩ ?_
  refine AWP.ret ?_
  refine ⟨Or.inr rfl, Eq.trans (b := some ([], vb (true && decide (Y0 = Y0) && decide (Y1 = Y1) && decide (Y2 = Y2)))) (by kernel_rfl) ?_⟩
  first | rfl | (simp; done)
theorem law_GuardScrubs (p a b at_ to_ : V) (hp : TyV tc 9 29 p) (ha : TyV tc 9 5 a) (hb : TyV tc 9 5 b) (hat : TyV tc 9 22 at_) (hto : TyV tc 9 22 to_) : Con Try.prog 11 [] [p, a, b, at_, to_] [] (vb true) := by
  obtain ⟨l, rfl, hl, hll⟩ := bytes_of hp
  obtain ⟨a, q1, a1, a2⟩ := ha
  obtain ⟨b, q2, b1, b2⟩ := hb
  obtain ⟨x, q3, x1, x2⟩ := hat
  obtain ⟨y, q4, y1, y2⟩ := hto
  cases q1
  cases q2
  cases q3
  cases q4
  by_cases hab : a % 3 = b % 3
  · exact scr_eq a b x y _ _ _ _ l _ _ _ _ _ _ _ _ hl hll rfl rfl ⟨a1, Int.lt_add_one_of_le a2⟩ ⟨b1, Int.lt_add_one_of_le b2⟩ ⟨x1, Int.lt_add_one_of_le x2⟩ ⟨y1, Int.lt_add_one_of_le y2⟩ rfl rfl rfl rfl rfl rfl rfl rfl rfl rfl hab
  · exact scr_ne a b x y _ _ _ _ l _ _ _ _ _ _ _ _ hl hll rfl rfl ⟨a1, Int.lt_add_one_of_le a2⟩ ⟨b1, Int.lt_add_one_of_le b2⟩ ⟨x1, Int.lt_add_one_of_le x2⟩ ⟨y1, Int.lt_add_one_of_le y2⟩ rfl rfl rfl rfl rfl rfl rfl rfl rfl rfl hab
end Go.Proofs.Ytmeiemdnhjnpcaa
