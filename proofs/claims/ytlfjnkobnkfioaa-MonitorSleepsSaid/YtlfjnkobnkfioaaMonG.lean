/- Chapter 16: a rule looks, wherever it lies. -/
import Derived.Test.YtlfjnkobnkfioaaRg
import Derived.Test.YtlfjnkobnkfioaaMonF
import Derived.Test.YtlfjnkobnkfioaaAb30
namespace Go.Proofs.Ytlfjnkobnkfioaa
open Go.Ab
set_option linter.unusedSimpArgs false
set_option linter.unusedVariables false
set_option maxHeartbeats 8000000
set_option maxRecDepth 100000
/-- A rule and what it has seen lie at off. -/
structure At (L : List V) (off : Nat) (kd pa lo hi ma wa rp ev lv un : Int) (en : Bool) (st fo ti la : Int) (an : Bool) : Prop where
  len : L.length = 257
  le : off + 16 ≤ 257
  f6 : gI L (off + 6) = u8 rp
  f11 : gI L (off + 11) = u8 st
  f12 : gI L (off + 12) = u8 fo
  f13 : gI L (off + 13) = u8 ti
  f14 : gI L (off + 14) = i32 la
  f15 : gI L (off + 15) = vb an
  row : ∃ r, L.drop off = u8 kd :: i64 pa :: i32 lo :: i32 hi :: u32 ma :: u32 wa :: u8 rp :: u8 ev :: u8 lv :: i64 un :: vb en :: r
theorem con_look_A (L : List V) (off : Nat) (kd pa lo hi ma wa rp ev lv un st fo ti la v s : Int) (en an : Bool) (h : At L off kd pa lo hi ma wa rp ev lv un en st fo ti la an) (hk : 0 ≤ kd ∧ kd < 256) (hlo : -2147483648 ≤ lo ∧ lo ≤ 2147483647) (hhi : -2147483648 ≤ hi ∧ hi ≤ 2147483647) (hv : -2147483648 ≤ v ∧ v ≤ 2147483647) (hla : -2147483648 ≤ la ∧ la ≤ 2147483647)
    (hl : look kd pa lo hi ma wa v la (!an) = s) (hti : 0 ≤ ti ∧ ti < 255) (h0 : s ≠ 0) (hs : s = fo) (hn : ti + 1 < rp ∨ st = s) : Con Try.prog 43 [(1000000000, ⟨L, true, 257, none⟩)] [.ptr 1000000000 off, i32 v] [(1000000000, ⟨(putC (1 == 1) (putC (1 == 1) (putC (1 == 1) L (off + 14) [i32 v]) (off + 15) [vb true]) (off + 13) [u8 (ti + 1)]), true, 257, none⟩)] (vb false) := by
  obtain ⟨hL, hle, wg6, wg11, wg12, wg13, wg14, wg15, r, kx⟩ := h
  have cl := con_look kd pa lo hi ma wa v la (!an) hk hlo hhi hv hla
  rw [hl] at cl
  have e6 : List.take 6 (List.drop (off + 0 + 0) L) = [u8 kd, i64 pa, i32 lo, i32 hi, u32 ma, u32 wa] := by
    show List.take 6 (List.drop off L) = _
    rw [kx]
    rfl
  have cl2 : Con Try.prog 56 [] [.agg true (List.take 6 (List.drop (off + 0 + 0) L)), i32 v, i32 la, vb (!an)] [] (u8 s) := Con.args (by rw [e6]) cl
  refine Con.of (C := ⟨Try.prog, tc, Try.f43.ntmps⟩) [1000000000] tcok Try.func43 rfl rfl (by kernel_rfl) (by kernel_rfl) ?_
  refine xe0 [0, 1, 4] [1000000000] (by kernel_rfl) ?_
  refine xe1 (os := [off + (0 : Nat) + (0 : Nat) + (6 : Nat) ≤ List.length L, V.agg true (List.take 6 (List.drop (off + 0 + 0) L)) = V.agg true (List.take 6 (List.drop (off + 0 + 0) L)), off + (11 : Nat) + (3 : Nat) + (1 : Nat) ≤ List.length L, part_ true (isRow (TypeDesc.int IntKind.i32)) L (off + 11 + 3) 1 = i32 la, off + (11 : Nat) + (4 : Nat) + (1 : Nat) ≤ List.length L, part_ true (isRow TypeDesc.bool) L (off + 11 + 4) 1 = vb an, Con Try.prog 56 [] [V.agg true (List.take 6 (List.drop (off + 0 + 0) L)), i32 v, i32 la, vb !an] [] (u8 s)]) [(4, ⟨some (V.agg true (List.take 6 (List.drop (off + 0 + 0) L))), none⟩), (10, ⟨some (i32 la), none⟩), (15, ⟨some (vb an), none⟩), (17, ⟨none, some ⟨u8 s, [], []⟩⟩)] [0, 1, 4, 5] [1000000000] (by kernel_rfl) ⟨(by omega), rfl, (by omega), (wg14 ), (by omega), (wg15 ), (cl2 ), trivial⟩ ?_
  refine xe1 (os := [(1 : Nat) = (1 : Nat), off + (11 : Nat) + (3 : Nat) + (1 : Nat) ≤ List.length L, (1 : Nat) = (1 : Nat), off + (11 : Nat) + (4 : Nat) + (1 : Nat) ≤ List.length (putC ((1 : Nat) == (1 : Nat)) L (off + (11 : Nat) + (3 : Nat)) [i32 v])]) [(6, ⟨some V.top, none⟩), (10, ⟨some V.top, none⟩)] [0, 4, 5] [1000000000] (by kernel_rfl) ⟨(by omega), (by omega), (by omega), (by (simp only [len_putC]; omega)), trivial⟩ ?_
  refine AWP.seq ?_
  refine AWP.block ?_
  refine xe0 [0, 4, 5, 33] [1000000000] (by kernel_rfl) ?_
  refine AWP.cond (b := s == 0) (by kernel_rfl) (fun hq0 => ?_) (fun hq0 => ?_)
  · simp only [beq_iff_eq] at hq0
    (exfalso; omega)
  simp only [beq_eq_false_iff_ne] at hq0
  refine xe1 (os := [off + (11 : Nat) + (1 : Nat) + (1 : Nat) ≤ List.length (putC ((1 : Nat) == (1 : Nat)) (putC ((1 : Nat) == (1 : Nat)) L (off + (11 : Nat) + (3 : Nat)) [i32 v]) (off + (11 : Nat) + (4 : Nat)) [vb true]), part_ true (isRow (TypeDesc.int IntKind.u8)) (putC (1 == 1) (putC (1 == 1) L (off + 11 + 3) [i32 v]) (off + 11 + 4) [vb true]) (off + 11 + 1) 1 = u8 fo]) [(5, ⟨some (u8 fo), none⟩)] [0, 4, 5, 45] [1000000000] (by kernel_rfl) ⟨(by (simp only [len_putC]; omega)), (gI_putC_ne (by omega) (gI_putC_ne (by omega) (wg12 ))), trivial⟩ ?_
  refine AWP.cond (b := s != fo) (by kernel_rfl) (fun hq1 => ?_) (fun hq1 => ?_)
  · simp only [bne_iff_ne] at hq1
    (exfalso; omega)
  simp only [bne_eq_false_iff_eq] at hq1
  refine xe1 (os := [off + (11 : Nat) + (2 : Nat) + (1 : Nat) ≤ List.length (putC ((1 : Nat) == (1 : Nat)) (putC ((1 : Nat) == (1 : Nat)) L (off + (11 : Nat) + (3 : Nat)) [i32 v]) (off + (11 : Nat) + (4 : Nat)) [vb true]), part_ true (isRow (TypeDesc.int IntKind.u8)) (putC (1 == 1) (putC (1 == 1) L (off + 11 + 3) [i32 v]) (off + 11 + 4) [vb true]) (off + 11 + 2) 1 = u8 ti]) [(4, ⟨some (u8 ti), none⟩)] [0, 4, 5, 62] [1000000000] (by kernel_rfl) ⟨(by (simp only [len_putC]; omega)), (gI_putC_ne (by omega) (gI_putC_ne (by omega) (wg13 ))), trivial⟩ ?_
  refine AWP.cond (b := decide (ti < 255)) (by kernel_rfl) (fun hq2 => ?_) (fun hq2 => ?_)
  · simp only [decide_eq_true_eq] at hq2
    refine AWP.region tcok hmix [(4, ⟨some (u8 ti), none⟩), (5, ⟨some (u8 (ti + 1)), none⟩), (9, ⟨some V.top, none⟩)] (os := [off + (11 : Nat) + (2 : Nat) + (1 : Nat) ≤ List.length (putC ((1 : Nat) == (1 : Nat)) (putC ((1 : Nat) == (1 : Nat)) L (off + (11 : Nat) + (3 : Nat)) [i32 v]) (off + (11 : Nat) + (4 : Nat)) [vb true]), part_ true (isRow (TypeDesc.int IntKind.u8)) (putC (1 == 1) (putC (1 == 1) L (off + 11 + 3) [i32 v]) (off + 11 + 4) [vb true]) (off + 11 + 2) 1 = u8 ti, u8 (IntKind.wrap IntKind.u8 (ti + 1)) = u8 (ti + 1), (1 : Nat) = (1 : Nat), off + (11 : Nat) + (2 : Nat) + (1 : Nat) ≤ List.length (putC ((1 : Nat) == (1 : Nat)) (putC ((1 : Nat) == (1 : Nat)) L (off + (11 : Nat) + (3 : Nat)) [i32 v]) (off + (11 : Nat) + (4 : Nat)) [vb true])]) (sf := St.mk [(0, tp (V.ptr 1000000000 off)), (4, tp (vb false)), (5, tp (u8 s)), (62, tp (vb (decide (ti < 255)))), (69, tp (V.ptr 1000000000 off)), (70, tp (V.ptr 1000000000 off)), (71, tp (V.ptr 1000000000 (off + 11))), (72, tp (V.ptr 1000000000 (off + 11 + 2))), (73, tp (u8 ti)), (74, tp (u8 (ti + 1))), (75, tp (V.ptr 1000000000 off)), (76, tp (V.ptr 1000000000 (off + 11))), (77, tp (V.ptr 1000000000 (off + 11 + 2)))] [(1000000000, Blk.mk (putC (1 == 1) (putC (1 == 1) (putC (1 == 1) L (off + 11 + 3) [i32 v]) (off + 11 + 4) [vb true]) (off + 11 + 2) [u8 (ti + 1)]) true 257 none)]) (by kernel_rfl) ⟨(by (simp only [len_putC]; omega)), (gI_putC_ne (by omega) (gI_putC_ne (by omega) (wg13 ))), (wr_u8 (by omega) (by omega)), (by omega), (by (simp only [len_putC]; omega)), trivial⟩ ?_
    refine AWP.keep' [0, 4, 5] [1000000000] (sf := St.mk [(0, tp (V.ptr 1000000000 off)), (4, tp (vb false)), (5, tp (u8 s))] [(1000000000, Blk.mk (putC (1 == 1) (putC (1 == 1) (putC (1 == 1) L (off + 11 + 3) [i32 v]) (off + 11 + 4) [vb true]) (off + 11 + 2) [u8 (ti + 1)]) true 257 none)]) (by kernel_rfl) ?_
    refine AWP.seq ?_
    refine xe1 (os := [off + (11 : Nat) + (2 : Nat) + (1 : Nat) ≤ List.length (putC ((1 : Nat) == (1 : Nat)) (putC ((1 : Nat) == (1 : Nat)) (putC ((1 : Nat) == (1 : Nat)) L (off + (11 : Nat) + (3 : Nat)) [i32 v]) (off + (11 : Nat) + (4 : Nat)) [vb true]) (off + (11 : Nat) + (2 : Nat)) [u8 (ti + (1 : Int))]), part_ true (isRow (TypeDesc.int IntKind.u8)) (putC (1 == 1) (putC (1 == 1) (putC (1 == 1) L (off + 11 + 3) [i32 v]) (off + 11 + 4) [vb true]) (off + 11 + 2) [u8 (ti + 1)]) (off + 11 + 2) 1 = u8 (ti + 1), off + (0 : Nat) + (6 : Nat) + (1 : Nat) ≤ List.length (putC ((1 : Nat) == (1 : Nat)) (putC ((1 : Nat) == (1 : Nat)) (putC ((1 : Nat) == (1 : Nat)) L (off + (11 : Nat) + (3 : Nat)) [i32 v]) (off + (11 : Nat) + (4 : Nat)) [vb true]) (off + (11 : Nat) + (2 : Nat)) [u8 (ti + (1 : Int))]), part_ true (isRow (TypeDesc.int IntKind.u8)) (putC (1 == 1) (putC (1 == 1) (putC (1 == 1) L (off + 11 + 3) [i32 v]) (off + 11 + 4) [vb true]) (off + 11 + 2) [u8 (ti + 1)]) (off + 0 + 6) 1 = u8 rp, decide (ti + (1 : Int) < rp) = false → off + (11 : Nat) + (0 : Nat) + (1 : Nat) ≤ List.length (putC ((1 : Nat) == (1 : Nat)) (putC ((1 : Nat) == (1 : Nat)) (putC ((1 : Nat) == (1 : Nat)) L (off + (11 : Nat) + (3 : Nat)) [i32 v]) (off + (11 : Nat) + (4 : Nat)) [vb true]) (off + (11 : Nat) + (2 : Nat)) [u8 (ti + (1 : Int))]) ∧ part_ true (isRow (TypeDesc.int IntKind.u8)) (putC ((1 : Nat) == (1 : Nat)) (putC ((1 : Nat) == (1 : Nat)) (putC ((1 : Nat) == (1 : Nat)) L (off + (11 : Nat) + (3 : Nat)) [i32 v]) (off + (11 : Nat) + (4 : Nat)) [vb true]) (off + (11 : Nat) + (2 : Nat)) [u8 (ti + (1 : Int))]) (off + (11 : Nat) + (0 : Nat)) (1 : Nat) = u8 st ∧ True]) [(4, ⟨some (u8 (ti + 1)), none⟩), (9, ⟨some (u8 rp), none⟩), (16, ⟨some (u8 st), none⟩)] [0, 4, 5, 97] [1000000000] (by kernel_rfl) ⟨(by (simp only [len_putC]; omega)), (gI_putC_eq (by first | omega | (simp only [len_putC]; omega))), (by (simp only [len_putC]; omega)), (gI_putC_ne (by omega) (gI_putC_ne (by omega) (gI_putC_ne (by omega) (wg6 )))), (by intro hc0; first | (cases hc0; done) | ((try simp only [Bool.or_false, Bool.false_or, Bool.true_and, Bool.and_true, decide_eq_true_eq, decide_eq_false_iff_not, Bool.and_eq_true, Bool.or_eq_true, Bool.or_eq_false_iff, Bool.not_eq_true', Bool.and_eq_false_iff, beq_iff_eq, bne_iff_ne, bne_eq_false_iff_eq, beq_eq_false_iff_ne, Bool.not_eq_false'] at hc0); exact ⟨(by (simp only [len_putC]; omega)), (gI_putC_ne (by omega) (gI_putC_ne (by omega) (gI_putC_ne (by omega) (wg11 )))), trivial⟩)), trivial⟩ ?_
    refine AWP.cond (b := decide (ti + 1 < rp) || st == s) (by kernel_rfl) (fun hq3 => ?_) (fun hq3 => ?_)
    · simp only [decide_eq_true_eq, Bool.or_eq_true, beq_iff_eq] at hq3
      refine xe0 [0, 4, 5] [1000000000] (by kernel_rfl) ?_
      refine AWP.ret ?_
      refine ⟨Or.inr rfl, Eq.trans (b := some ([(1000000000, Blk.mk (putC (1 == 1) (putC (1 == 1) (putC (1 == 1) L (off + 11 + 3) [i32 v]) (off + 11 + 4) [vb true]) (off + 11 + 2) [u8 (ti + 1)]) true 257 none)], vb false)) (by kernel_rfl) ?_⟩
      first | rfl | (exfalso; omega)
    simp only [decide_eq_false_iff_not, Bool.or_eq_false_iff, beq_eq_false_iff_ne] at hq3
    (exfalso; omega)
  simp only [decide_eq_false_iff_not] at hq2
  (exfalso; omega)
theorem con_look_A2 (L : List V) (off : Nat) (kd pa lo hi ma wa rp ev lv un st fo ti la v s : Int) (en an : Bool) (h : At L off kd pa lo hi ma wa rp ev lv un en st fo ti la an) (hk : 0 ≤ kd ∧ kd < 256) (hlo : -2147483648 ≤ lo ∧ lo ≤ 2147483647) (hhi : -2147483648 ≤ hi ∧ hi ≤ 2147483647) (hv : -2147483648 ≤ v ∧ v ≤ 2147483647) (hla : -2147483648 ≤ la ∧ la ≤ 2147483647)
    (hl : look kd pa lo hi ma wa v la (!an) = s) (hti : ti = 255) (h0 : s ≠ 0) (hs : s = fo) (hn : ti < rp ∨ st = s) : Con Try.prog 43 [(1000000000, ⟨L, true, 257, none⟩)] [.ptr 1000000000 off, i32 v] [(1000000000, ⟨(putC (1 == 1) (putC (1 == 1) L (off + 14) [i32 v]) (off + 15) [vb true]), true, 257, none⟩)] (vb false) := by
  obtain ⟨hL, hle, wg6, wg11, wg12, wg13, wg14, wg15, r, kx⟩ := h
  have cl := con_look kd pa lo hi ma wa v la (!an) hk hlo hhi hv hla
  rw [hl] at cl
  have e6 : List.take 6 (List.drop (off + 0 + 0) L) = [u8 kd, i64 pa, i32 lo, i32 hi, u32 ma, u32 wa] := by
    show List.take 6 (List.drop off L) = _
    rw [kx]
    rfl
  have cl2 : Con Try.prog 56 [] [.agg true (List.take 6 (List.drop (off + 0 + 0) L)), i32 v, i32 la, vb (!an)] [] (u8 s) := Con.args (by rw [e6]) cl
  refine Con.of (C := ⟨Try.prog, tc, Try.f43.ntmps⟩) [1000000000] tcok Try.func43 rfl rfl (by kernel_rfl) (by kernel_rfl) ?_
  refine xe0 [0, 1, 4] [1000000000] (by kernel_rfl) ?_
  refine xe1 (os := [off + (0 : Nat) + (0 : Nat) + (6 : Nat) ≤ List.length L, V.agg true (List.take 6 (List.drop (off + 0 + 0) L)) = V.agg true (List.take 6 (List.drop (off + 0 + 0) L)), off + (11 : Nat) + (3 : Nat) + (1 : Nat) ≤ List.length L, part_ true (isRow (TypeDesc.int IntKind.i32)) L (off + 11 + 3) 1 = i32 la, off + (11 : Nat) + (4 : Nat) + (1 : Nat) ≤ List.length L, part_ true (isRow TypeDesc.bool) L (off + 11 + 4) 1 = vb an, Con Try.prog 56 [] [V.agg true (List.take 6 (List.drop (off + 0 + 0) L)), i32 v, i32 la, vb !an] [] (u8 s)]) [(4, ⟨some (V.agg true (List.take 6 (List.drop (off + 0 + 0) L))), none⟩), (10, ⟨some (i32 la), none⟩), (15, ⟨some (vb an), none⟩), (17, ⟨none, some ⟨u8 s, [], []⟩⟩)] [0, 1, 4, 5] [1000000000] (by kernel_rfl) ⟨(by omega), rfl, (by omega), (wg14 ), (by omega), (wg15 ), (cl2 ), trivial⟩ ?_
  refine xe1 (os := [(1 : Nat) = (1 : Nat), off + (11 : Nat) + (3 : Nat) + (1 : Nat) ≤ List.length L, (1 : Nat) = (1 : Nat), off + (11 : Nat) + (4 : Nat) + (1 : Nat) ≤ List.length (putC ((1 : Nat) == (1 : Nat)) L (off + (11 : Nat) + (3 : Nat)) [i32 v])]) [(6, ⟨some V.top, none⟩), (10, ⟨some V.top, none⟩)] [0, 4, 5] [1000000000] (by kernel_rfl) ⟨(by omega), (by omega), (by omega), (by (simp only [len_putC]; omega)), trivial⟩ ?_
  refine AWP.seq ?_
  refine AWP.block ?_
  refine xe0 [0, 4, 5, 33] [1000000000] (by kernel_rfl) ?_
  refine AWP.cond (b := s == 0) (by kernel_rfl) (fun hq4 => ?_) (fun hq4 => ?_)
  · simp only [beq_iff_eq] at hq4
    (exfalso; omega)
  simp only [beq_eq_false_iff_ne] at hq4
  refine xe1 (os := [off + (11 : Nat) + (1 : Nat) + (1 : Nat) ≤ List.length (putC ((1 : Nat) == (1 : Nat)) (putC ((1 : Nat) == (1 : Nat)) L (off + (11 : Nat) + (3 : Nat)) [i32 v]) (off + (11 : Nat) + (4 : Nat)) [vb true]), part_ true (isRow (TypeDesc.int IntKind.u8)) (putC (1 == 1) (putC (1 == 1) L (off + 11 + 3) [i32 v]) (off + 11 + 4) [vb true]) (off + 11 + 1) 1 = u8 fo]) [(5, ⟨some (u8 fo), none⟩)] [0, 4, 5, 45] [1000000000] (by kernel_rfl) ⟨(by (simp only [len_putC]; omega)), (gI_putC_ne (by omega) (gI_putC_ne (by omega) (wg12 ))), trivial⟩ ?_
  refine AWP.cond (b := s != fo) (by kernel_rfl) (fun hq5 => ?_) (fun hq5 => ?_)
  · simp only [bne_iff_ne] at hq5
    (exfalso; omega)
  simp only [bne_eq_false_iff_eq] at hq5
  refine xe1 (os := [off + (11 : Nat) + (2 : Nat) + (1 : Nat) ≤ List.length (putC ((1 : Nat) == (1 : Nat)) (putC ((1 : Nat) == (1 : Nat)) L (off + (11 : Nat) + (3 : Nat)) [i32 v]) (off + (11 : Nat) + (4 : Nat)) [vb true]), part_ true (isRow (TypeDesc.int IntKind.u8)) (putC (1 == 1) (putC (1 == 1) L (off + 11 + 3) [i32 v]) (off + 11 + 4) [vb true]) (off + 11 + 2) 1 = u8 ti]) [(4, ⟨some (u8 ti), none⟩)] [0, 4, 5, 62] [1000000000] (by kernel_rfl) ⟨(by (simp only [len_putC]; omega)), (gI_putC_ne (by omega) (gI_putC_ne (by omega) (wg13 ))), trivial⟩ ?_
  refine AWP.cond (b := decide (ti < 255)) (by kernel_rfl) (fun hq6 => ?_) (fun hq6 => ?_)
  · simp only [decide_eq_true_eq] at hq6
    (exfalso; omega)
  simp only [decide_eq_false_iff_not] at hq6
  refine AWP.skip ?_
  refine AWP.seq ?_
  refine xe1 (os := [off + (11 : Nat) + (2 : Nat) + (1 : Nat) ≤ List.length (putC ((1 : Nat) == (1 : Nat)) (putC ((1 : Nat) == (1 : Nat)) L (off + (11 : Nat) + (3 : Nat)) [i32 v]) (off + (11 : Nat) + (4 : Nat)) [vb true]), part_ true (isRow (TypeDesc.int IntKind.u8)) (putC (1 == 1) (putC (1 == 1) L (off + 11 + 3) [i32 v]) (off + 11 + 4) [vb true]) (off + 11 + 2) 1 = u8 ti, off + (0 : Nat) + (6 : Nat) + (1 : Nat) ≤ List.length (putC ((1 : Nat) == (1 : Nat)) (putC ((1 : Nat) == (1 : Nat)) L (off + (11 : Nat) + (3 : Nat)) [i32 v]) (off + (11 : Nat) + (4 : Nat)) [vb true]), part_ true (isRow (TypeDesc.int IntKind.u8)) (putC (1 == 1) (putC (1 == 1) L (off + 11 + 3) [i32 v]) (off + 11 + 4) [vb true]) (off + 0 + 6) 1 = u8 rp, decide (ti < rp) = false → off + (11 : Nat) + (0 : Nat) + (1 : Nat) ≤ List.length (putC ((1 : Nat) == (1 : Nat)) (putC ((1 : Nat) == (1 : Nat)) L (off + (11 : Nat) + (3 : Nat)) [i32 v]) (off + (11 : Nat) + (4 : Nat)) [vb true]) ∧ part_ true (isRow (TypeDesc.int IntKind.u8)) (putC ((1 : Nat) == (1 : Nat)) (putC ((1 : Nat) == (1 : Nat)) L (off + (11 : Nat) + (3 : Nat)) [i32 v]) (off + (11 : Nat) + (4 : Nat)) [vb true]) (off + (11 : Nat) + (0 : Nat)) (1 : Nat) = u8 st ∧ True]) [(4, ⟨some (u8 ti), none⟩), (9, ⟨some (u8 rp), none⟩), (16, ⟨some (u8 st), none⟩)] [0, 4, 5, 97] [1000000000] (by kernel_rfl) ⟨(by (simp only [len_putC]; omega)), (gI_putC_ne (by omega) (gI_putC_ne (by omega) (wg13 ))), (by (simp only [len_putC]; omega)), (gI_putC_ne (by omega) (gI_putC_ne (by omega) (wg6 ))), (by intro hc0; first | (cases hc0; done) | ((try simp only [Bool.or_false, Bool.false_or, Bool.true_and, Bool.and_true, decide_eq_true_eq, decide_eq_false_iff_not, Bool.and_eq_true, Bool.or_eq_true, Bool.or_eq_false_iff, Bool.not_eq_true', Bool.and_eq_false_iff, beq_iff_eq, bne_iff_ne, bne_eq_false_iff_eq, beq_eq_false_iff_ne, Bool.not_eq_false'] at hc0); exact ⟨(by (simp only [len_putC]; omega)), (gI_putC_ne (by omega) (gI_putC_ne (by omega) (wg11 ))), trivial⟩)), trivial⟩ ?_
  refine AWP.cond (b := decide (ti < rp) || st == s) (by kernel_rfl) (fun hq7 => ?_) (fun hq7 => ?_)
  · simp only [decide_eq_true_eq, Bool.or_eq_true, beq_iff_eq] at hq7
    refine xe0 [0, 4, 5] [1000000000] (by kernel_rfl) ?_
    refine AWP.ret ?_
    refine ⟨Or.inr rfl, Eq.trans (b := some ([(1000000000, Blk.mk (putC (1 == 1) (putC (1 == 1) L (off + 11 + 3) [i32 v]) (off + 11 + 4) [vb true]) true 257 none)], vb false)) (by kernel_rfl) ?_⟩
    first | rfl | (exfalso; omega)
  simp only [decide_eq_false_iff_not, Bool.or_eq_false_iff, beq_eq_false_iff_ne] at hq7
  (exfalso; omega)
theorem con_look_B (L : List V) (off : Nat) (kd pa lo hi ma wa rp ev lv un st fo ti la v s : Int) (en an : Bool) (h : At L off kd pa lo hi ma wa rp ev lv un en st fo ti la an) (hk : 0 ≤ kd ∧ kd < 256) (hlo : -2147483648 ≤ lo ∧ lo ≤ 2147483647) (hhi : -2147483648 ≤ hi ∧ hi ≤ 2147483647) (hv : -2147483648 ≤ v ∧ v ≤ 2147483647) (hla : -2147483648 ≤ la ∧ la ≤ 2147483647)
    (hl : look kd pa lo hi ma wa v la (!an) = s) (hti : 0 ≤ ti ∧ ti < 255) (h0 : s ≠ 0) (hs : s = fo) (hn : rp ≤ ti + 1) (hc : st ≠ s) : Con Try.prog 43 [(1000000000, ⟨L, true, 257, none⟩)] [.ptr 1000000000 off, i32 v] [(1000000000, ⟨(putC (1 == 1) (putC (1 == 1) (putC (1 == 1) (putC (1 == 1) L (off + 14) [i32 v]) (off + 15) [vb true]) (off + 13) [u8 (ti + 1)]) (off + 11) [u8 s]), true, 257, none⟩)] (vb true) := by
  obtain ⟨hL, hle, wg6, wg11, wg12, wg13, wg14, wg15, r, kx⟩ := h
  have cl := con_look kd pa lo hi ma wa v la (!an) hk hlo hhi hv hla
  rw [hl] at cl
  have e6 : List.take 6 (List.drop (off + 0 + 0) L) = [u8 kd, i64 pa, i32 lo, i32 hi, u32 ma, u32 wa] := by
    show List.take 6 (List.drop off L) = _
    rw [kx]
    rfl
  have cl2 : Con Try.prog 56 [] [.agg true (List.take 6 (List.drop (off + 0 + 0) L)), i32 v, i32 la, vb (!an)] [] (u8 s) := Con.args (by rw [e6]) cl
  refine Con.of (C := ⟨Try.prog, tc, Try.f43.ntmps⟩) [1000000000] tcok Try.func43 rfl rfl (by kernel_rfl) (by kernel_rfl) ?_
  refine xe0 [0, 1, 4] [1000000000] (by kernel_rfl) ?_
  refine xe1 (os := [off + (0 : Nat) + (0 : Nat) + (6 : Nat) ≤ List.length L, V.agg true (List.take 6 (List.drop (off + 0 + 0) L)) = V.agg true (List.take 6 (List.drop (off + 0 + 0) L)), off + (11 : Nat) + (3 : Nat) + (1 : Nat) ≤ List.length L, part_ true (isRow (TypeDesc.int IntKind.i32)) L (off + 11 + 3) 1 = i32 la, off + (11 : Nat) + (4 : Nat) + (1 : Nat) ≤ List.length L, part_ true (isRow TypeDesc.bool) L (off + 11 + 4) 1 = vb an, Con Try.prog 56 [] [V.agg true (List.take 6 (List.drop (off + 0 + 0) L)), i32 v, i32 la, vb !an] [] (u8 s)]) [(4, ⟨some (V.agg true (List.take 6 (List.drop (off + 0 + 0) L))), none⟩), (10, ⟨some (i32 la), none⟩), (15, ⟨some (vb an), none⟩), (17, ⟨none, some ⟨u8 s, [], []⟩⟩)] [0, 1, 4, 5] [1000000000] (by kernel_rfl) ⟨(by omega), rfl, (by omega), (wg14 ), (by omega), (wg15 ), (cl2 ), trivial⟩ ?_
  refine xe1 (os := [(1 : Nat) = (1 : Nat), off + (11 : Nat) + (3 : Nat) + (1 : Nat) ≤ List.length L, (1 : Nat) = (1 : Nat), off + (11 : Nat) + (4 : Nat) + (1 : Nat) ≤ List.length (putC ((1 : Nat) == (1 : Nat)) L (off + (11 : Nat) + (3 : Nat)) [i32 v])]) [(6, ⟨some V.top, none⟩), (10, ⟨some V.top, none⟩)] [0, 4, 5] [1000000000] (by kernel_rfl) ⟨(by omega), (by omega), (by omega), (by (simp only [len_putC]; omega)), trivial⟩ ?_
  refine AWP.seq ?_
  refine AWP.block ?_
  refine xe0 [0, 4, 5, 33] [1000000000] (by kernel_rfl) ?_
  refine AWP.cond (b := s == 0) (by kernel_rfl) (fun hq8 => ?_) (fun hq8 => ?_)
  · simp only [beq_iff_eq] at hq8
    (exfalso; omega)
  simp only [beq_eq_false_iff_ne] at hq8
  refine xe1 (os := [off + (11 : Nat) + (1 : Nat) + (1 : Nat) ≤ List.length (putC ((1 : Nat) == (1 : Nat)) (putC ((1 : Nat) == (1 : Nat)) L (off + (11 : Nat) + (3 : Nat)) [i32 v]) (off + (11 : Nat) + (4 : Nat)) [vb true]), part_ true (isRow (TypeDesc.int IntKind.u8)) (putC (1 == 1) (putC (1 == 1) L (off + 11 + 3) [i32 v]) (off + 11 + 4) [vb true]) (off + 11 + 1) 1 = u8 fo]) [(5, ⟨some (u8 fo), none⟩)] [0, 4, 5, 45] [1000000000] (by kernel_rfl) ⟨(by (simp only [len_putC]; omega)), (gI_putC_ne (by omega) (gI_putC_ne (by omega) (wg12 ))), trivial⟩ ?_
  refine AWP.cond (b := s != fo) (by kernel_rfl) (fun hq9 => ?_) (fun hq9 => ?_)
  · simp only [bne_iff_ne] at hq9
    (exfalso; omega)
  simp only [bne_eq_false_iff_eq] at hq9
  refine xe1 (os := [off + (11 : Nat) + (2 : Nat) + (1 : Nat) ≤ List.length (putC ((1 : Nat) == (1 : Nat)) (putC ((1 : Nat) == (1 : Nat)) L (off + (11 : Nat) + (3 : Nat)) [i32 v]) (off + (11 : Nat) + (4 : Nat)) [vb true]), part_ true (isRow (TypeDesc.int IntKind.u8)) (putC (1 == 1) (putC (1 == 1) L (off + 11 + 3) [i32 v]) (off + 11 + 4) [vb true]) (off + 11 + 2) 1 = u8 ti]) [(4, ⟨some (u8 ti), none⟩)] [0, 4, 5, 62] [1000000000] (by kernel_rfl) ⟨(by (simp only [len_putC]; omega)), (gI_putC_ne (by omega) (gI_putC_ne (by omega) (wg13 ))), trivial⟩ ?_
  refine AWP.cond (b := decide (ti < 255)) (by kernel_rfl) (fun hq10 => ?_) (fun hq10 => ?_)
  · simp only [decide_eq_true_eq] at hq10
    refine AWP.region tcok hmix [(4, ⟨some (u8 ti), none⟩), (5, ⟨some (u8 (ti + 1)), none⟩), (9, ⟨some V.top, none⟩)] (os := [off + (11 : Nat) + (2 : Nat) + (1 : Nat) ≤ List.length (putC ((1 : Nat) == (1 : Nat)) (putC ((1 : Nat) == (1 : Nat)) L (off + (11 : Nat) + (3 : Nat)) [i32 v]) (off + (11 : Nat) + (4 : Nat)) [vb true]), part_ true (isRow (TypeDesc.int IntKind.u8)) (putC (1 == 1) (putC (1 == 1) L (off + 11 + 3) [i32 v]) (off + 11 + 4) [vb true]) (off + 11 + 2) 1 = u8 ti, u8 (IntKind.wrap IntKind.u8 (ti + 1)) = u8 (ti + 1), (1 : Nat) = (1 : Nat), off + (11 : Nat) + (2 : Nat) + (1 : Nat) ≤ List.length (putC ((1 : Nat) == (1 : Nat)) (putC ((1 : Nat) == (1 : Nat)) L (off + (11 : Nat) + (3 : Nat)) [i32 v]) (off + (11 : Nat) + (4 : Nat)) [vb true])]) (sf := St.mk [(0, tp (V.ptr 1000000000 off)), (4, tp (vb false)), (5, tp (u8 s)), (62, tp (vb (decide (ti < 255)))), (69, tp (V.ptr 1000000000 off)), (70, tp (V.ptr 1000000000 off)), (71, tp (V.ptr 1000000000 (off + 11))), (72, tp (V.ptr 1000000000 (off + 11 + 2))), (73, tp (u8 ti)), (74, tp (u8 (ti + 1))), (75, tp (V.ptr 1000000000 off)), (76, tp (V.ptr 1000000000 (off + 11))), (77, tp (V.ptr 1000000000 (off + 11 + 2)))] [(1000000000, Blk.mk (putC (1 == 1) (putC (1 == 1) (putC (1 == 1) L (off + 11 + 3) [i32 v]) (off + 11 + 4) [vb true]) (off + 11 + 2) [u8 (ti + 1)]) true 257 none)]) (by kernel_rfl) ⟨(by (simp only [len_putC]; omega)), (gI_putC_ne (by omega) (gI_putC_ne (by omega) (wg13 ))), (wr_u8 (by omega) (by omega)), (by omega), (by (simp only [len_putC]; omega)), trivial⟩ ?_
    refine AWP.keep' [0, 4, 5] [1000000000] (sf := St.mk [(0, tp (V.ptr 1000000000 off)), (4, tp (vb false)), (5, tp (u8 s))] [(1000000000, Blk.mk (putC (1 == 1) (putC (1 == 1) (putC (1 == 1) L (off + 11 + 3) [i32 v]) (off + 11 + 4) [vb true]) (off + 11 + 2) [u8 (ti + 1)]) true 257 none)]) (by kernel_rfl) ?_
    refine AWP.seq ?_
    refine xe1 (os := [off + (11 : Nat) + (2 : Nat) + (1 : Nat) ≤ List.length (putC ((1 : Nat) == (1 : Nat)) (putC ((1 : Nat) == (1 : Nat)) (putC ((1 : Nat) == (1 : Nat)) L (off + (11 : Nat) + (3 : Nat)) [i32 v]) (off + (11 : Nat) + (4 : Nat)) [vb true]) (off + (11 : Nat) + (2 : Nat)) [u8 (ti + (1 : Int))]), part_ true (isRow (TypeDesc.int IntKind.u8)) (putC (1 == 1) (putC (1 == 1) (putC (1 == 1) L (off + 11 + 3) [i32 v]) (off + 11 + 4) [vb true]) (off + 11 + 2) [u8 (ti + 1)]) (off + 11 + 2) 1 = u8 (ti + 1), off + (0 : Nat) + (6 : Nat) + (1 : Nat) ≤ List.length (putC ((1 : Nat) == (1 : Nat)) (putC ((1 : Nat) == (1 : Nat)) (putC ((1 : Nat) == (1 : Nat)) L (off + (11 : Nat) + (3 : Nat)) [i32 v]) (off + (11 : Nat) + (4 : Nat)) [vb true]) (off + (11 : Nat) + (2 : Nat)) [u8 (ti + (1 : Int))]), part_ true (isRow (TypeDesc.int IntKind.u8)) (putC (1 == 1) (putC (1 == 1) (putC (1 == 1) L (off + 11 + 3) [i32 v]) (off + 11 + 4) [vb true]) (off + 11 + 2) [u8 (ti + 1)]) (off + 0 + 6) 1 = u8 rp, decide (ti + (1 : Int) < rp) = false → off + (11 : Nat) + (0 : Nat) + (1 : Nat) ≤ List.length (putC ((1 : Nat) == (1 : Nat)) (putC ((1 : Nat) == (1 : Nat)) (putC ((1 : Nat) == (1 : Nat)) L (off + (11 : Nat) + (3 : Nat)) [i32 v]) (off + (11 : Nat) + (4 : Nat)) [vb true]) (off + (11 : Nat) + (2 : Nat)) [u8 (ti + (1 : Int))]) ∧ part_ true (isRow (TypeDesc.int IntKind.u8)) (putC ((1 : Nat) == (1 : Nat)) (putC ((1 : Nat) == (1 : Nat)) (putC ((1 : Nat) == (1 : Nat)) L (off + (11 : Nat) + (3 : Nat)) [i32 v]) (off + (11 : Nat) + (4 : Nat)) [vb true]) (off + (11 : Nat) + (2 : Nat)) [u8 (ti + (1 : Int))]) (off + (11 : Nat) + (0 : Nat)) (1 : Nat) = u8 st ∧ True]) [(4, ⟨some (u8 (ti + 1)), none⟩), (9, ⟨some (u8 rp), none⟩), (16, ⟨some (u8 st), none⟩)] [0, 4, 5, 97] [1000000000] (by kernel_rfl) ⟨(by (simp only [len_putC]; omega)), (gI_putC_eq (by first | omega | (simp only [len_putC]; omega))), (by (simp only [len_putC]; omega)), (gI_putC_ne (by omega) (gI_putC_ne (by omega) (gI_putC_ne (by omega) (wg6 )))), (by intro hc0; first | (cases hc0; done) | ((try simp only [Bool.or_false, Bool.false_or, Bool.true_and, Bool.and_true, decide_eq_true_eq, decide_eq_false_iff_not, Bool.and_eq_true, Bool.or_eq_true, Bool.or_eq_false_iff, Bool.not_eq_true', Bool.and_eq_false_iff, beq_iff_eq, bne_iff_ne, bne_eq_false_iff_eq, beq_eq_false_iff_ne, Bool.not_eq_false'] at hc0); exact ⟨(by (simp only [len_putC]; omega)), (gI_putC_ne (by omega) (gI_putC_ne (by omega) (gI_putC_ne (by omega) (wg11 )))), trivial⟩)), trivial⟩ ?_
    refine AWP.cond (b := decide (ti + 1 < rp) || st == s) (by kernel_rfl) (fun hq11 => ?_) (fun hq11 => ?_)
    · simp only [decide_eq_true_eq, Bool.or_eq_true, beq_iff_eq] at hq11
      (exfalso; omega)
    simp only [decide_eq_false_iff_not, Bool.or_eq_false_iff, beq_eq_false_iff_ne] at hq11
    refine AWP.skip ?_
    refine xe1 (os := [(1 : Nat) = (1 : Nat), off + (11 : Nat) + (0 : Nat) + (1 : Nat) ≤ List.length (putC ((1 : Nat) == (1 : Nat)) (putC ((1 : Nat) == (1 : Nat)) (putC ((1 : Nat) == (1 : Nat)) L (off + (11 : Nat) + (3 : Nat)) [i32 v]) (off + (11 : Nat) + (4 : Nat)) [vb true]) (off + (11 : Nat) + (2 : Nat)) [u8 (ti + (1 : Int))])]) [(5, ⟨some V.top, none⟩)] [4] [1000000000] (by kernel_rfl) ⟨(by omega), (by (simp only [len_putC]; omega)), trivial⟩ ?_
    refine xe0 [4] [1000000000] (by kernel_rfl) ?_
    refine AWP.ret ?_
    refine ⟨Or.inr rfl, Eq.trans (b := some ([(1000000000, Blk.mk (putC (1 == 1) (putC (1 == 1) (putC (1 == 1) (putC (1 == 1) L (off + 11 + 3) [i32 v]) (off + 11 + 4) [vb true]) (off + 11 + 2) [u8 (ti + 1)]) (off + 11 + 0) [u8 s]) true 257 none)], vb true)) (by kernel_rfl) ?_⟩
    first | rfl | (exfalso; omega)
  simp only [decide_eq_false_iff_not] at hq10
  (exfalso; omega)
theorem con_look_B2 (L : List V) (off : Nat) (kd pa lo hi ma wa rp ev lv un st fo ti la v s : Int) (en an : Bool) (h : At L off kd pa lo hi ma wa rp ev lv un en st fo ti la an) (hk : 0 ≤ kd ∧ kd < 256) (hlo : -2147483648 ≤ lo ∧ lo ≤ 2147483647) (hhi : -2147483648 ≤ hi ∧ hi ≤ 2147483647) (hv : -2147483648 ≤ v ∧ v ≤ 2147483647) (hla : -2147483648 ≤ la ∧ la ≤ 2147483647)
    (hl : look kd pa lo hi ma wa v la (!an) = s) (hti : ti = 255) (h0 : s ≠ 0) (hs : s = fo) (hn : rp ≤ ti) (hc : st ≠ s) : Con Try.prog 43 [(1000000000, ⟨L, true, 257, none⟩)] [.ptr 1000000000 off, i32 v] [(1000000000, ⟨(putC (1 == 1) (putC (1 == 1) (putC (1 == 1) L (off + 14) [i32 v]) (off + 15) [vb true]) (off + 11) [u8 s]), true, 257, none⟩)] (vb true) := by
  obtain ⟨hL, hle, wg6, wg11, wg12, wg13, wg14, wg15, r, kx⟩ := h
  have cl := con_look kd pa lo hi ma wa v la (!an) hk hlo hhi hv hla
  rw [hl] at cl
  have e6 : List.take 6 (List.drop (off + 0 + 0) L) = [u8 kd, i64 pa, i32 lo, i32 hi, u32 ma, u32 wa] := by
    show List.take 6 (List.drop off L) = _
    rw [kx]
    rfl
  have cl2 : Con Try.prog 56 [] [.agg true (List.take 6 (List.drop (off + 0 + 0) L)), i32 v, i32 la, vb (!an)] [] (u8 s) := Con.args (by rw [e6]) cl
  refine Con.of (C := ⟨Try.prog, tc, Try.f43.ntmps⟩) [1000000000] tcok Try.func43 rfl rfl (by kernel_rfl) (by kernel_rfl) ?_
  refine xe0 [0, 1, 4] [1000000000] (by kernel_rfl) ?_
  refine xe1 (os := [off + (0 : Nat) + (0 : Nat) + (6 : Nat) ≤ List.length L, V.agg true (List.take 6 (List.drop (off + 0 + 0) L)) = V.agg true (List.take 6 (List.drop (off + 0 + 0) L)), off + (11 : Nat) + (3 : Nat) + (1 : Nat) ≤ List.length L, part_ true (isRow (TypeDesc.int IntKind.i32)) L (off + 11 + 3) 1 = i32 la, off + (11 : Nat) + (4 : Nat) + (1 : Nat) ≤ List.length L, part_ true (isRow TypeDesc.bool) L (off + 11 + 4) 1 = vb an, Con Try.prog 56 [] [V.agg true (List.take 6 (List.drop (off + 0 + 0) L)), i32 v, i32 la, vb !an] [] (u8 s)]) [(4, ⟨some (V.agg true (List.take 6 (List.drop (off + 0 + 0) L))), none⟩), (10, ⟨some (i32 la), none⟩), (15, ⟨some (vb an), none⟩), (17, ⟨none, some ⟨u8 s, [], []⟩⟩)] [0, 1, 4, 5] [1000000000] (by kernel_rfl) ⟨(by omega), rfl, (by omega), (wg14 ), (by omega), (wg15 ), (cl2 ), trivial⟩ ?_
  refine xe1 (os := [(1 : Nat) = (1 : Nat), off + (11 : Nat) + (3 : Nat) + (1 : Nat) ≤ List.length L, (1 : Nat) = (1 : Nat), off + (11 : Nat) + (4 : Nat) + (1 : Nat) ≤ List.length (putC ((1 : Nat) == (1 : Nat)) L (off + (11 : Nat) + (3 : Nat)) [i32 v])]) [(6, ⟨some V.top, none⟩), (10, ⟨some V.top, none⟩)] [0, 4, 5] [1000000000] (by kernel_rfl) ⟨(by omega), (by omega), (by omega), (by (simp only [len_putC]; omega)), trivial⟩ ?_
  refine AWP.seq ?_
  refine AWP.block ?_
  refine xe0 [0, 4, 5, 33] [1000000000] (by kernel_rfl) ?_
  refine AWP.cond (b := s == 0) (by kernel_rfl) (fun hq12 => ?_) (fun hq12 => ?_)
  · simp only [beq_iff_eq] at hq12
    (exfalso; omega)
  simp only [beq_eq_false_iff_ne] at hq12
  refine xe1 (os := [off + (11 : Nat) + (1 : Nat) + (1 : Nat) ≤ List.length (putC ((1 : Nat) == (1 : Nat)) (putC ((1 : Nat) == (1 : Nat)) L (off + (11 : Nat) + (3 : Nat)) [i32 v]) (off + (11 : Nat) + (4 : Nat)) [vb true]), part_ true (isRow (TypeDesc.int IntKind.u8)) (putC (1 == 1) (putC (1 == 1) L (off + 11 + 3) [i32 v]) (off + 11 + 4) [vb true]) (off + 11 + 1) 1 = u8 fo]) [(5, ⟨some (u8 fo), none⟩)] [0, 4, 5, 45] [1000000000] (by kernel_rfl) ⟨(by (simp only [len_putC]; omega)), (gI_putC_ne (by omega) (gI_putC_ne (by omega) (wg12 ))), trivial⟩ ?_
  refine AWP.cond (b := s != fo) (by kernel_rfl) (fun hq13 => ?_) (fun hq13 => ?_)
  · simp only [bne_iff_ne] at hq13
    (exfalso; omega)
  simp only [bne_eq_false_iff_eq] at hq13
  refine xe1 (os := [off + (11 : Nat) + (2 : Nat) + (1 : Nat) ≤ List.length (putC ((1 : Nat) == (1 : Nat)) (putC ((1 : Nat) == (1 : Nat)) L (off + (11 : Nat) + (3 : Nat)) [i32 v]) (off + (11 : Nat) + (4 : Nat)) [vb true]), part_ true (isRow (TypeDesc.int IntKind.u8)) (putC (1 == 1) (putC (1 == 1) L (off + 11 + 3) [i32 v]) (off + 11 + 4) [vb true]) (off + 11 + 2) 1 = u8 ti]) [(4, ⟨some (u8 ti), none⟩)] [0, 4, 5, 62] [1000000000] (by kernel_rfl) ⟨(by (simp only [len_putC]; omega)), (gI_putC_ne (by omega) (gI_putC_ne (by omega) (wg13 ))), trivial⟩ ?_
  refine AWP.cond (b := decide (ti < 255)) (by kernel_rfl) (fun hq14 => ?_) (fun hq14 => ?_)
  · simp only [decide_eq_true_eq] at hq14
    (exfalso; omega)
  simp only [decide_eq_false_iff_not] at hq14
  refine AWP.skip ?_
  refine AWP.seq ?_
  refine xe1 (os := [off + (11 : Nat) + (2 : Nat) + (1 : Nat) ≤ List.length (putC ((1 : Nat) == (1 : Nat)) (putC ((1 : Nat) == (1 : Nat)) L (off + (11 : Nat) + (3 : Nat)) [i32 v]) (off + (11 : Nat) + (4 : Nat)) [vb true]), part_ true (isRow (TypeDesc.int IntKind.u8)) (putC (1 == 1) (putC (1 == 1) L (off + 11 + 3) [i32 v]) (off + 11 + 4) [vb true]) (off + 11 + 2) 1 = u8 ti, off + (0 : Nat) + (6 : Nat) + (1 : Nat) ≤ List.length (putC ((1 : Nat) == (1 : Nat)) (putC ((1 : Nat) == (1 : Nat)) L (off + (11 : Nat) + (3 : Nat)) [i32 v]) (off + (11 : Nat) + (4 : Nat)) [vb true]), part_ true (isRow (TypeDesc.int IntKind.u8)) (putC (1 == 1) (putC (1 == 1) L (off + 11 + 3) [i32 v]) (off + 11 + 4) [vb true]) (off + 0 + 6) 1 = u8 rp, decide (ti < rp) = false → off + (11 : Nat) + (0 : Nat) + (1 : Nat) ≤ List.length (putC ((1 : Nat) == (1 : Nat)) (putC ((1 : Nat) == (1 : Nat)) L (off + (11 : Nat) + (3 : Nat)) [i32 v]) (off + (11 : Nat) + (4 : Nat)) [vb true]) ∧ part_ true (isRow (TypeDesc.int IntKind.u8)) (putC ((1 : Nat) == (1 : Nat)) (putC ((1 : Nat) == (1 : Nat)) L (off + (11 : Nat) + (3 : Nat)) [i32 v]) (off + (11 : Nat) + (4 : Nat)) [vb true]) (off + (11 : Nat) + (0 : Nat)) (1 : Nat) = u8 st ∧ True]) [(4, ⟨some (u8 ti), none⟩), (9, ⟨some (u8 rp), none⟩), (16, ⟨some (u8 st), none⟩)] [0, 4, 5, 97] [1000000000] (by kernel_rfl) ⟨(by (simp only [len_putC]; omega)), (gI_putC_ne (by omega) (gI_putC_ne (by omega) (wg13 ))), (by (simp only [len_putC]; omega)), (gI_putC_ne (by omega) (gI_putC_ne (by omega) (wg6 ))), (by intro hc0; first | (cases hc0; done) | ((try simp only [Bool.or_false, Bool.false_or, Bool.true_and, Bool.and_true, decide_eq_true_eq, decide_eq_false_iff_not, Bool.and_eq_true, Bool.or_eq_true, Bool.or_eq_false_iff, Bool.not_eq_true', Bool.and_eq_false_iff, beq_iff_eq, bne_iff_ne, bne_eq_false_iff_eq, beq_eq_false_iff_ne, Bool.not_eq_false'] at hc0); exact ⟨(by (simp only [len_putC]; omega)), (gI_putC_ne (by omega) (gI_putC_ne (by omega) (wg11 ))), trivial⟩)), trivial⟩ ?_
  refine AWP.cond (b := decide (ti < rp) || st == s) (by kernel_rfl) (fun hq15 => ?_) (fun hq15 => ?_)
  · simp only [decide_eq_true_eq, Bool.or_eq_true, beq_iff_eq] at hq15
    (exfalso; omega)
  simp only [decide_eq_false_iff_not, Bool.or_eq_false_iff, beq_eq_false_iff_ne] at hq15
  refine AWP.skip ?_
  refine xe1 (os := [(1 : Nat) = (1 : Nat), off + (11 : Nat) + (0 : Nat) + (1 : Nat) ≤ List.length (putC ((1 : Nat) == (1 : Nat)) (putC ((1 : Nat) == (1 : Nat)) L (off + (11 : Nat) + (3 : Nat)) [i32 v]) (off + (11 : Nat) + (4 : Nat)) [vb true])]) [(5, ⟨some V.top, none⟩)] [4] [1000000000] (by kernel_rfl) ⟨(by omega), (by (simp only [len_putC]; omega)), trivial⟩ ?_
  refine xe0 [4] [1000000000] (by kernel_rfl) ?_
  refine AWP.ret ?_
  refine ⟨Or.inr rfl, Eq.trans (b := some ([(1000000000, Blk.mk (putC (1 == 1) (putC (1 == 1) (putC (1 == 1) L (off + 11 + 3) [i32 v]) (off + 11 + 4) [vb true]) (off + 11 + 0) [u8 s]) true 257 none)], vb true)) (by kernel_rfl) ?_⟩
  first | rfl | (exfalso; omega)
theorem con_look_C (L : List V) (off : Nat) (kd pa lo hi ma wa rp ev lv un st fo ti la v s : Int) (en an : Bool) (h : At L off kd pa lo hi ma wa rp ev lv un en st fo ti la an) (hk : 0 ≤ kd ∧ kd < 256) (hlo : -2147483648 ≤ lo ∧ lo ≤ 2147483647) (hhi : -2147483648 ≤ hi ∧ hi ≤ 2147483647) (hv : -2147483648 ≤ v ∧ v ≤ 2147483647) (hla : -2147483648 ≤ la ∧ la ≤ 2147483647)
    (hl : look kd pa lo hi ma wa v la (!an) = s) (h0 : s ≠ 0) (hs : s ≠ fo) (hn : 1 < rp ∨ st = s) : Con Try.prog 43 [(1000000000, ⟨L, true, 257, none⟩)] [.ptr 1000000000 off, i32 v] [(1000000000, ⟨(putC (1 == 1) (putC (1 == 1) (putC (1 == 1) (putC (1 == 1) L (off + 14) [i32 v]) (off + 15) [vb true]) (off + 12) [u8 s]) (off + 13) [u8 1]), true, 257, none⟩)] (vb false) := by
  obtain ⟨hL, hle, wg6, wg11, wg12, wg13, wg14, wg15, r, kx⟩ := h
  have cl := con_look kd pa lo hi ma wa v la (!an) hk hlo hhi hv hla
  rw [hl] at cl
  have e6 : List.take 6 (List.drop (off + 0 + 0) L) = [u8 kd, i64 pa, i32 lo, i32 hi, u32 ma, u32 wa] := by
    show List.take 6 (List.drop off L) = _
    rw [kx]
    rfl
  have cl2 : Con Try.prog 56 [] [.agg true (List.take 6 (List.drop (off + 0 + 0) L)), i32 v, i32 la, vb (!an)] [] (u8 s) := Con.args (by rw [e6]) cl
  refine Con.of (C := ⟨Try.prog, tc, Try.f43.ntmps⟩) [1000000000] tcok Try.func43 rfl rfl (by kernel_rfl) (by kernel_rfl) ?_
  refine xe0 [0, 1, 4] [1000000000] (by kernel_rfl) ?_
  refine xe1 (os := [off + (0 : Nat) + (0 : Nat) + (6 : Nat) ≤ List.length L, V.agg true (List.take 6 (List.drop (off + 0 + 0) L)) = V.agg true (List.take 6 (List.drop (off + 0 + 0) L)), off + (11 : Nat) + (3 : Nat) + (1 : Nat) ≤ List.length L, part_ true (isRow (TypeDesc.int IntKind.i32)) L (off + 11 + 3) 1 = i32 la, off + (11 : Nat) + (4 : Nat) + (1 : Nat) ≤ List.length L, part_ true (isRow TypeDesc.bool) L (off + 11 + 4) 1 = vb an, Con Try.prog 56 [] [V.agg true (List.take 6 (List.drop (off + 0 + 0) L)), i32 v, i32 la, vb !an] [] (u8 s)]) [(4, ⟨some (V.agg true (List.take 6 (List.drop (off + 0 + 0) L))), none⟩), (10, ⟨some (i32 la), none⟩), (15, ⟨some (vb an), none⟩), (17, ⟨none, some ⟨u8 s, [], []⟩⟩)] [0, 1, 4, 5] [1000000000] (by kernel_rfl) ⟨(by omega), rfl, (by omega), (wg14 ), (by omega), (wg15 ), (cl2 ), trivial⟩ ?_
  refine xe1 (os := [(1 : Nat) = (1 : Nat), off + (11 : Nat) + (3 : Nat) + (1 : Nat) ≤ List.length L, (1 : Nat) = (1 : Nat), off + (11 : Nat) + (4 : Nat) + (1 : Nat) ≤ List.length (putC ((1 : Nat) == (1 : Nat)) L (off + (11 : Nat) + (3 : Nat)) [i32 v])]) [(6, ⟨some V.top, none⟩), (10, ⟨some V.top, none⟩)] [0, 4, 5] [1000000000] (by kernel_rfl) ⟨(by omega), (by omega), (by omega), (by (simp only [len_putC]; omega)), trivial⟩ ?_
  refine AWP.seq ?_
  refine AWP.block ?_
  refine xe0 [0, 4, 5, 33] [1000000000] (by kernel_rfl) ?_
  refine AWP.cond (b := s == 0) (by kernel_rfl) (fun hq16 => ?_) (fun hq16 => ?_)
  · simp only [beq_iff_eq] at hq16
    (exfalso; omega)
  simp only [beq_eq_false_iff_ne] at hq16
  refine xe1 (os := [off + (11 : Nat) + (1 : Nat) + (1 : Nat) ≤ List.length (putC ((1 : Nat) == (1 : Nat)) (putC ((1 : Nat) == (1 : Nat)) L (off + (11 : Nat) + (3 : Nat)) [i32 v]) (off + (11 : Nat) + (4 : Nat)) [vb true]), part_ true (isRow (TypeDesc.int IntKind.u8)) (putC (1 == 1) (putC (1 == 1) L (off + 11 + 3) [i32 v]) (off + 11 + 4) [vb true]) (off + 11 + 1) 1 = u8 fo]) [(5, ⟨some (u8 fo), none⟩)] [0, 4, 5, 45] [1000000000] (by kernel_rfl) ⟨(by (simp only [len_putC]; omega)), (gI_putC_ne (by omega) (gI_putC_ne (by omega) (wg12 ))), trivial⟩ ?_
  refine AWP.cond (b := s != fo) (by kernel_rfl) (fun hq17 => ?_) (fun hq17 => ?_)
  · simp only [bne_iff_ne] at hq17
    refine AWP.region tcok hmix [(6, ⟨some V.top, none⟩), (10, ⟨some V.top, none⟩)] (os := [(1 : Nat) = (1 : Nat), off + (11 : Nat) + (1 : Nat) + (1 : Nat) ≤ List.length (putC ((1 : Nat) == (1 : Nat)) (putC ((1 : Nat) == (1 : Nat)) L (off + (11 : Nat) + (3 : Nat)) [i32 v]) (off + (11 : Nat) + (4 : Nat)) [vb true]), (1 : Nat) = (1 : Nat), off + (11 : Nat) + (2 : Nat) + (1 : Nat) ≤ List.length (putC ((1 : Nat) == (1 : Nat)) (putC ((1 : Nat) == (1 : Nat)) (putC ((1 : Nat) == (1 : Nat)) L (off + (11 : Nat) + (3 : Nat)) [i32 v]) (off + (11 : Nat) + (4 : Nat)) [vb true]) (off + (11 : Nat) + (1 : Nat)) [u8 s])]) (sf := St.mk [(0, tp (V.ptr 1000000000 off)), (4, tp (vb false)), (5, tp (u8 s)), (45, tp (vb (s != fo))), (53, tp (V.ptr 1000000000 off)), (54, tp (V.ptr 1000000000 off)), (55, tp (u8 s)), (56, tp (V.ptr 1000000000 off)), (57, tp (V.ptr 1000000000 (off + 11))), (58, tp (V.ptr 1000000000 (off + 11 + 1))), (59, tp (V.ptr 1000000000 off)), (60, tp (V.ptr 1000000000 (off + 11))), (61, tp (V.ptr 1000000000 (off + 11 + 2)))] [(1000000000, Blk.mk (putC (1 == 1) (putC (1 == 1) (putC (1 == 1) (putC (1 == 1) L (off + 11 + 3) [i32 v]) (off + 11 + 4) [vb true]) (off + 11 + 1) [u8 s]) (off + 11 + 2) [u8 1]) true 257 none)]) (by kernel_rfl) ⟨(by omega), (by (simp only [len_putC]; omega)), (by omega), (by (simp only [len_putC]; omega)), trivial⟩ ?_
    refine AWP.keep' [0, 4, 5] [1000000000] (sf := St.mk [(0, tp (V.ptr 1000000000 off)), (4, tp (vb false)), (5, tp (u8 s))] [(1000000000, Blk.mk (putC (1 == 1) (putC (1 == 1) (putC (1 == 1) (putC (1 == 1) L (off + 11 + 3) [i32 v]) (off + 11 + 4) [vb true]) (off + 11 + 1) [u8 s]) (off + 11 + 2) [u8 1]) true 257 none)]) (by kernel_rfl) ?_
    refine AWP.seq ?_
    refine xe1 (os := [off + (11 : Nat) + (2 : Nat) + (1 : Nat) ≤ List.length (putC ((1 : Nat) == (1 : Nat)) (putC ((1 : Nat) == (1 : Nat)) (putC ((1 : Nat) == (1 : Nat)) (putC ((1 : Nat) == (1 : Nat)) L (off + (11 : Nat) + (3 : Nat)) [i32 v]) (off + (11 : Nat) + (4 : Nat)) [vb true]) (off + (11 : Nat) + (1 : Nat)) [u8 s]) (off + (11 : Nat) + (2 : Nat)) [u8 (1 : Int)]), part_ true (isRow (TypeDesc.int IntKind.u8)) (putC (1 == 1) (putC (1 == 1) (putC (1 == 1) (putC (1 == 1) L (off + 11 + 3) [i32 v]) (off + 11 + 4) [vb true]) (off + 11 + 1) [u8 s]) (off + 11 + 2) [u8 1]) (off + 11 + 2) 1 = u8 1, off + (0 : Nat) + (6 : Nat) + (1 : Nat) ≤ List.length (putC ((1 : Nat) == (1 : Nat)) (putC ((1 : Nat) == (1 : Nat)) (putC ((1 : Nat) == (1 : Nat)) (putC ((1 : Nat) == (1 : Nat)) L (off + (11 : Nat) + (3 : Nat)) [i32 v]) (off + (11 : Nat) + (4 : Nat)) [vb true]) (off + (11 : Nat) + (1 : Nat)) [u8 s]) (off + (11 : Nat) + (2 : Nat)) [u8 (1 : Int)]), part_ true (isRow (TypeDesc.int IntKind.u8)) (putC (1 == 1) (putC (1 == 1) (putC (1 == 1) (putC (1 == 1) L (off + 11 + 3) [i32 v]) (off + 11 + 4) [vb true]) (off + 11 + 1) [u8 s]) (off + 11 + 2) [u8 1]) (off + 0 + 6) 1 = u8 rp, decide ((1 : Int) < rp) = false → off + (11 : Nat) + (0 : Nat) + (1 : Nat) ≤ List.length (putC ((1 : Nat) == (1 : Nat)) (putC ((1 : Nat) == (1 : Nat)) (putC ((1 : Nat) == (1 : Nat)) (putC ((1 : Nat) == (1 : Nat)) L (off + (11 : Nat) + (3 : Nat)) [i32 v]) (off + (11 : Nat) + (4 : Nat)) [vb true]) (off + (11 : Nat) + (1 : Nat)) [u8 s]) (off + (11 : Nat) + (2 : Nat)) [u8 (1 : Int)]) ∧ part_ true (isRow (TypeDesc.int IntKind.u8)) (putC ((1 : Nat) == (1 : Nat)) (putC ((1 : Nat) == (1 : Nat)) (putC ((1 : Nat) == (1 : Nat)) (putC ((1 : Nat) == (1 : Nat)) L (off + (11 : Nat) + (3 : Nat)) [i32 v]) (off + (11 : Nat) + (4 : Nat)) [vb true]) (off + (11 : Nat) + (1 : Nat)) [u8 s]) (off + (11 : Nat) + (2 : Nat)) [u8 (1 : Int)]) (off + (11 : Nat) + (0 : Nat)) (1 : Nat) = u8 st ∧ True]) [(4, ⟨some (u8 1), none⟩), (9, ⟨some (u8 rp), none⟩), (16, ⟨some (u8 st), none⟩)] [0, 4, 5, 97] [1000000000] (by kernel_rfl) ⟨(by (simp only [len_putC]; omega)), (gI_putC_eq (by first | omega | (simp only [len_putC]; omega))), (by (simp only [len_putC]; omega)), (gI_putC_ne (by omega) (gI_putC_ne (by omega) (gI_putC_ne (by omega) (gI_putC_ne (by omega) (wg6 ))))), (by intro hc0; first | (cases hc0; done) | ((try simp only [Bool.or_false, Bool.false_or, Bool.true_and, Bool.and_true, decide_eq_true_eq, decide_eq_false_iff_not, Bool.and_eq_true, Bool.or_eq_true, Bool.or_eq_false_iff, Bool.not_eq_true', Bool.and_eq_false_iff, beq_iff_eq, bne_iff_ne, bne_eq_false_iff_eq, beq_eq_false_iff_ne, Bool.not_eq_false'] at hc0); exact ⟨(by (simp only [len_putC]; omega)), (gI_putC_ne (by omega) (gI_putC_ne (by omega) (gI_putC_ne (by omega) (gI_putC_ne (by omega) (wg11 ))))), trivial⟩)), trivial⟩ ?_
    refine AWP.cond (b := decide (1 < rp) || st == s) (by kernel_rfl) (fun hq18 => ?_) (fun hq18 => ?_)
    · simp only [decide_eq_true_eq, Bool.or_eq_true, beq_iff_eq] at hq18
      refine xe0 [0, 4, 5] [1000000000] (by kernel_rfl) ?_
      refine AWP.ret ?_
      refine ⟨Or.inr rfl, Eq.trans (b := some ([(1000000000, Blk.mk (putC (1 == 1) (putC (1 == 1) (putC (1 == 1) (putC (1 == 1) L (off + 11 + 3) [i32 v]) (off + 11 + 4) [vb true]) (off + 11 + 1) [u8 s]) (off + 11 + 2) [u8 1]) true 257 none)], vb false)) (by kernel_rfl) ?_⟩
      first | rfl | (exfalso; omega)
    simp only [decide_eq_false_iff_not, Bool.or_eq_false_iff, beq_eq_false_iff_ne] at hq18
    (exfalso; omega)
  simp only [bne_eq_false_iff_eq] at hq17
  (exfalso; omega)
theorem con_look_D (L : List V) (off : Nat) (kd pa lo hi ma wa rp ev lv un st fo ti la v s : Int) (en an : Bool) (h : At L off kd pa lo hi ma wa rp ev lv un en st fo ti la an) (hk : 0 ≤ kd ∧ kd < 256) (hlo : -2147483648 ≤ lo ∧ lo ≤ 2147483647) (hhi : -2147483648 ≤ hi ∧ hi ≤ 2147483647) (hv : -2147483648 ≤ v ∧ v ≤ 2147483647) (hla : -2147483648 ≤ la ∧ la ≤ 2147483647)
    (hl : look kd pa lo hi ma wa v la (!an) = s) (h0 : s ≠ 0) (hs : s ≠ fo) (hn : rp ≤ 1) (hc : st ≠ s) : Con Try.prog 43 [(1000000000, ⟨L, true, 257, none⟩)] [.ptr 1000000000 off, i32 v] [(1000000000, ⟨(putC (1 == 1) (putC (1 == 1) (putC (1 == 1) (putC (1 == 1) (putC (1 == 1) L (off + 14) [i32 v]) (off + 15) [vb true]) (off + 12) [u8 s]) (off + 13) [u8 1]) (off + 11) [u8 s]), true, 257, none⟩)] (vb true) := by
  obtain ⟨hL, hle, wg6, wg11, wg12, wg13, wg14, wg15, r, kx⟩ := h
  have cl := con_look kd pa lo hi ma wa v la (!an) hk hlo hhi hv hla
  rw [hl] at cl
  have e6 : List.take 6 (List.drop (off + 0 + 0) L) = [u8 kd, i64 pa, i32 lo, i32 hi, u32 ma, u32 wa] := by
    show List.take 6 (List.drop off L) = _
    rw [kx]
    rfl
  have cl2 : Con Try.prog 56 [] [.agg true (List.take 6 (List.drop (off + 0 + 0) L)), i32 v, i32 la, vb (!an)] [] (u8 s) := Con.args (by rw [e6]) cl
  refine Con.of (C := ⟨Try.prog, tc, Try.f43.ntmps⟩) [1000000000] tcok Try.func43 rfl rfl (by kernel_rfl) (by kernel_rfl) ?_
  refine xe0 [0, 1, 4] [1000000000] (by kernel_rfl) ?_
  refine xe1 (os := [off + (0 : Nat) + (0 : Nat) + (6 : Nat) ≤ List.length L, V.agg true (List.take 6 (List.drop (off + 0 + 0) L)) = V.agg true (List.take 6 (List.drop (off + 0 + 0) L)), off + (11 : Nat) + (3 : Nat) + (1 : Nat) ≤ List.length L, part_ true (isRow (TypeDesc.int IntKind.i32)) L (off + 11 + 3) 1 = i32 la, off + (11 : Nat) + (4 : Nat) + (1 : Nat) ≤ List.length L, part_ true (isRow TypeDesc.bool) L (off + 11 + 4) 1 = vb an, Con Try.prog 56 [] [V.agg true (List.take 6 (List.drop (off + 0 + 0) L)), i32 v, i32 la, vb !an] [] (u8 s)]) [(4, ⟨some (V.agg true (List.take 6 (List.drop (off + 0 + 0) L))), none⟩), (10, ⟨some (i32 la), none⟩), (15, ⟨some (vb an), none⟩), (17, ⟨none, some ⟨u8 s, [], []⟩⟩)] [0, 1, 4, 5] [1000000000] (by kernel_rfl) ⟨(by omega), rfl, (by omega), (wg14 ), (by omega), (wg15 ), (cl2 ), trivial⟩ ?_
  refine xe1 (os := [(1 : Nat) = (1 : Nat), off + (11 : Nat) + (3 : Nat) + (1 : Nat) ≤ List.length L, (1 : Nat) = (1 : Nat), off + (11 : Nat) + (4 : Nat) + (1 : Nat) ≤ List.length (putC ((1 : Nat) == (1 : Nat)) L (off + (11 : Nat) + (3 : Nat)) [i32 v])]) [(6, ⟨some V.top, none⟩), (10, ⟨some V.top, none⟩)] [0, 4, 5] [1000000000] (by kernel_rfl) ⟨(by omega), (by omega), (by omega), (by (simp only [len_putC]; omega)), trivial⟩ ?_
  refine AWP.seq ?_
  refine AWP.block ?_
  refine xe0 [0, 4, 5, 33] [1000000000] (by kernel_rfl) ?_
  refine AWP.cond (b := s == 0) (by kernel_rfl) (fun hq19 => ?_) (fun hq19 => ?_)
  · simp only [beq_iff_eq] at hq19
    (exfalso; omega)
  simp only [beq_eq_false_iff_ne] at hq19
  refine xe1 (os := [off + (11 : Nat) + (1 : Nat) + (1 : Nat) ≤ List.length (putC ((1 : Nat) == (1 : Nat)) (putC ((1 : Nat) == (1 : Nat)) L (off + (11 : Nat) + (3 : Nat)) [i32 v]) (off + (11 : Nat) + (4 : Nat)) [vb true]), part_ true (isRow (TypeDesc.int IntKind.u8)) (putC (1 == 1) (putC (1 == 1) L (off + 11 + 3) [i32 v]) (off + 11 + 4) [vb true]) (off + 11 + 1) 1 = u8 fo]) [(5, ⟨some (u8 fo), none⟩)] [0, 4, 5, 45] [1000000000] (by kernel_rfl) ⟨(by (simp only [len_putC]; omega)), (gI_putC_ne (by omega) (gI_putC_ne (by omega) (wg12 ))), trivial⟩ ?_
  refine AWP.cond (b := s != fo) (by kernel_rfl) (fun hq20 => ?_) (fun hq20 => ?_)
  · simp only [bne_iff_ne] at hq20
    refine AWP.region tcok hmix [(6, ⟨some V.top, none⟩), (10, ⟨some V.top, none⟩)] (os := [(1 : Nat) = (1 : Nat), off + (11 : Nat) + (1 : Nat) + (1 : Nat) ≤ List.length (putC ((1 : Nat) == (1 : Nat)) (putC ((1 : Nat) == (1 : Nat)) L (off + (11 : Nat) + (3 : Nat)) [i32 v]) (off + (11 : Nat) + (4 : Nat)) [vb true]), (1 : Nat) = (1 : Nat), off + (11 : Nat) + (2 : Nat) + (1 : Nat) ≤ List.length (putC ((1 : Nat) == (1 : Nat)) (putC ((1 : Nat) == (1 : Nat)) (putC ((1 : Nat) == (1 : Nat)) L (off + (11 : Nat) + (3 : Nat)) [i32 v]) (off + (11 : Nat) + (4 : Nat)) [vb true]) (off + (11 : Nat) + (1 : Nat)) [u8 s])]) (sf := St.mk [(0, tp (V.ptr 1000000000 off)), (4, tp (vb false)), (5, tp (u8 s)), (45, tp (vb (s != fo))), (53, tp (V.ptr 1000000000 off)), (54, tp (V.ptr 1000000000 off)), (55, tp (u8 s)), (56, tp (V.ptr 1000000000 off)), (57, tp (V.ptr 1000000000 (off + 11))), (58, tp (V.ptr 1000000000 (off + 11 + 1))), (59, tp (V.ptr 1000000000 off)), (60, tp (V.ptr 1000000000 (off + 11))), (61, tp (V.ptr 1000000000 (off + 11 + 2)))] [(1000000000, Blk.mk (putC (1 == 1) (putC (1 == 1) (putC (1 == 1) (putC (1 == 1) L (off + 11 + 3) [i32 v]) (off + 11 + 4) [vb true]) (off + 11 + 1) [u8 s]) (off + 11 + 2) [u8 1]) true 257 none)]) (by kernel_rfl) ⟨(by omega), (by (simp only [len_putC]; omega)), (by omega), (by (simp only [len_putC]; omega)), trivial⟩ ?_
    refine AWP.keep' [0, 4, 5] [1000000000] (sf := St.mk [(0, tp (V.ptr 1000000000 off)), (4, tp (vb false)), (5, tp (u8 s))] [(1000000000, Blk.mk (putC (1 == 1) (putC (1 == 1) (putC (1 == 1) (putC (1 == 1) L (off + 11 + 3) [i32 v]) (off + 11 + 4) [vb true]) (off + 11 + 1) [u8 s]) (off + 11 + 2) [u8 1]) true 257 none)]) (by kernel_rfl) ?_
    refine AWP.seq ?_
    refine xe1 (os := [off + (11 : Nat) + (2 : Nat) + (1 : Nat) ≤ List.length (putC ((1 : Nat) == (1 : Nat)) (putC ((1 : Nat) == (1 : Nat)) (putC ((1 : Nat) == (1 : Nat)) (putC ((1 : Nat) == (1 : Nat)) L (off + (11 : Nat) + (3 : Nat)) [i32 v]) (off + (11 : Nat) + (4 : Nat)) [vb true]) (off + (11 : Nat) + (1 : Nat)) [u8 s]) (off + (11 : Nat) + (2 : Nat)) [u8 (1 : Int)]), part_ true (isRow (TypeDesc.int IntKind.u8)) (putC (1 == 1) (putC (1 == 1) (putC (1 == 1) (putC (1 == 1) L (off + 11 + 3) [i32 v]) (off + 11 + 4) [vb true]) (off + 11 + 1) [u8 s]) (off + 11 + 2) [u8 1]) (off + 11 + 2) 1 = u8 1, off + (0 : Nat) + (6 : Nat) + (1 : Nat) ≤ List.length (putC ((1 : Nat) == (1 : Nat)) (putC ((1 : Nat) == (1 : Nat)) (putC ((1 : Nat) == (1 : Nat)) (putC ((1 : Nat) == (1 : Nat)) L (off + (11 : Nat) + (3 : Nat)) [i32 v]) (off + (11 : Nat) + (4 : Nat)) [vb true]) (off + (11 : Nat) + (1 : Nat)) [u8 s]) (off + (11 : Nat) + (2 : Nat)) [u8 (1 : Int)]), part_ true (isRow (TypeDesc.int IntKind.u8)) (putC (1 == 1) (putC (1 == 1) (putC (1 == 1) (putC (1 == 1) L (off + 11 + 3) [i32 v]) (off + 11 + 4) [vb true]) (off + 11 + 1) [u8 s]) (off + 11 + 2) [u8 1]) (off + 0 + 6) 1 = u8 rp, decide ((1 : Int) < rp) = false → off + (11 : Nat) + (0 : Nat) + (1 : Nat) ≤ List.length (putC ((1 : Nat) == (1 : Nat)) (putC ((1 : Nat) == (1 : Nat)) (putC ((1 : Nat) == (1 : Nat)) (putC ((1 : Nat) == (1 : Nat)) L (off + (11 : Nat) + (3 : Nat)) [i32 v]) (off + (11 : Nat) + (4 : Nat)) [vb true]) (off + (11 : Nat) + (1 : Nat)) [u8 s]) (off + (11 : Nat) + (2 : Nat)) [u8 (1 : Int)]) ∧ part_ true (isRow (TypeDesc.int IntKind.u8)) (putC ((1 : Nat) == (1 : Nat)) (putC ((1 : Nat) == (1 : Nat)) (putC ((1 : Nat) == (1 : Nat)) (putC ((1 : Nat) == (1 : Nat)) L (off + (11 : Nat) + (3 : Nat)) [i32 v]) (off + (11 : Nat) + (4 : Nat)) [vb true]) (off + (11 : Nat) + (1 : Nat)) [u8 s]) (off + (11 : Nat) + (2 : Nat)) [u8 (1 : Int)]) (off + (11 : Nat) + (0 : Nat)) (1 : Nat) = u8 st ∧ True]) [(4, ⟨some (u8 1), none⟩), (9, ⟨some (u8 rp), none⟩), (16, ⟨some (u8 st), none⟩)] [0, 4, 5, 97] [1000000000] (by kernel_rfl) ⟨(by (simp only [len_putC]; omega)), (gI_putC_eq (by first | omega | (simp only [len_putC]; omega))), (by (simp only [len_putC]; omega)), (gI_putC_ne (by omega) (gI_putC_ne (by omega) (gI_putC_ne (by omega) (gI_putC_ne (by omega) (wg6 ))))), (by intro hc0; first | (cases hc0; done) | ((try simp only [Bool.or_false, Bool.false_or, Bool.true_and, Bool.and_true, decide_eq_true_eq, decide_eq_false_iff_not, Bool.and_eq_true, Bool.or_eq_true, Bool.or_eq_false_iff, Bool.not_eq_true', Bool.and_eq_false_iff, beq_iff_eq, bne_iff_ne, bne_eq_false_iff_eq, beq_eq_false_iff_ne, Bool.not_eq_false'] at hc0); exact ⟨(by (simp only [len_putC]; omega)), (gI_putC_ne (by omega) (gI_putC_ne (by omega) (gI_putC_ne (by omega) (gI_putC_ne (by omega) (wg11 ))))), trivial⟩)), trivial⟩ ?_
    refine AWP.cond (b := decide (1 < rp) || st == s) (by kernel_rfl) (fun hq21 => ?_) (fun hq21 => ?_)
    · simp only [decide_eq_true_eq, Bool.or_eq_true, beq_iff_eq] at hq21
      (exfalso; omega)
    simp only [decide_eq_false_iff_not, Bool.or_eq_false_iff, beq_eq_false_iff_ne] at hq21
    refine AWP.skip ?_
    refine xe1 (os := [(1 : Nat) = (1 : Nat), off + (11 : Nat) + (0 : Nat) + (1 : Nat) ≤ List.length (putC ((1 : Nat) == (1 : Nat)) (putC ((1 : Nat) == (1 : Nat)) (putC ((1 : Nat) == (1 : Nat)) (putC ((1 : Nat) == (1 : Nat)) L (off + (11 : Nat) + (3 : Nat)) [i32 v]) (off + (11 : Nat) + (4 : Nat)) [vb true]) (off + (11 : Nat) + (1 : Nat)) [u8 s]) (off + (11 : Nat) + (2 : Nat)) [u8 (1 : Int)])]) [(5, ⟨some V.top, none⟩)] [4] [1000000000] (by kernel_rfl) ⟨(by omega), (by (simp only [len_putC]; omega)), trivial⟩ ?_
    refine xe0 [4] [1000000000] (by kernel_rfl) ?_
    refine AWP.ret ?_
    refine ⟨Or.inr rfl, Eq.trans (b := some ([(1000000000, Blk.mk (putC (1 == 1) (putC (1 == 1) (putC (1 == 1) (putC (1 == 1) (putC (1 == 1) L (off + 11 + 3) [i32 v]) (off + 11 + 4) [vb true]) (off + 11 + 1) [u8 s]) (off + 11 + 2) [u8 1]) (off + 11 + 0) [u8 s]) true 257 none)], vb true)) (by kernel_rfl) ?_⟩
    first | rfl | (exfalso; omega)
  simp only [bne_eq_false_iff_eq] at hq20
  (exfalso; omega)
theorem con_look_U (L : List V) (off : Nat) (kd pa lo hi ma wa rp ev lv un st fo ti la v s : Int) (en an : Bool) (h : At L off kd pa lo hi ma wa rp ev lv un en st fo ti la an) (hk : 0 ≤ kd ∧ kd < 256) (hlo : -2147483648 ≤ lo ∧ lo ≤ 2147483647) (hhi : -2147483648 ≤ hi ∧ hi ≤ 2147483647) (hv : -2147483648 ≤ v ∧ v ≤ 2147483647) (hla : -2147483648 ≤ la ∧ la ≤ 2147483647)
    (hl : look kd pa lo hi ma wa v la (!an) = s) (h0 : s = 0) : Con Try.prog 43 [(1000000000, ⟨L, true, 257, none⟩)] [.ptr 1000000000 off, i32 v] [(1000000000, ⟨(putC (1 == 1) (putC (1 == 1) (putC (1 == 1) (putC (1 == 1) L (off + 14) [i32 v]) (off + 15) [vb true]) (off + 12) [u8 0]) (off + 13) [u8 0]), true, 257, none⟩)] (vb false) := by
  obtain ⟨hL, hle, wg6, wg11, wg12, wg13, wg14, wg15, r, kx⟩ := h
  have cl := con_look kd pa lo hi ma wa v la (!an) hk hlo hhi hv hla
  rw [hl] at cl
  have e6 : List.take 6 (List.drop (off + 0 + 0) L) = [u8 kd, i64 pa, i32 lo, i32 hi, u32 ma, u32 wa] := by
    show List.take 6 (List.drop off L) = _
    rw [kx]
    rfl
  have cl2 : Con Try.prog 56 [] [.agg true (List.take 6 (List.drop (off + 0 + 0) L)), i32 v, i32 la, vb (!an)] [] (u8 s) := Con.args (by rw [e6]) cl
  refine Con.of (C := ⟨Try.prog, tc, Try.f43.ntmps⟩) [1000000000] tcok Try.func43 rfl rfl (by kernel_rfl) (by kernel_rfl) ?_
  refine xe0 [0, 1, 4] [1000000000] (by kernel_rfl) ?_
  refine xe1 (os := [off + (0 : Nat) + (0 : Nat) + (6 : Nat) ≤ List.length L, V.agg true (List.take 6 (List.drop (off + 0 + 0) L)) = V.agg true (List.take 6 (List.drop (off + 0 + 0) L)), off + (11 : Nat) + (3 : Nat) + (1 : Nat) ≤ List.length L, part_ true (isRow (TypeDesc.int IntKind.i32)) L (off + 11 + 3) 1 = i32 la, off + (11 : Nat) + (4 : Nat) + (1 : Nat) ≤ List.length L, part_ true (isRow TypeDesc.bool) L (off + 11 + 4) 1 = vb an, Con Try.prog 56 [] [V.agg true (List.take 6 (List.drop (off + 0 + 0) L)), i32 v, i32 la, vb !an] [] (u8 s), u8 s = u8 0]) [(4, ⟨some (V.agg true (List.take 6 (List.drop (off + 0 + 0) L))), none⟩), (10, ⟨some (i32 la), none⟩), (15, ⟨some (vb an), none⟩), (17, ⟨none, some ⟨u8 s, [], []⟩⟩), (18, ⟨some (u8 0), none⟩)] [0, 1, 4, 5] [1000000000] (by kernel_rfl) ⟨(by omega), rfl, (by omega), (wg14 ), (by omega), (wg15 ), (cl2 ), (in_eq h0), trivial⟩ ?_
  refine xe1 (os := [(1 : Nat) = (1 : Nat), off + (11 : Nat) + (3 : Nat) + (1 : Nat) ≤ List.length L, (1 : Nat) = (1 : Nat), off + (11 : Nat) + (4 : Nat) + (1 : Nat) ≤ List.length (putC ((1 : Nat) == (1 : Nat)) L (off + (11 : Nat) + (3 : Nat)) [i32 v])]) [(6, ⟨some V.top, none⟩), (10, ⟨some V.top, none⟩)] [0, 4, 5] [1000000000] (by kernel_rfl) ⟨(by omega), (by omega), (by omega), (by (simp only [len_putC]; omega)), trivial⟩ ?_
  refine AWP.seq ?_
  refine AWP.block ?_
  refine xe0 [0, 4, 5, 33] [1000000000] (by kernel_rfl) ?_
  refine AWP.condT (by kernel_rfl) ?_
  refine xe1 (os := [(1 : Nat) = (1 : Nat), off + (11 : Nat) + (1 : Nat) + (1 : Nat) ≤ List.length (putC ((1 : Nat) == (1 : Nat)) (putC ((1 : Nat) == (1 : Nat)) L (off + (11 : Nat) + (3 : Nat)) [i32 v]) (off + (11 : Nat) + (4 : Nat)) [vb true]), (1 : Nat) = (1 : Nat), off + (11 : Nat) + (2 : Nat) + (1 : Nat) ≤ List.length (putC ((1 : Nat) == (1 : Nat)) (putC ((1 : Nat) == (1 : Nat)) (putC ((1 : Nat) == (1 : Nat)) L (off + (11 : Nat) + (3 : Nat)) [i32 v]) (off + (11 : Nat) + (4 : Nat)) [vb true]) (off + (11 : Nat) + (1 : Nat)) [u8 (0 : Int)])]) [(6, ⟨some V.top, none⟩), (10, ⟨some V.top, none⟩)] [0, 4, 5] [1000000000] (by kernel_rfl) ⟨(by omega), (by (simp only [len_putC]; omega)), (by omega), (by (simp only [len_putC]; omega)), trivial⟩ ?_
  refine xe0 [0, 4, 5] [1000000000] (by kernel_rfl) ?_
  refine AWP.ret ?_
  refine ⟨Or.inr rfl, Eq.trans (b := some ([(1000000000, Blk.mk (putC (1 == 1) (putC (1 == 1) (putC (1 == 1) (putC (1 == 1) L (off + 11 + 3) [i32 v]) (off + 11 + 4) [vb true]) (off + 11 + 1) [u8 0]) (off + 11 + 2) [u8 0]) true 257 none)], vb false)) (by kernel_rfl) ?_⟩
  first | rfl | (exfalso; omega)
end Go.Proofs.Ytlfjnkobnkfioaa
