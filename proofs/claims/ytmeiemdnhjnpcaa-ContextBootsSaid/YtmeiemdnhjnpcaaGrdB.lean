/- Memory that survives: filled for the first time, read, spoilt, scrubbed. -/
import Derived.Test.YtmeiemdnhjnpcaaRg
import Derived.Test.YtmeiemdnhjnpcaaGrdA
namespace Go.Proofs.Ytmeiemdnhjnpcaa
open Go.Ab
set_option linter.unusedSimpArgs false
set_option linter.unusedVariables false
set_option maxHeartbeats 4000000
theorem con_gread_y (a b c : List Int) (ha : BL a) (hb : BL b) (hc : BL c) (hla : a.length ≤ 1000000) (hlb : b.length ≤ 1000000) (hlc : c.length ≤ 1000000) (nx : V) (m : List Int) (k : Nat) (hv : vst [a, b, c] = (k, m)) (hk : 2 ≤ k) : Con Try.prog 47 [] [.vp [B8 a, B8 b, B8 c, nx]] [(1210005, ⟨u8s (cPo m), true, 0, some (5, 1)⟩)] (.tup [u32 (cNo m), .sl 1210005 0 (cPo m).length, i64 0]) := by
  have cv := con_vote_y [a, b, c] 3 rfl (by simp only [List.forall_mem_cons, List.not_mem_nil, false_implies, implies_true, and_true]; exact ⟨⟨ha, hla⟩, ⟨hb, hlb⟩, hc, hlc⟩) (by omega) (by rw [hv]; exact hk)
  rw [hv] at cv
  simp only [LL, List.map_cons, List.map_nil] at cv
  refine Con.of (C := ⟨Try.prog, tc, Try.f47.ntmps⟩) [1210005] tcok Try.func47 rfl rfl (by kernel_rfl) (by kernel_rfl) ?_
  refine xe0 [0, 2, 3, 4] [3] (by kernel_rfl) ?_
  refine AWP.seq ?_
  refine xe0 [0, 2, 3, 4, 6] [3] (by kernel_rfl) ?_
  refine AWP.condF (by kernel_rfl) ?_
  refine AWP.skip ?_
  refine AWP.seq ?_
  refine AWP.keep' [0] [] (sf := St.mk [(0, tp (V.vp [B8 a, B8 b, B8 c, nx]))] []) (by kernel_rfl) ?_
  refine xg1 (os := [Con Try.prog 37 [] [V.vs [B8 a, B8 b, B8 c] 3] [(1090005, Blk.mk (u8s (cPo m)) true 0 (some (5, 1)))] (V.tup [u32 (cNo m), V.sl 1090005 0 (List.length (cPo m)), i64 0])]) [(4, ⟨none, some ⟨V.tup [u32 (cNo m), V.sl 1090005 0 (List.length (cPo m)), i64 0], [(1090005, Blk.mk (u8s (cPo m)) true 0 (some (5, 1)))], []⟩⟩)] [2, 3, 4] [1210005] (by kernel_rfl) ⟨(cv ), trivial⟩ ?_
  refine AWP.ret ?_
  refine ⟨Or.inr rfl, Eq.trans (b := some ([(1210005, Blk.mk (u8s (cPo m)) true 0 (some (5, 1)))], V.tup [u32 (cNo m), V.sl 1210005 0 (List.length (cPo m)), i64 0])) (by kernel_rfl) ?_⟩
  rfl
theorem con_gread_n (a b c : List Int) (ha : BL a) (hb : BL b) (hc : BL c) (hla : a.length ≤ 1000000) (hlb : b.length ≤ 1000000) (hlc : c.length ≤ 1000000) (nx : V) (hk : (vst [a, b, c]).1 < 2) : Con Try.prog 47 [] [.vp [B8 a, B8 b, B8 c, nx]] [(120003, ⟨[], true, 0, some (5, 1)⟩)] (.tup [u32 0, .sl 120003 0 0, i64 3]) := by
  have cv := con_vote_n [a, b, c] 3 rfl (by simp only [List.forall_mem_cons, List.not_mem_nil, false_implies, implies_true, and_true]; exact ⟨⟨ha, hla⟩, ⟨hb, hlb⟩, hc, hlc⟩) (by omega) hk
  simp only [LL, List.map_cons, List.map_nil] at cv
  refine Con.of (C := ⟨Try.prog, tc, Try.f47.ntmps⟩) [120003] tcok Try.func47 rfl rfl (by kernel_rfl) (by kernel_rfl) ?_
  refine xe0 [0, 2, 3, 4] [3] (by kernel_rfl) ?_
  refine AWP.seq ?_
  refine xe0 [0, 2, 3, 4, 6] [3] (by kernel_rfl) ?_
  refine AWP.condF (by kernel_rfl) ?_
  refine AWP.skip ?_
  refine AWP.seq ?_
  refine AWP.keep' [0] [] (sf := St.mk [(0, tp (V.vp [B8 a, B8 b, B8 c, nx]))] []) (by kernel_rfl) ?_
  refine xg1 (os := [Con Try.prog 37 [] [V.vs [B8 a, B8 b, B8 c] 3] [(3, Blk.mk [] true 0 (some (5, 1)))] (V.tup [u32 0, V.sl 3 0 0, i64 3])]) [(4, ⟨none, some ⟨V.tup [u32 0, V.sl 3 0 0, i64 3], [(3, Blk.mk [] true 0 (some (5, 1)))], []⟩⟩)] [2, 3, 4] [120003] (by kernel_rfl) ⟨(cv ), trivial⟩ ?_
  refine AWP.ret ?_
  refine ⟨Or.inr rfl, Eq.trans (b := some ([(120003, Blk.mk [] true 0 (some (5, 1)))], V.tup [u32 0, V.sl 120003 0 0, i64 3])) (by kernel_rfl) ?_⟩
  rfl
theorem con_gflip0n (a b c x : List Int) (at_ mask : Int) (ha : 0 ≤ at_ ∧ at_ < a.length) (hl : a.length ≤ 1000000) (wl : a.set (0 + at_.toNat * 1) (ixor .u8 (a.getD (0 + at_.toNat * 1) 0) mask) = x) : Con Try.prog 51 [(1000000000, ⟨[B8 a, B8 b, B8 c, nilS], true, 4, none⟩)] [.ptr 1000000000 0, i64 0, i64 at_, u8 mask] [(1000000000, ⟨[B8 x, B8 b, B8 c, nilS], true, 4, none⟩)] (i64 0) := by
  have hx : a.length = x.length := by rw [← wl, List.length_set]
  refine Con.of (C := ⟨Try.prog, tc, Try.f51.ntmps⟩) [1000000000] tcok Try.func51 rfl rfl (by kernel_rfl) (by kernel_rfl) ?_
  refine xe0 [0, 1, 2, 3, 8] [1000000000] (by kernel_rfl) ?_
  refine AWP.seq ?_
  refine AWP.block ?_
  refine xe0 [0, 1, 2, 3, 8, 9] [1000000000] (by kernel_rfl) ?_
  refine AWP.condF (by kernel_rfl) ?_
  refine xe0 [0, 1, 2, 3, 8, 12] [1000000000] (by kernel_rfl) ?_
  refine AWP.cond (b := false || decide (at_ < 0) || decide (at_ ≥ (↑(List.length a) : Int))) (by kernel_rfl) (fun hq9 => ?_) (fun hq9 => ?_)
  · simp only [Bool.false_or, decide_eq_true_eq, Bool.or_eq_true] at hq9
    (exfalso; omega)
  simp only [Bool.false_or, decide_eq_false_iff_not, Bool.or_eq_false_iff] at hq9
  refine AWP.skip ?_
  refine xe1 [(8, ⟨none, some ⟨V.sl 5 0 (List.length a), [(5, Blk.mk (u8s a) true 0 (some (5, 1)))], []⟩⟩)] [0, 1, 2, 3, 8] [1000000000, 430005] (by kernel_rfl) (AllP.c (con_clone (a) (List.length a) (by omega) (by omega)) AllP.n) ?_
  refine xe1 (os := [(0 : Int) ≤ at_ ∧ at_ < (↑(List.length a) : Int), V.ptr 430005 (0 + Int.toNat at_ * 1) = V.ptr 430005 (0 + Int.toNat at_ * 1), (0 : Nat) + Int.toNat at_ * (1 : Nat) + (1 : Nat) ≤ List.length (u8s a), part_ true (isRow (TypeDesc.int IntKind.u8)) (u8s a) (0 + Int.toNat at_ * 1) 1 = u8 (List.getD a (0 + Int.toNat at_ * 1) 0), (0 : Int) ≤ at_ ∧ at_ < (↑(List.length a) : Int), V.ptr 430005 (0 + Int.toNat at_ * 1) = V.ptr 430005 (0 + Int.toNat at_ * 1), (1 : Nat) = (1 : Nat), (0 : Nat) + Int.toNat at_ * (1 : Nat) + (1 : Nat) ≤ List.length (u8s a), putC ((1 : Nat) == (1 : Nat)) (u8s a) ((0 : Nat) + Int.toNat at_ * (1 : Nat)) [u8 (ixor IntKind.u8 (List.getD a ((0 : Nat) + Int.toNat at_ * (1 : Nat)) (0 : Int)) mask)] = u8s x]) [(7, ⟨some (V.ptr 430005 (0 + Int.toNat at_ * 1)), none⟩), (8, ⟨some (u8 (List.getD a (0 + Int.toNat at_ * 1) 0)), none⟩), (11, ⟨some (V.ptr 430005 (0 + Int.toNat at_ * 1)), none⟩), (12, ⟨some (V.agg true (u8s x)), none⟩)] [8] [1000000000, 430005] (by kernel_rfl) ⟨(by omega), rfl, (by (simp [len_u8s]; omega)), (part_u8s (by first | omega | (simp [len_u8s]; done) | (simp [len_u8s]; omega))), (by omega), rfl, (by omega), (by (simp [len_u8s]; omega)), ((set_u8s _ _ _).trans (congrArg u8s wl)), trivial⟩ ?_
  refine xe0 [8] [430005, 1000000000] (by kernel_rfl) ?_
  refine AWP.frz 430005 (s' := St.mk [(8, tp (i64 0))] [(1000000000, Blk.mk [V.vs (u8s x) (List.length a), B8 b, B8 c, V.val (Value.slice none 0 0)] true 4 none)]) (by kernel_rfl) ?_
  refine AWP.ret ?_
  refine ⟨Or.inr rfl, Eq.trans (b := some ([(1000000000, Blk.mk [V.vs (u8s x) (List.length a), B8 b, B8 c, V.val (Value.slice none 0 0)] true 4 none)], i64 0)) (by kernel_rfl) ?_⟩
  first | rfl | (rw [hx])
theorem con_gflip1n (a b c x : List Int) (at_ mask : Int) (ha : 0 ≤ at_ ∧ at_ < b.length) (hl : b.length ≤ 1000000) (wl : b.set (0 + at_.toNat * 1) (ixor .u8 (b.getD (0 + at_.toNat * 1) 0) mask) = x) : Con Try.prog 51 [(1000000000, ⟨[B8 a, B8 b, B8 c, nilS], true, 4, none⟩)] [.ptr 1000000000 0, i64 1, i64 at_, u8 mask] [(1000000000, ⟨[B8 a, B8 x, B8 c, nilS], true, 4, none⟩)] (i64 0) := by
  have hx : b.length = x.length := by rw [← wl, List.length_set]
  refine Con.of (C := ⟨Try.prog, tc, Try.f51.ntmps⟩) [1000000000] tcok Try.func51 rfl rfl (by kernel_rfl) (by kernel_rfl) ?_
  refine xe0 [0, 1, 2, 3, 8] [1000000000] (by kernel_rfl) ?_
  refine AWP.seq ?_
  refine AWP.block ?_
  refine xe0 [0, 1, 2, 3, 8, 9] [1000000000] (by kernel_rfl) ?_
  refine AWP.condF (by kernel_rfl) ?_
  refine xe0 [0, 1, 2, 3, 8, 12] [1000000000] (by kernel_rfl) ?_
  refine AWP.cond (b := false || decide (at_ < 0) || decide (at_ ≥ (↑(List.length b) : Int))) (by kernel_rfl) (fun hq11 => ?_) (fun hq11 => ?_)
  · simp only [Bool.false_or, decide_eq_true_eq, Bool.or_eq_true] at hq11
    (exfalso; omega)
  simp only [Bool.false_or, decide_eq_false_iff_not, Bool.or_eq_false_iff] at hq11
  refine AWP.skip ?_
  refine xe1 [(8, ⟨none, some ⟨V.sl 5 0 (List.length b), [(5, Blk.mk (u8s b) true 0 (some (5, 1)))], []⟩⟩)] [0, 1, 2, 3, 8] [1000000000, 430005] (by kernel_rfl) (AllP.c (con_clone (b) (List.length b) (by omega) (by omega)) AllP.n) ?_
  refine xe1 (os := [(0 : Int) ≤ at_ ∧ at_ < (↑(List.length b) : Int), V.ptr 430005 (0 + Int.toNat at_ * 1) = V.ptr 430005 (0 + Int.toNat at_ * 1), (0 : Nat) + Int.toNat at_ * (1 : Nat) + (1 : Nat) ≤ List.length (u8s b), part_ true (isRow (TypeDesc.int IntKind.u8)) (u8s b) (0 + Int.toNat at_ * 1) 1 = u8 (List.getD b (0 + Int.toNat at_ * 1) 0), (0 : Int) ≤ at_ ∧ at_ < (↑(List.length b) : Int), V.ptr 430005 (0 + Int.toNat at_ * 1) = V.ptr 430005 (0 + Int.toNat at_ * 1), (1 : Nat) = (1 : Nat), (0 : Nat) + Int.toNat at_ * (1 : Nat) + (1 : Nat) ≤ List.length (u8s b), putC ((1 : Nat) == (1 : Nat)) (u8s b) ((0 : Nat) + Int.toNat at_ * (1 : Nat)) [u8 (ixor IntKind.u8 (List.getD b ((0 : Nat) + Int.toNat at_ * (1 : Nat)) (0 : Int)) mask)] = u8s x]) [(7, ⟨some (V.ptr 430005 (0 + Int.toNat at_ * 1)), none⟩), (8, ⟨some (u8 (List.getD b (0 + Int.toNat at_ * 1) 0)), none⟩), (11, ⟨some (V.ptr 430005 (0 + Int.toNat at_ * 1)), none⟩), (12, ⟨some (V.agg true (u8s x)), none⟩)] [8] [1000000000, 430005] (by kernel_rfl) ⟨(by omega), rfl, (by (simp [len_u8s]; omega)), (part_u8s (by first | omega | (simp [len_u8s]; done) | (simp [len_u8s]; omega))), (by omega), rfl, (by omega), (by (simp [len_u8s]; omega)), ((set_u8s _ _ _).trans (congrArg u8s wl)), trivial⟩ ?_
  refine xe0 [8] [430005, 1000000000] (by kernel_rfl) ?_
  refine AWP.frz 430005 (s' := St.mk [(8, tp (i64 0))] [(1000000000, Blk.mk [B8 a, V.vs (u8s x) (List.length b), B8 c, V.val (Value.slice none 0 0)] true 4 none)]) (by kernel_rfl) ?_
  refine AWP.ret ?_
  refine ⟨Or.inr rfl, Eq.trans (b := some ([(1000000000, Blk.mk [B8 a, V.vs (u8s x) (List.length b), B8 c, V.val (Value.slice none 0 0)] true 4 none)], i64 0)) (by kernel_rfl) ?_⟩
  first | rfl | (rw [hx])
end Go.Proofs.Ytmeiemdnhjnpcaa
