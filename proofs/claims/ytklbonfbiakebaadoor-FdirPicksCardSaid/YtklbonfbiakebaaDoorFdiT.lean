/- Alarms in order; the one that is picked. -/
import Derived.Test.YtklbonfbiakebaaDoorRg
import Derived.Test.YtklbonfbiakebaaDoorFdiR
namespace Go.Proofs.YtklbonfbiakebaaDoor
open Go.Ab
set_option maxRecDepth 100000
set_option maxHeartbeats 8000000
set_option linter.unusedSimpArgs false
set_option linter.unusedVariables false
theorem con_isort0 (L : List V) (n : Nat) (k : Int) (hk : 0 ≤ k ∧ k ≤ 1000) : Con Tryd.prog 60 [(2000000000, ⟨L, true, 0, some (29, 3)⟩)] [.sl 2000000000 0 n, i64 k, i64 k, .val (.func (.func 53) #[] #[])] [(2000000000, ⟨L, true, 0, some (29, 3)⟩)] (.tup []) := by
  refine Con.of (C := ⟨Tryd.prog, tc, Tryd.f60.ntmps⟩) [2000000000] tcok Tryd.func60 rfl rfl (by kernel_rfl) (by kernel_rfl) ?_
  refine AWP.seq ?_
  refine AWP.regionT tcok hmix [(1, ⟨some (i64 (k + 1)), none⟩)] [0, 1, 2, 3, 8] [2000000000] (os := [i64 (IntKind.wrap IntKind.i64 (k + 1)) = i64 (k + 1)]) (s' := St.mk [(0, tp (V.sl 2000000000 0 n)), (1, tp (i64 k)), (2, tp (i64 k)), (3, tp (V.val (Value.func (Fn.func 53) (Array.mk []) (Array.mk [])))), (8, tp (i64 (k + 1)))] [(2000000000, Blk.mk L true 0 (some (29, 3)))]) (by kernel_rfl) ⟨(wr_i64 (by omega) (by omega)), trivial⟩ ?_
  refine AWP.block ?_
  refine AWP.unroll 1 ?_
  refine AWP.seq ?_
  refine xe0 [0, 1, 2, 3, 8, 12, 13, 14] [2000000000] (by kernel_rfl) ?_
  refine AWP.cond (b := decide (k + 1 < k)) (by kernel_rfl) (fun hq0 => ?_) (fun hq0 => ?_)
  · simp only [decide_eq_true_eq] at hq0
    (exfalso; omega)
  simp only [decide_eq_false_iff_not] at hq0
  refine AWP.exit ?_
  refine ⟨Or.inl rfl, Eq.trans (b := some ([(2000000000, Blk.mk L true 0 (some (29, 3)))], V.tup [])) (by kernel_rfl) ?_⟩
  first | rfl | (exfalso; omega)
theorem con_stab (R : List Al) (n : Nat) (hn : R.length = n) (hm : n ≤ 20) (hR : ∀ a ∈ R, 0 ≤ a.lv ∧ a.lv < 5) (K : List Al) (hK : byLev levA R 5 = K) : Con Tryd.prog 58 [(2000000000, ⟨rowsA R, true, 0, some (29, 3)⟩)] [.sl 2000000000 0 n, i64 n, .val (.func (.func 53) #[] #[])] [(2000000000, ⟨rowsA K, true, 0, some (29, 3)⟩)] (.tup []) := by
  have c := con_isort R n hn (by omega) hR K hK
  have c0 := con_isort0 (rowsA K) n 20 (by omega)
  by_cases h : n < 20
  · refine Con.of (C := ⟨Tryd.prog, tc, Tryd.f58.ntmps⟩) [2000000000] tcok Tryd.func58 rfl rfl (by kernel_rfl) (by kernel_rfl) ?_
    refine AWP.seq ?_
    refine AWP.regionT tcok hmix [] [0, 1, 2, 6] [2000000000] (os := []) (s' := St.mk [(0, tp (V.sl 2000000000 0 n)), (1, tp (i64 (↑n : Int))), (2, tp (V.val (Value.func (Fn.func 53) (Array.mk []) (Array.mk [])))), (6, tp (i64 20))] [(2000000000, Blk.mk (rowsA R) true 0 (some (29, 3)))]) (by kernel_rfl) trivial ?_
    refine xe0 [0, 1, 2, 6, 7, 8] [2000000000] (by kernel_rfl) ?_
    refine AWP.seq ?_
    refine AWP.block ?_
    refine AWP.unroll 2 ?_
    refine AWP.seq ?_
    refine xe0 [0, 1, 2, 6, 7, 8, 11, 12, 13] [2000000000] (by kernel_rfl) ?_
    refine AWP.cond (b := decide (20 ≤ (↑n : Int))) (by kernel_rfl) (fun hq1 => ?_) (fun hq1 => ?_)
    · simp only [decide_eq_true_eq] at hq1
      (exfalso; omega)
    simp only [decide_eq_false_iff_not] at hq1
    refine AWP.exit ?_
    refine AWP.seq ?_
    refine AWP.regionT tcok hmix [(4, ⟨some (V.tup [V.sl 2000000000 2000000000 0]), some ⟨V.tup [], [(2000000000, Blk.mk (rowsA K) true 0 (some (29, 3)))], []⟩⟩)] [0, 1, 2, 6, 7, 8] [2000000000] (os := [Con Tryd.prog 60 [(2000000000, Blk.mk (rowsA R) true 0 (some (29, 3)))] [V.sl 2000000000 0 n, i64 0, i64 (↑n : Int), V.val (Value.func (Fn.func 53) (Array.mk []) (Array.mk []))] [(2000000000, Blk.mk (rowsA K) true 0 (some (29, 3)))] (V.tup [])]) (s' := St.mk [(0, tp (V.sl 2000000000 0 n)), (1, tp (i64 (↑n : Int))), (2, tp (V.val (Value.func (Fn.func 53) (Array.mk []) (Array.mk [])))), (6, tp (i64 20)), (7, tp (i64 0)), (8, tp (i64 20))] [(2000000000, Blk.mk (rowsA K) true 0 (some (29, 3)))]) (by kernel_rfl) ⟨(c ), trivial⟩ ?_
    refine AWP.block ?_
    refine AWP.unroll 2 ?_
    refine AWP.seq ?_
    refine xe0 [0, 1, 2, 6, 7, 8, 28, 29, 30] [2000000000] (by kernel_rfl) ?_
    refine AWP.cond (b := decide (20 < (↑n : Int))) (by kernel_rfl) (fun hq2 => ?_) (fun hq2 => ?_)
    · simp only [decide_eq_true_eq] at hq2
      (exfalso; omega)
    simp only [decide_eq_false_iff_not] at hq2
    refine AWP.exit ?_
    refine ⟨Or.inl rfl, Eq.trans (b := some ([(2000000000, Blk.mk (rowsA K) true 0 (some (29, 3)))], V.tup [])) (by kernel_rfl) ?_⟩
    first | rfl | (exfalso; omega)
  · obtain rfl : n = 20 := by omega
    refine Con.of (C := ⟨Tryd.prog, tc, Tryd.f58.ntmps⟩) [2000000000] tcok Tryd.func58 rfl rfl (by kernel_rfl) (by kernel_rfl) ?_
    refine AWP.seq ?_
    refine AWP.regionT tcok hmix [] [0, 1, 2, 6] [2000000000] (os := []) (s' := St.mk [(0, tp (V.sl 2000000000 0 20)), (1, tp (i64 20)), (2, tp (V.val (Value.func (Fn.func 53) (Array.mk []) (Array.mk [])))), (6, tp (i64 20))] [(2000000000, Blk.mk (rowsA R) true 0 (some (29, 3)))]) (by kernel_rfl) trivial ?_
    refine xe0 [0, 1, 2, 6, 7, 8] [2000000000] (by kernel_rfl) ?_
    refine AWP.seq ?_
    refine AWP.block ?_
    refine AWP.unroll 2 ?_
    refine AWP.seq ?_
    refine xe0 [0, 1, 2, 6, 7, 8, 11, 12, 13] [2000000000] (by kernel_rfl) ?_
    refine AWP.condT (by kernel_rfl) ?_
    refine AWP.skip ?_
    refine AWP.block ?_
    refine xe1 (os := [Con Tryd.prog 60 [(2000000000, Blk.mk (rowsA R) true 0 (some (29, 3)))] [V.sl 2000000000 0 20, i64 0, i64 20, V.val (Value.func (Fn.func 53) (Array.mk []) (Array.mk []))] [(2000000000, Blk.mk (rowsA K) true 0 (some (29, 3)))] (V.tup [])]) [(4, ⟨some (V.tup [V.sl 2000000000 2000000000 0]), some ⟨V.tup [], [(2000000000, Blk.mk (rowsA K) true 0 (some (29, 3)))], []⟩⟩)] [0, 1, 2, 6, 7, 8, 11, 12, 13, 14, 15, 16, 17] [2000000000] (by kernel_rfl) ⟨(c ), trivial⟩ ?_
    refine xe0 [0, 1, 2, 6, 7, 8, 11, 12, 13, 14, 15, 16, 17, 19] [2000000000] (by kernel_rfl) ?_
    refine AWP.region tcok hmix [] (os := []) (sf := St.mk [(0, tp (V.sl 2000000000 0 20)), (1, tp (i64 20)), (2, tp (V.val (Value.func (Fn.func 53) (Array.mk []) (Array.mk [])))), (6, tp (i64 20)), (7, tp (i64 20)), (8, tp (i64 40)), (11, tp (i64 20)), (12, tp (i64 20)), (13, tp (vb true)), (14, tp (V.sl 2000000000 0 20)), (15, tp (i64 0)), (16, tp (i64 20)), (17, tp (V.val (Value.func (Fn.func 53) (Array.mk []) (Array.mk [])))), (19, tp (i64 20)), (20, tp (i64 20)), (21, tp (i64 20)), (22, tp (i64 40))] [(2000000000, Blk.mk (rowsA K) true 0 (some (29, 3)))]) (by kernel_rfl) trivial ?_
    refine AWP.seq ?_
    refine xe0 [0, 1, 2, 6, 7, 8, 11, 12, 13, 14, 15, 16, 17, 19, 20, 21, 22] [2000000000] (by kernel_rfl) ?_
    refine AWP.condF (by kernel_rfl) ?_
    refine AWP.exit ?_
    refine xe1 (os := [Con Tryd.prog 60 [(2000000000, Blk.mk (rowsA K) true 0 (some (29, 3)))] [V.sl 2000000000 0 20, i64 20, i64 20, V.val (Value.func (Fn.func 53) (Array.mk []) (Array.mk []))] [(2000000000, Blk.mk (rowsA K) true 0 (some (29, 3)))] (V.tup [])]) [(4, ⟨some (V.tup [V.sl 2000000000 2000000000 0]), some ⟨V.tup [], [(2000000000, Blk.mk (rowsA K) true 0 (some (29, 3)))], []⟩⟩)] [0, 1, 2, 6, 7, 8] [2000000000] (by kernel_rfl) ⟨(c0 ), trivial⟩ ?_
    refine AWP.block ?_
    refine AWP.unroll 2 ?_
    refine AWP.seq ?_
    refine xe0 [0, 1, 2, 6, 7, 8, 28, 29, 30] [2000000000] (by kernel_rfl) ?_
    refine AWP.condF (by kernel_rfl) ?_
    refine AWP.exit ?_
    refine ⟨Or.inl rfl, Eq.trans (b := some ([(2000000000, Blk.mk (rowsA K) true 0 (some (29, 3)))], V.tup [])) (by kernel_rfl) ?_⟩
    first | rfl | (exfalso; omega)
theorem con_sstab (R : List Al) (n : Nat) (hn : R.length = n) (hm : n ≤ 20) (hR : ∀ a ∈ R, 0 ≤ a.lv ∧ a.lv < 5) (K : List Al) (hK : byLev levA R 5 = K) : Con Tryd.prog 52 [(2000000000, ⟨rowsA R, true, 0, some (29, 3)⟩)] [.sl 2000000000 0 n, .val (.func (.func 53) #[] #[])] [(2000000000, ⟨rowsA K, true, 0, some (29, 3)⟩)] (.tup []) := by
  have c := con_stab R n hn hm hR K hK
  refine Con.of (C := ⟨Tryd.prog, tc, Tryd.f52.ntmps⟩) [2000000000] tcok Tryd.func52 rfl rfl (by kernel_rfl) (by kernel_rfl) ?_
  refine AWP.region tcok hmix [(4, ⟨some (V.tup [V.sl 2000000000 2000000000 0]), some ⟨V.tup [], [(2000000000, Blk.mk (rowsA K) true 0 (some (29, 3)))], []⟩⟩)] (os := [Con Tryd.prog 58 [(2000000000, Blk.mk (rowsA R) true 0 (some (29, 3)))] [V.sl 2000000000 0 n, i64 (↑n : Int), V.val (Value.func (Fn.func 53) (Array.mk []) (Array.mk []))] [(2000000000, Blk.mk (rowsA K) true 0 (some (29, 3)))] (V.tup [])]) (sf := St.mk [(0, tp (V.sl 2000000000 0 n)), (1, tp (V.val (Value.func (Fn.func 53) (Array.mk []) (Array.mk [])))), (4, tp (V.sl 2000000000 0 n)), (5, tp (V.sl 2000000000 0 n)), (6, tp (i64 (↑n : Int))), (7, tp (V.val (Value.func (Fn.func 53) (Array.mk []) (Array.mk [])))), (8, tp (V.tup []))] [(2000000000, Blk.mk (rowsA K) true 0 (some (29, 3)))]) (by kernel_rfl) ⟨(c ), trivial⟩ ?_
  refine ⟨Or.inl rfl, Eq.trans (b := some ([(2000000000, Blk.mk (rowsA K) true 0 (some (29, 3)))], V.tup [])) (by kernel_rfl) ?_⟩
  first | rfl | (exfalso; omega)
theorem con_cloneA (R : List Al) (n : Nat) (hn : R.length = n) (hm : n ≤ 20) (hpos : 0 < n) : Con Tryd.prog 50 [] [.vs (rowsA R) n] [(5, ⟨rowsA R, true, 0, some (29, 3)⟩)] (.sl 5 0 n) := by
  have hrl := rowsA_len R
  have htk : List.take (n * 3) (rowsA R) = rowsA R := by rw [← hn, ← hrl, List.take_length]
  refine Con.of (C := ⟨Tryd.prog, tc, Tryd.f50.ntmps⟩) [5] tcok Tryd.func50 rfl rfl (by kernel_rfl) (by kernel_rfl) ?_
  refine AWP.seq ?_
  refine AWP.regionT tcok hmix [] [0, 2] [2] (os := []) (s' := St.mk [(0, tp (V.vs (rowsA R) n)), (2, tp (V.sl 2 0 0))] [(2, Blk.mk [] true 0 (some (29, 3)))]) (by kernel_rfl) trivial ?_
  refine AWP.seq ?_
  refine xe1 (os := [(0 : Nat) < n, vb false = vb false]) [(1, ⟨some (vb false), none⟩)] [0, 2, 4] [2] (by kernel_rfl) ⟨(by omega), rfl, trivial⟩ ?_
  refine AWP.condF (by kernel_rfl) ?_
  refine AWP.skip ?_
  refine AWP.seq ?_
  refine AWP.keep' [0] [] (sf := St.mk [(0, tp (V.vs (rowsA R) n))] []) (by kernel_rfl) ?_
  refine xg1 (os := [n * (3 : Nat) ≤ List.length (rowsA R), (0 : Nat) = (0 : Nat), (0 : Nat) + n ≤ (9223372036854775807 : Nat), ((0 : Nat) + n) * (24 : Nat) ≤ (140737488355328 : Nat), [] ++ List.take (n * (3 : Nat)) (rowsA R) = List.take (n * (3 : Nat)) (rowsA R), (0 : Nat) + n = (0 : Nat) + n]) [(2, ⟨some (V.tup [V.agg true (List.take (n * 3) (rowsA R)), V.sl 0 0 (0 + n)]), none⟩)] [2] [5] (by kernel_rfl) ⟨(by first | omega | (simp [len_u8s]; done) | (simp [len_u8s]; omega)), (by omega), (by omega), (by omega), (by first | rfl | (show u8s ([]) ++ _ = _; simp only [u8s_drop, u8s_take, List.drop_zero, Nat.mul_one, Nat.one_mul, u8s_app, List.take_length, List.nil_append, List.append_nil]; done) | (simp [u8s]; done) | (simp [u8s]; omega)), (by omega), trivial⟩ ?_
  refine AWP.ret ?_
  refine ⟨Or.inr rfl, Eq.trans (b := some ([(5, Blk.mk (List.take (n * 3) (rowsA R)) true 0 (some (29, 3)))], V.sl 5 0 (0 + n))) (by kernel_rfl) ?_⟩
  first | (rw [htk, Nat.zero_add]) | (exfalso; omega)
theorem con_cloneA0 : Con Tryd.prog 50 [] [.vs [] 0] [] (.vs [] 0) := by
  refine Con.of (C := ⟨Tryd.prog, tc, Tryd.f50.ntmps⟩) [1000000000] tcok Tryd.func50 rfl rfl (by kernel_rfl) (by kernel_rfl) ?_
  refine AWP.seq ?_
  refine AWP.regionT tcok hmix [] [0, 2] [2] (os := []) (s' := St.mk [(0, tp (V.vs [] 0)), (2, tp (V.sl 2 0 0))] [(2, Blk.mk [] true 0 (some (29, 3)))]) (by kernel_rfl) trivial ?_
  refine AWP.seq ?_
  refine xe0 [0, 2, 4] [2] (by kernel_rfl) ?_
  refine AWP.condB (by kernel_rfl) ?_ ?_
  · refine AWP.seq ?_
    refine AWP.keep' [0] [] (sf := St.mk [(0, tp (V.vs [] 0))] []) (by kernel_rfl) ?_
    refine AWP.regionT tcok hmix [] [0, 2] [2] (os := []) (s' := St.mk [(0, tp (V.vs [] 0)), (2, tp (V.sl 2 0 0))] [(2, Blk.mk [] true 0 (some (29, 3)))]) (by kernel_rfl) trivial ?_
    refine AWP.frz 2 (s' := St.mk [(0, tp (V.vs [] 0)), (2, tp (V.vs [] 0))] []) (by kernel_rfl) ?_
    refine AWP.ret ?_
    refine ⟨Or.inr rfl, Eq.trans (b := some ([], V.vs [] 0)) (by kernel_rfl) ?_⟩
    first | rfl | (exfalso; omega)
  refine AWP.skip ?_
  refine AWP.seq ?_
  refine AWP.keep' [0] [] (sf := St.mk [(0, tp (V.vs [] 0))] []) (by kernel_rfl) ?_
  refine AWP.regionT tcok hmix [] [2] [5] (os := []) (s' := St.mk [(2, tp (V.sl 5 0 0))] [(5, Blk.mk [] true 0 (some (29, 3)))]) (by kernel_rfl) trivial ?_
  refine AWP.frz 5 (s' := St.mk [(2, tp (V.vs [] 0))] []) (by kernel_rfl) ?_
  refine AWP.ret ?_
  refine ⟨Or.inr rfl, Eq.trans (b := some ([], V.vs [] 0)) (by kernel_rfl) ?_⟩
  first | rfl | (exfalso; omega)
theorem con_dele0 : Con Tryd.prog 49 [] [.vs [] 0, .val (.func (.func 51) #[] #[])] [] (.vs [] 0) := by
  have c := con_idx [] 0 rfl (by omega) (-1) (by simp)
  unfold rowsA at c
  refine Con.of (C := ⟨Tryd.prog, tc, Tryd.f49.ntmps⟩) [] tcok Tryd.func49 rfl rfl (by kernel_rfl) (by kernel_rfl) ?_
  refine AWP.seq ?_
  refine AWP.regionT tcok hmix [] [0, 1, 4] [4] (os := []) (s' := St.mk [(0, tp (V.vs [] 0)), (1, tp (V.val (Value.func (Fn.func 51) (Array.mk []) (Array.mk [])))), (4, tp (V.sl 4 0 0))] [(4, Blk.mk [] true 0 (some (29, 3)))]) (by kernel_rfl) trivial ?_
  refine xe1 (os := [Con Tryd.prog 57 [] [V.vs [] 0, V.val (Value.func (Fn.func 51) (Array.mk []) (Array.mk []))] [] (i64 (-1))]) [(2, ⟨none, some ⟨i64 (-1), [], []⟩⟩)] [0, 1, 4, 5] [4] (by kernel_rfl) ⟨(c ), trivial⟩ ?_
  refine AWP.seq ?_
  refine xe0 [0, 1, 4, 5, 12] [4] (by kernel_rfl) ?_
  refine AWP.condT (by kernel_rfl) ?_
  refine AWP.seq ?_
  refine AWP.keep' [0, 1, 5] [] (sf := St.mk [(0, tp (V.vs [] 0)), (1, tp (V.val (Value.func (Fn.func 51) (Array.mk []) (Array.mk [])))), (5, tp (i64 (-1)))] []) (by kernel_rfl) ?_
  refine xg0 [0, 1, 4, 5] [] (by kernel_rfl) ?_
  refine AWP.ret ?_
  refine ⟨Or.inr rfl, Eq.trans (b := some ([], V.vs [] 0)) (by kernel_rfl) ?_⟩
  first | rfl | (exfalso; omega)
theorem con_isort00 (k : Int) (hk : 0 ≤ k ∧ k ≤ 1000) : Con Tryd.prog 60 [] [.vs [] 0, i64 k, i64 k, .val (.func (.func 53) #[] #[])] [] (.tup []) := by
  refine Con.of (C := ⟨Tryd.prog, tc, Tryd.f60.ntmps⟩) [] tcok Tryd.func60 rfl rfl (by kernel_rfl) (by kernel_rfl) ?_
  refine AWP.seq ?_
  refine AWP.regionT tcok hmix [(1, ⟨some (i64 (k + 1)), none⟩)] [0, 1, 2, 3, 8] [] (os := [i64 (IntKind.wrap IntKind.i64 (k + 1)) = i64 (k + 1)]) (s' := St.mk [(0, tp (V.vs [] 0)), (1, tp (i64 k)), (2, tp (i64 k)), (3, tp (V.val (Value.func (Fn.func 53) (Array.mk []) (Array.mk [])))), (8, tp (i64 (k + 1)))] []) (by kernel_rfl) ⟨(wr_i64 (by omega) (by omega)), trivial⟩ ?_
  refine AWP.block ?_
  refine AWP.unroll 1 ?_
  refine AWP.seq ?_
  refine xe0 [0, 1, 2, 3, 8, 12, 13, 14] [] (by kernel_rfl) ?_
  refine AWP.cond (b := decide (k + 1 < k)) (by kernel_rfl) (fun hq8 => ?_) (fun hq8 => ?_)
  · simp only [decide_eq_true_eq] at hq8
    (exfalso; omega)
  simp only [decide_eq_false_iff_not] at hq8
  refine AWP.exit ?_
  refine ⟨Or.inl rfl, Eq.trans (b := some ([], V.tup [])) (by kernel_rfl) ?_⟩
  first | rfl | (exfalso; omega)
theorem con_stab0 : Con Tryd.prog 58 [] [.vs [] 0, i64 0, .val (.func (.func 53) #[] #[])] [] (.tup []) := by
  have c := con_isort00 0 (by omega)
  refine Con.of (C := ⟨Tryd.prog, tc, Tryd.f58.ntmps⟩) [] tcok Tryd.func58 rfl rfl (by kernel_rfl) (by kernel_rfl) ?_
  refine AWP.seq ?_
  refine AWP.regionT tcok hmix [] [0, 1, 2, 6] [] (os := []) (s' := St.mk [(0, tp (V.vs [] 0)), (1, tp (i64 0)), (2, tp (V.val (Value.func (Fn.func 53) (Array.mk []) (Array.mk [])))), (6, tp (i64 20))] []) (by kernel_rfl) trivial ?_
  refine xe0 [0, 1, 2, 6, 7, 8] [] (by kernel_rfl) ?_
  refine AWP.seq ?_
  refine AWP.block ?_
  refine AWP.unroll 2 ?_
  refine AWP.seq ?_
  refine xe0 [0, 1, 2, 6, 7, 8, 11, 12, 13] [] (by kernel_rfl) ?_
  refine AWP.condF (by kernel_rfl) ?_
  refine AWP.exit ?_
  refine xe1 (os := [Con Tryd.prog 60 [] [V.vs [] 0, i64 0, i64 0, V.val (Value.func (Fn.func 53) (Array.mk []) (Array.mk []))] [] (V.tup [])]) [(4, ⟨some (V.tup []), some ⟨V.tup [], [], []⟩⟩)] [0, 1, 2, 6, 7, 8] [] (by kernel_rfl) ⟨(c ), trivial⟩ ?_
  refine AWP.block ?_
  refine AWP.unroll 2 ?_
  refine AWP.seq ?_
  refine xe0 [0, 1, 2, 6, 7, 8, 28, 29, 30] [] (by kernel_rfl) ?_
  refine AWP.condF (by kernel_rfl) ?_
  refine AWP.exit ?_
  refine ⟨Or.inl rfl, Eq.trans (b := some ([], V.tup [])) (by kernel_rfl) ?_⟩
  first | rfl | (exfalso; omega)
theorem con_sstab0 : Con Tryd.prog 52 [] [.vs [] 0, .val (.func (.func 53) #[] #[])] [] (.tup []) := by
  refine Con.of (C := ⟨Tryd.prog, tc, Tryd.f52.ntmps⟩) [] tcok Tryd.func52 rfl rfl (by kernel_rfl) (by kernel_rfl) ?_
  refine AWP.region tcok hmix [(4, ⟨some (V.tup []), some ⟨V.tup [], [], []⟩⟩)] (os := [Con Tryd.prog 58 [] [V.vs [] 0, i64 0, V.val (Value.func (Fn.func 53) (Array.mk []) (Array.mk []))] [] (V.tup [])]) (sf := St.mk [(0, tp (V.vs [] 0)), (1, tp (V.val (Value.func (Fn.func 53) (Array.mk []) (Array.mk [])))), (4, tp (V.vs [] 0)), (5, tp (V.vs [] 0)), (6, tp (i64 0)), (7, tp (V.val (Value.func (Fn.func 53) (Array.mk []) (Array.mk [])))), (8, tp (V.tup []))] []) (by kernel_rfl) ⟨(con_stab0 ), trivial⟩ ?_
  refine ⟨Or.inl rfl, Eq.trans (b := some ([], V.tup [])) (by kernel_rfl) ?_⟩
  first | rfl | (exfalso; omega)
theorem con_order0 : Con Tryd.prog 36 [] [.vs [] 0] [] (.vs [] 0) := by
  refine Con.of (C := ⟨Tryd.prog, tc, Tryd.f36.ntmps⟩) [] tcok Tryd.func36 rfl rfl (by kernel_rfl) (by kernel_rfl) ?_
  refine AWP.seq ?_
  refine AWP.regionT tcok hmix [] [0, 2] [2] (os := []) (s' := St.mk [(0, tp (V.vs [] 0)), (2, tp (V.sl 2 0 0))] [(2, Blk.mk [] true 0 (some (29, 3)))]) (by kernel_rfl) trivial ?_
  refine xe1 [(1, ⟨none, some ⟨V.vs [] 0, [], []⟩⟩), (2, ⟨some (V.tup []), some ⟨V.vs [] 0, [], []⟩⟩)] [2, 3] [2] (by kernel_rfl) (AllP.c (con_cloneA0 ) (AllP.c (con_dele0 ) AllP.n)) ?_
  refine xe1 [(1, ⟨some (V.tup []), some ⟨V.tup [], [], []⟩⟩)] [2, 3] [2] (by kernel_rfl) (AllP.c (con_sstab0 ) AllP.n) ?_
  refine AWP.seq ?_
  refine AWP.keep' [3] [] (sf := St.mk [(3, tp (V.vs [] 0))] []) (by kernel_rfl) ?_
  refine xg0 [2] [] (by kernel_rfl) ?_
  refine AWP.ret ?_
  refine ⟨Or.inr rfl, Eq.trans (b := some ([], V.vs [] 0)) (by kernel_rfl) ?_⟩
  first | rfl | (exfalso; omega)
/-- The document's order. -/
def ordA (R : List Al) : List Al := byLev levA (R.filter fun a => a.ok) 5
theorem ok_lev {a : Al} (h : a.ok = true) (h0 : 0 ≤ a.lv) : 0 ≤ a.lv ∧ a.lv < 5 := by
  unfold Al.ok aright at h
  simp at h
  omega
theorem con_order (R : List Al) (n : Nat) (hn : R.length = n) (hm : n ≤ 20) (hpos : 0 < n) (hR : ∀ a ∈ R, 0 ≤ a.lv) (K : List Al) (hK : ordA R = K) (k : Nat) (hk : K.length = k) : Con Tryd.prog 36 [] [.vs (rowsA R) n] [(60005, ⟨rowsA K, true, 0, some (29, 3)⟩)] (.sl 60005 0 k) := by
  have hF : ∀ a ∈ R.filter (fun a => a.ok), 0 ≤ a.lv ∧ a.lv < 5 := fun a h => ok_lev (by simpa using (List.mem_filter.1 h).2) (hR a (List.mem_filter.1 h).1)
  have hl : (R.filter fun a => a.ok).length = k := by
    rw [← hk, ← hK]
    exact (byLev_len _ _ (fun a h => by have := hF a h; unfold levA; omega)).symm
  have hfl := List.length_filter_le (fun a : Al => a.ok) R
  have c1 := con_cloneA R n hn hm hpos
  have c2 := con_dele R n hn (by omega) _ rfl k hl
  have c3 := con_sstab (R.filter fun a => a.ok) k hl (by omega) hF K hK
  refine Con.of (C := ⟨Tryd.prog, tc, Tryd.f36.ntmps⟩) [60005] tcok Tryd.func36 rfl rfl (by kernel_rfl) (by kernel_rfl) ?_
  refine AWP.seq ?_
  refine AWP.regionT tcok hmix [] [0, 2] [2] (os := []) (s' := St.mk [(0, tp (V.vs (rowsA R) n)), (2, tp (V.sl 2 0 0))] [(2, Blk.mk [] true 0 (some (29, 3)))]) (by kernel_rfl) trivial ?_
  refine xe1 (os := [Con Tryd.prog 50 [] [V.vs (rowsA R) n] [(5, Blk.mk (rowsA R) true 0 (some (29, 3)))] (V.sl 5 0 n), Con Tryd.prog 49 [(1000000000, Blk.mk (rowsA R) true 0 (some (29, 3)))] [V.sl 1000000000 0 n, V.val (Value.func (Fn.func 51) (Array.mk []) (Array.mk []))] [(1000000000, Blk.mk (rowsA (List.filter (fun a => Al.ok a) R)) true 0 (some (29, 3)))] (V.sl 1000000000 0 k)]) [(1, ⟨none, some ⟨V.sl 5 0 n, [(5, Blk.mk (rowsA R) true 0 (some (29, 3)))], []⟩⟩), (2, ⟨some (V.tup [V.sl 1000000000 60005 0]), some ⟨V.sl 1000000000 0 k, [(1000000000, Blk.mk (rowsA (List.filter (fun a => Al.ok a) R)) true 0 (some (29, 3)))], []⟩⟩)] [2, 3] [2, 60005] (by kernel_rfl) ⟨(c1 ), (c2 ), trivial⟩ ?_
  refine xe1 (os := [Con Tryd.prog 52 [(2000000000, Blk.mk (rowsA (List.filter (fun a => Al.ok a) R)) true 0 (some (29, 3)))] [V.sl 2000000000 0 k, V.val (Value.func (Fn.func 53) (Array.mk []) (Array.mk []))] [(2000000000, Blk.mk (rowsA K) true 0 (some (29, 3)))] (V.tup [])]) [(1, ⟨some (V.tup [V.sl 2000000000 60005 0]), some ⟨V.tup [], [(2000000000, Blk.mk (rowsA K) true 0 (some (29, 3)))], []⟩⟩)] [2, 3] [2, 60005] (by kernel_rfl) ⟨(c3 ), trivial⟩ ?_
  refine AWP.seq ?_
  refine AWP.keep' [3] [60005] (sf := St.mk [(3, tp (V.sl 60005 0 k))] [(60005, Blk.mk (rowsA K) true 0 (some (29, 3)))]) (by kernel_rfl) ?_
  refine xg0 [2] [60005] (by kernel_rfl) ?_
  refine AWP.ret ?_
  refine ⟨Or.inr rfl, Eq.trans (b := some ([(60005, Blk.mk (rowsA K) true 0 (some (29, 3)))], V.sl 60005 0 k)) (by kernel_rfl) ?_⟩
  first | rfl | (exfalso; omega)
end Go.Proofs.YtklbonfbiakebaaDoor
