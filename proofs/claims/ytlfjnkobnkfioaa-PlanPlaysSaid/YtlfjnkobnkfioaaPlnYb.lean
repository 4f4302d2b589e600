/- Lists that are alike. -/
import Derived.Test.YtlfjnkobnkfioaaRg
import Derived.Test.YtlfjnkobnkfioaaPlnYa
namespace Go.Proofs.Ytlfjnkobnkfioaa
open Go.Ab
set_option maxRecDepth 100000
set_option maxHeartbeats 8000000
set_option linter.unusedSimpArgs false
set_option linter.unusedVariables false
theorem con_like_eq (L : List It) (n : Nat) (hn : L.length = n) (hm : n ≤ 1000) (hL : TcOk L) : Con Try.prog 37 [] [.vs (rowsI L) n, .vs (rowsI L) n] [] (vb true) := by
  have hrl := rowsI_len L
  refine Con.of (C := ⟨Try.prog, tc, Try.f37.ntmps⟩) [] tcok Try.func37 rfl rfl (by kernel_rfl) (by kernel_rfl) ?_
  refine AWP.seq ?_
  refine AWP.regionT tcok hmix [] [0, 1, 4] [] (os := []) (s' := St.mk [(0, tp (V.vs (rowsI L) n)), (1, tp (V.vs (rowsI L) n)), (4, tp (vb false))] []) (by kernel_rfl) trivial ?_
  refine AWP.seq ?_
  refine xe0 [0, 1, 4, 11] [] (by kernel_rfl) ?_
  refine AWP.cond (b := (↑n : Int) != (↑n : Int)) (by kernel_rfl) (fun hq0 => ?_) (fun hq0 => ?_)
  · simp only [bne_iff_ne] at hq0
    (exfalso; omega)
  simp only [bne_eq_false_iff_eq] at hq0
  refine AWP.skip ?_
  refine AWP.seq ?_
  refine AWP.seq ?_
  refine AWP.regionT tcok hmix [] [1, 4, 12, 13, 14] [] (os := []) (s' := St.mk [(1, tp (V.vs (rowsI L) n)), (4, tp (vb false)), (12, tp (V.vs (rowsI L) n)), (13, tp (i64 (↑n : Int))), (14, tp (i64 0))] []) (by kernel_rfl) trivial ?_
  refine AWP.block ?_
  refine AWP.loopI [14, 13, 12, 1, 4] [] (fun N s' => ∃ (i : Int), s' = St.mk [(1, T.plain (V.vs (rowsI L) n)), (4, T.plain (vb false)), (12, T.plain (V.vs (rowsI L) n)), (13, T.plain (i64 (n : Int))), (14, T.plain (i64 i))] [] ∧ 0 ≤ i ∧ i ≤ n ∧ (N : Int) = n - i) n (s0 := St.mk [(1, T.plain (V.vs (rowsI L) n)), (4, T.plain (vb false)), (12, T.plain (V.vs (rowsI L) n)), (13, T.plain (i64 (n : Int))), (14, T.plain (i64 0))] []) (by kernel_rfl) ?_ ?_
  · exact ⟨0, rfl, by omega, by omega, by omega⟩
  rintro N s' ⟨i, rfl, hi, hin, hN⟩
  by_cases hlt : i < n
  · obtain ⟨a, ha⟩ : ∃ a, L[i.toNat]? = some a := ⟨_, List.getElem?_eq_getElem (by omega)⟩
    obtain ⟨hc, hk⟩ := hL a (List.mem_of_getElem? ha)
    have hd := rowsI_dr ha
    have c1 := con_samen a.c a.c a.k a.k hc hc (by omega) (by omega) true (decide_eq_true rfl)
    refine AWP.seq ?_
    refine AWP.regionT tcok hmix [] [1, 4, 12, 13, 14, 15] [] (os := []) (s' := St.mk [(1, tp (V.vs (rowsI L) n)), (4, tp (vb false)), (12, tp (V.vs (rowsI L) n)), (13, tp (i64 (↑n : Int))), (14, tp (i64 i)), (15, tp (vb (decide (i < (↑n : Int)))))] []) (by kernel_rfl) trivial ?_
    refine AWP.seq ?_
    refine AWP.cond (b := decide (i < (↑n : Int))) (by kernel_rfl) (fun hq1 => ?_) (fun hq1 => ?_)
    · simp only [decide_eq_true_eq] at hq1
      refine AWP.skip ?_
      refine AWP.seq ?_
      refine AWP.block ?_
      refine AWP.seq ?_
      refine AWP.regionT tcok hmix [(1, ⟨some (V.vp (u32 a.t :: u16 a.id :: V.vs (u8s a.c) a.k :: rowsI (List.drop (Int.toNat i + 1) L))), none⟩)] [1, 4, 5, 6, 12, 13, 14] [6] (os := [(0 : Int) ≤ i ∧ i < (↑n : Int), V.vp (List.drop (Int.toNat i * 3) (rowsI L)) = V.vp (u32 a.t :: u16 a.id :: V.vs (u8s a.c) a.k :: rowsI (List.drop (Int.toNat i + 1) L))]) (s' := St.mk [(1, tp (V.vs (rowsI L) n)), (4, tp (vb false)), (5, tp (i64 i)), (6, tp (V.ptr 6 0)), (12, tp (V.vs (rowsI L) n)), (13, tp (i64 (↑n : Int))), (14, tp (i64 i))] [(6, Blk.mk [u32 a.t, u16 a.id, V.vs (u8s a.c) a.k] true 3 none)]) (by kernel_rfl) ⟨(by omega), (congrArg V.vp hd), trivial⟩ ?_
      refine xe1 (os := [(0 : Int) ≤ i ∧ i < (↑n : Int), V.vp (List.drop (Int.toNat i * 3) (rowsI L)) = V.vp (u32 a.t :: u16 a.id :: V.vs (u8s a.c) a.k :: rowsI (List.drop (Int.toNat i + 1) L)), (a.t != a.t) = false → ((0 : Int) ≤ i ∧ i < (↑n : Int)) ∧ V.vp (List.drop (Int.toNat i * (3 : Nat)) (rowsI L)) = V.vp (u32 a.t :: u16 a.id :: V.vs (u8s a.c) a.k :: rowsI (List.drop (Int.toNat i + (1 : Nat)) L)) ∧ True, (a.t != a.t || a.id != a.id) = false → ((0 : Int) ≤ i ∧ i < (↑n : Int)) ∧ V.vp (List.drop (Int.toNat i * (3 : Nat)) (rowsI L)) = V.vp (u32 a.t :: u16 a.id :: V.vs (u8s a.c) a.k :: rowsI (List.drop (Int.toNat i + (1 : Nat)) L)) ∧ True, (a.t != a.t || a.id != a.id) = false → Con Try.prog (39 : Nat) [] [V.vs (u8s a.c) a.k, V.vs (u8s a.c) a.k] [] (vb true) ∧ True]) [(4, ⟨some (V.vp (u32 a.t :: u16 a.id :: V.vs (u8s a.c) a.k :: rowsI (List.drop (Int.toNat i + 1) L))), none⟩), (13, ⟨some (V.vp (u32 a.t :: u16 a.id :: V.vs (u8s a.c) a.k :: rowsI (List.drop (Int.toNat i + 1) L))), none⟩), (23, ⟨some (V.vp (u32 a.t :: u16 a.id :: V.vs (u8s a.c) a.k :: rowsI (List.drop (Int.toNat i + 1) L))), none⟩), (26, ⟨none, some ⟨vb true, [], []⟩⟩)] [1, 4, 12, 13, 14, 47] [] (by kernel_rfl) ⟨(by omega), (congrArg V.vp hd), (by intro hc0; first | (cases hc0; done) | ((try simp only [Bool.or_false, Bool.false_or, Bool.true_and, Bool.and_true, decide_eq_true_eq, decide_eq_false_iff_not, Bool.and_eq_true, Bool.or_eq_true, Bool.or_eq_false_iff, Bool.not_eq_true', Bool.and_eq_false_iff, beq_iff_eq, bne_iff_ne, bne_eq_false_iff_eq, beq_eq_false_iff_ne, Bool.not_eq_false'] at hc0); exact ⟨(by omega), (congrArg V.vp hd), trivial⟩)), (by intro hc0; first | (cases hc0; done) | ((try simp only [Bool.or_false, Bool.false_or, Bool.true_and, Bool.and_true, decide_eq_true_eq, decide_eq_false_iff_not, Bool.and_eq_true, Bool.or_eq_true, Bool.or_eq_false_iff, Bool.not_eq_true', Bool.and_eq_false_iff, beq_iff_eq, bne_iff_ne, bne_eq_false_iff_eq, beq_eq_false_iff_ne, Bool.not_eq_false'] at hc0); exact ⟨(by omega), (congrArg V.vp hd), trivial⟩)), (fun _ => ⟨(c1 ), trivial⟩), trivial⟩ ?_
      refine AWP.cond (b := a.t != a.t || a.id != a.id || false) (by kernel_rfl) (fun hq2 => ?_) (fun hq2 => ?_)
      · simp only [Bool.or_false, Bool.or_eq_true, bne_iff_ne] at hq2
        (exfalso; omega)
      simp only [Bool.or_false, Bool.or_eq_false_iff, bne_eq_false_iff_eq] at hq2
      refine AWP.skip ?_
      refine AWP.region tcok hmix [(0, ⟨some (i64 (i + 1)), none⟩)] (os := [i64 (IntKind.wrap IntKind.i64 (i + 1)) = i64 (i + 1)]) (sf := St.mk [(1, tp (V.vs (rowsI L) n)), (4, tp (vb false)), (12, tp (V.vs (rowsI L) n)), (13, tp (i64 (↑n : Int))), (14, tp (i64 (i + 1))), (47, tp (vb (a.t != a.t || a.id != a.id || false))), (48, tp (i64 (i + 1)))] []) (by kernel_rfl) ⟨(wr_i64 (by omega) (by omega)), trivial⟩ ?_
      refine ⟨St.mk [(1, tp (V.vs (rowsI L) n)), (4, tp (vb false)), (12, tp (V.vs (rowsI L) n)), (13, tp (i64 (↑n : Int))), (14, tp (i64 (i + 1)))] [], by kernel_rfl, ?_⟩
      first | (exact ⟨(n - (i + 1)).toNat, (by omega), i + 1, rfl, (by omega), (by omega), (by omega)⟩) | (exfalso; simp at hq2; done) | (exfalso; omega)
    simp only [decide_eq_false_iff_not] at hq1
    (exfalso; omega)
  refine AWP.seq ?_
  refine AWP.regionT tcok hmix [] [1, 4, 12, 13, 14, 15] [] (os := []) (s' := St.mk [(1, tp (V.vs (rowsI L) n)), (4, tp (vb false)), (12, tp (V.vs (rowsI L) n)), (13, tp (i64 (↑n : Int))), (14, tp (i64 i)), (15, tp (vb (decide (i < (↑n : Int)))))] []) (by kernel_rfl) trivial ?_
  refine AWP.seq ?_
  refine AWP.cond (b := decide (i < (↑n : Int))) (by kernel_rfl) (fun hq3 => ?_) (fun hq3 => ?_)
  · simp only [decide_eq_true_eq] at hq3
    (exfalso; omega)
  simp only [decide_eq_false_iff_not] at hq3
  refine AWP.exit ?_
  refine AWP.seq ?_
  refine AWP.regionT tcok hmix [] [4] [] (os := []) (s' := St.mk [(4, tp (vb true))] []) (by kernel_rfl) trivial ?_
  refine AWP.ret ?_
  refine ⟨Or.inr rfl, Eq.trans (b := some ([], vb true)) (by kernel_rfl) ?_⟩
  first | rfl | (exfalso; omega)
theorem tcC_dr {R : List It} {i : Nat} {a : It} (h : R[i]? = some a) : List.drop (i * 1) (tcC R) = .vs (u8s a.c) a.k :: tcC (R.drop (i + 1)) := by
  obtain ⟨hi, rfl⟩ := List.getElem?_eq_some_iff.1 h
  unfold tcC
  rw [Nat.mul_one, ← List.map_drop, List.drop_eq_getElem_cons hi]
  rfl
theorem con_same_eq (L : List It) (n : Nat) (hn : L.length = n) (hm : n ≤ 1000) (hL : TcOk L) : Con Try.prog 36 [] [.vs (tcC L) n, .vs (tcC L) n] [] (vb true) := by
  refine Con.of (C := ⟨Try.prog, tc, Try.f36.ntmps⟩) [] tcok Try.func36 rfl rfl (by kernel_rfl) (by kernel_rfl) ?_
  refine AWP.seq ?_
  refine AWP.regionT tcok hmix [] [0, 1, 4] [] (os := []) (s' := St.mk [(0, tp (V.vs (tcC L) n)), (1, tp (V.vs (tcC L) n)), (4, tp (vb false))] []) (by kernel_rfl) trivial ?_
  refine AWP.seq ?_
  refine xe0 [0, 1, 4, 10] [] (by kernel_rfl) ?_
  refine AWP.cond (b := (↑n : Int) != (↑n : Int)) (by kernel_rfl) (fun hq4 => ?_) (fun hq4 => ?_)
  · simp only [bne_iff_ne] at hq4
    (exfalso; omega)
  simp only [bne_eq_false_iff_eq] at hq4
  refine AWP.skip ?_
  refine AWP.seq ?_
  refine AWP.seq ?_
  refine AWP.regionT tcok hmix [] [0, 1, 4, 12, 13] [] (os := []) (s' := St.mk [(0, tp (V.vs (tcC L) n)), (1, tp (V.vs (tcC L) n)), (4, tp (vb false)), (12, tp (i64 (↑n : Int))), (13, tp (i64 0))] []) (by kernel_rfl) trivial ?_
  refine AWP.block ?_
  refine AWP.loopI [13, 12, 0, 1, 4] [] (fun N s' => ∃ (i : Int), s' = St.mk [(0, T.plain (V.vs (tcC L) n)), (1, T.plain (V.vs (tcC L) n)), (4, T.plain (vb false)), (12, T.plain (i64 (n : Int))), (13, T.plain (i64 i))] [] ∧ 0 ≤ i ∧ i ≤ n ∧ (N : Int) = n - i) n (s0 := St.mk [(0, T.plain (V.vs (tcC L) n)), (1, T.plain (V.vs (tcC L) n)), (4, T.plain (vb false)), (12, T.plain (i64 (n : Int))), (13, T.plain (i64 0))] []) (by kernel_rfl) ?_ ?_
  · exact ⟨0, rfl, by omega, by omega, by omega⟩
  rintro N s' ⟨i, rfl, hi, hin, hN⟩
  by_cases hlt : i < n
  · obtain ⟨a, ha⟩ : ∃ a, L[i.toNat]? = some a := ⟨_, List.getElem?_eq_getElem (by omega)⟩
    obtain ⟨hc, hk⟩ := hL a (List.mem_of_getElem? ha)
    have hd := tcC_dr ha
    have c1 := con_samen a.c a.c a.k a.k hc hc (by omega) (by omega) true (decide_eq_true rfl)
    refine AWP.seq ?_
    refine AWP.regionT tcok hmix [] [0, 1, 4, 12, 13, 14] [] (os := []) (s' := St.mk [(0, tp (V.vs (tcC L) n)), (1, tp (V.vs (tcC L) n)), (4, tp (vb false)), (12, tp (i64 (↑n : Int))), (13, tp (i64 i)), (14, tp (vb (decide (i < (↑n : Int)))))] []) (by kernel_rfl) trivial ?_
    refine AWP.seq ?_
    refine AWP.cond (b := decide (i < (↑n : Int))) (by kernel_rfl) (fun hq5 => ?_) (fun hq5 => ?_)
    · simp only [decide_eq_true_eq] at hq5
      refine AWP.skip ?_
      refine AWP.seq ?_
      refine AWP.block ?_
      refine AWP.seq ?_
      refine AWP.regionT tcok hmix [] [0, 1, 4, 5, 12, 13] [] (os := []) (s' := St.mk [(0, tp (V.vs (tcC L) n)), (1, tp (V.vs (tcC L) n)), (4, tp (vb false)), (5, tp (i64 i)), (12, tp (i64 (↑n : Int))), (13, tp (i64 i))] []) (by kernel_rfl) trivial ?_
      refine xe1 (os := [(0 : Int) ≤ i ∧ i < (↑n : Int), V.vp (List.drop (Int.toNat i * 1) (tcC L)) = V.vp (V.vs (u8s a.c) a.k :: tcC (List.drop (Int.toNat i + 1) L)), (0 : Int) ≤ i ∧ i < (↑n : Int), V.vp (List.drop (Int.toNat i * 1) (tcC L)) = V.vp (V.vs (u8s a.c) a.k :: tcC (List.drop (Int.toNat i + 1) L)), Con Try.prog 39 [] [V.vs (u8s a.c) a.k, V.vs (u8s a.c) a.k] [] (vb true)]) [(2, ⟨some (V.vp (V.vs (u8s a.c) a.k :: tcC (List.drop (Int.toNat i + 1) L))), none⟩), (6, ⟨some (V.vp (V.vs (u8s a.c) a.k :: tcC (List.drop (Int.toNat i + 1) L))), none⟩), (8, ⟨none, some ⟨vb true, [], []⟩⟩)] [0, 1, 4, 12, 13, 25] [] (by kernel_rfl) ⟨(by omega), (congrArg V.vp hd), (by omega), (congrArg V.vp hd), (c1 ), trivial⟩ ?_
      refine AWP.condF (by kernel_rfl) ?_
      refine AWP.skip ?_
      refine AWP.region tcok hmix [(0, ⟨some (i64 (i + 1)), none⟩)] (os := [i64 (IntKind.wrap IntKind.i64 (i + 1)) = i64 (i + 1)]) (sf := St.mk [(0, tp (V.vs (tcC L) n)), (1, tp (V.vs (tcC L) n)), (4, tp (vb false)), (12, tp (i64 (↑n : Int))), (13, tp (i64 (i + 1))), (25, tp (vb false)), (26, tp (i64 (i + 1)))] []) (by kernel_rfl) ⟨(wr_i64 (by omega) (by omega)), trivial⟩ ?_
      refine ⟨St.mk [(0, tp (V.vs (tcC L) n)), (1, tp (V.vs (tcC L) n)), (4, tp (vb false)), (12, tp (i64 (↑n : Int))), (13, tp (i64 (i + 1)))] [], by kernel_rfl, ?_⟩
      first | (exact ⟨(n - (i + 1)).toNat, (by omega), i + 1, rfl, (by omega), (by omega), (by omega)⟩) | (exfalso; simp at hq5; done) | (exfalso; omega)
    simp only [decide_eq_false_iff_not] at hq5
    (exfalso; omega)
  refine AWP.seq ?_
  refine AWP.regionT tcok hmix [] [0, 1, 4, 12, 13, 14] [] (os := []) (s' := St.mk [(0, tp (V.vs (tcC L) n)), (1, tp (V.vs (tcC L) n)), (4, tp (vb false)), (12, tp (i64 (↑n : Int))), (13, tp (i64 i)), (14, tp (vb (decide (i < (↑n : Int)))))] []) (by kernel_rfl) trivial ?_
  refine AWP.seq ?_
  refine AWP.cond (b := decide (i < (↑n : Int))) (by kernel_rfl) (fun hq7 => ?_) (fun hq7 => ?_)
  · simp only [decide_eq_true_eq] at hq7
    (exfalso; omega)
  simp only [decide_eq_false_iff_not] at hq7
  refine AWP.exit ?_
  refine AWP.seq ?_
  refine AWP.regionT tcok hmix [] [4] [] (os := []) (s' := St.mk [(4, tp (vb true))] []) (by kernel_rfl) trivial ?_
  refine AWP.ret ?_
  refine ⟨Or.inr rfl, Eq.trans (b := some ([], vb true)) (by kernel_rfl) ?_⟩
  first | rfl | (exfalso; omega)
end Go.Proofs.Ytlfjnkobnkfioaa
