/- What isn't allowed by the document. -/
import Derived.Test.YtklbonfbiakebaaDoorRg
import Derived.Test.YtklbonfbiakebaaDoorFdiA
namespace Go.Proofs.YtklbonfbiakebaaDoor
open Go.Ab
set_option maxRecDepth 100000
set_option maxHeartbeats 8000000
set_option linter.unusedSimpArgs false
set_option linter.unusedVariables false
theorem con_rallowed_no (inh n : Int) (hi : 0 ≤ inh ∧ inh < 256) (hn : 5 ≤ n) (hn2 : n < 256) : Con Tryd.prog 12 [] [u8 inh, i64 n] [] (vb false) := by
  refine Con.of (C := ⟨Tryd.prog, tc, Tryd.f12.ntmps⟩) [] tcok Tryd.func12 rfl rfl (by kernel_rfl) (by kernel_rfl) ?_
  refine AWP.seq ?_
  refine AWP.regionT tcok hmix [] [0, 1, 4] [] (os := []) (s' := St.mk [(0, tp (u8 inh)), (1, tp (i64 n)), (4, tp (vb false))] []) (by kernel_rfl) trivial ?_
  refine AWP.seq ?_
  refine xe0 [0, 1, 4, 5] [] (by kernel_rfl) ?_
  refine AWP.block ?_
  simp only [dropC]
  refine AWP.loopI [5, 1, 0, 4] [] (fun N s' => ∃ (i h : Int), s' = St.mk [(0, T.plain (u8 h)), (1, T.plain (i64 n)), (4, T.plain (vb false)), (5, T.plain (i64 i))] [] ∧ 0 ≤ i ∧ i ≤ n ∧ (0 ≤ h ∧ h < 256) ∧ (N : Int) = n - i) n.toNat (s0 := St.mk [(0, T.plain (u8 inh)), (1, T.plain (i64 n)), (4, T.plain (vb false)), (5, T.plain (i64 0))] []) (by kernel_rfl) ?_ ?_
  · exact ⟨0, inh, rfl, by omega, by omega, hi, by omega⟩
  rintro N s' ⟨i, h, rfl, hi0, hin, hh, hN⟩
  refine AWP.seq ?_
  refine AWP.seq ?_
  refine AWP.regionT tcok hmix [] [0, 1, 4, 5, 8] [] (os := []) (s' := St.mk [(0, tp (u8 h)), (1, tp (i64 n)), (4, tp (vb false)), (5, tp (i64 i)), (8, tp (vb (decide (i < n))))] []) (by kernel_rfl) trivial ?_
  refine AWP.cond (b := decide (i < n)) (by kernel_rfl) (fun hq0 => ?_) (fun hq0 => ?_)
  · simp only [decide_eq_true_eq] at hq0
    refine AWP.skip ?_
    refine AWP.seq ?_
    refine AWP.block ?_
    refine AWP.region tcok hmix [(1, ⟨some (u8 (h / 2)), none⟩)] (os := [(2 : Int) ≠ (0 : Int), u8 (IntKind.wrap IntKind.u8 (Int.tdiv h 2)) = u8 (h / 2)]) (sf := St.mk [(0, tp (u8 (h / 2))), (1, tp (i64 n)), (4, tp (vb false)), (5, tp (i64 i)), (8, tp (vb (decide (i < n)))), (11, tp (u8 h)), (12, tp (u8 (h / 2)))] []) (by kernel_rfl) ⟨(by omega), (wtd (by omega) (wr_u8 (by omega) (by omega))), trivial⟩ ?_
    refine AWP.keep' [0, 1, 4, 5] [] (sf := St.mk [(0, tp (u8 (h / 2))), (1, tp (i64 n)), (4, tp (vb false)), (5, tp (i64 i))] []) (by kernel_rfl) ?_
    refine AWP.region tcok hmix [(1, ⟨some (i64 (i + 1)), none⟩)] (os := [i64 (IntKind.wrap IntKind.i64 (i + 1)) = i64 (i + 1)]) (sf := St.mk [(0, tp (u8 (h / 2))), (1, tp (i64 n)), (4, tp (vb false)), (5, tp (i64 (i + 1))), (9, tp (i64 i)), (10, tp (i64 (i + 1)))] []) (by kernel_rfl) ⟨(wr_i64 (by omega) (by omega)), trivial⟩ ?_
    refine ⟨St.mk [(0, tp (u8 (h / 2))), (1, tp (i64 n)), (4, tp (vb false)), (5, tp (i64 (i + 1)))] [], by kernel_rfl, ?_⟩
    first | rfl | (rw [show decide (n < 5) = false from decide_eq_false (by omega)]; simp; done) | (exact ⟨(n - (i + 1)).toNat, (by omega), i + 1, h / 2, rfl, (by omega), (by omega), (by omega), (by omega)⟩) | (exfalso; omega) | (exfalso; simp at hq0; done)
  simp only [decide_eq_false_iff_not] at hq0
  refine AWP.exit ?_
  refine AWP.seq ?_
  refine AWP.regionT tcok hmix [(8, ⟨some (u8 (h % 2)), none⟩)] [4] [] (os := [(decide (n ≥ (0 : Int)) && decide (n < (5 : Int))) = true → (2 : Int) ≠ (0 : Int) ∧ u8 (Int.tmod h (2 : Int)) = u8 (h % (2 : Int)) ∧ True]) (s' := St.mk [(4, tp (vb (decide (n ≥ 0) && decide (n < 5) && h % 2 == 0)))] []) (by kernel_rfl) ⟨(by intro hc0; first | (cases hc0; done) | ((try simp only [Bool.or_false, Bool.false_or, Bool.true_and, Bool.and_true, decide_eq_true_eq, decide_eq_false_iff_not, Bool.and_eq_true, Bool.or_eq_true, Bool.or_eq_false_iff, Bool.not_eq_true', Bool.and_eq_false_iff, beq_iff_eq, bne_iff_ne, bne_eq_false_iff_eq, beq_eq_false_iff_ne, Bool.not_eq_false'] at hc0); exact ⟨(by omega), (tm_ (by omega)), trivial⟩)), trivial⟩ ?_
  refine AWP.ret ?_
  refine ⟨Or.inr rfl, Eq.trans (b := some ([], vb (decide (n ≥ 0) && decide (n < 5) && h % 2 == 0))) (by kernel_rfl) ?_⟩
  first | rfl | (rw [show decide (n < 5) = false from decide_eq_false (by omega)]; simp; done) | (exact ⟨(n - (i + 1)).toNat, (by omega), i + 1, h / 2, rfl, (by omega), (by omega), (by omega), (by omega)⟩) | (exfalso; omega) | (exfalso; simp at hq0; done)
end Go.Proofs.YtklbonfbiakebaaDoor
