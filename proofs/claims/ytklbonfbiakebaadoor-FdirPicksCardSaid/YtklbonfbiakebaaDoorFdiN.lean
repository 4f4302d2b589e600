/- The levels' names. -/
import Derived.Test.YtklbonfbiakebaaDoorRg
import Derived.Test.YtklbonfbiakebaaDoorFdiA
namespace Go.Proofs.YtklbonfbiakebaaDoor
open Go.Ab
set_option maxRecDepth 100000
set_option maxHeartbeats 8000000
set_option linter.unusedSimpArgs false
set_option linter.unusedVariables false
theorem con_nm0 : Con Tryd.prog 41 [] [u8 0] [] (.val (.string ⟨#[117, 110, 105, 116]⟩)) := run_con tcok (by kernel_rfl) 400 8 (by kernel_rfl)
theorem con_nm1 : Con Tryd.prog 41 [] [u8 1] [] (.val (.string ⟨#[102, 117, 110, 99, 116, 105, 111, 110]⟩)) := run_con tcok (by kernel_rfl) 400 8 (by kernel_rfl)
theorem con_nm2 : Con Tryd.prog 41 [] [u8 2] [] (.val (.string ⟨#[115, 121, 115, 116, 101, 109]⟩)) := run_con tcok (by kernel_rfl) 400 8 (by kernel_rfl)
theorem con_nm3 : Con Tryd.prog 41 [] [u8 3] [] (.val (.string ⟨#[119, 97, 116, 99, 104, 100, 111, 103]⟩)) := run_con tcok (by kernel_rfl) 400 8 (by kernel_rfl)
theorem con_nm4 : Con Tryd.prog 41 [] [u8 4] [] (.val (.string ⟨#[97, 108, 97, 114, 109]⟩)) := run_con tcok (by kernel_rfl) 400 8 (by kernel_rfl)
theorem con_nm5 (x : Int) (h : 5 ≤ x) : Con Tryd.prog 41 [] [u8 x] [] (.val (.string ⟨#[]⟩)) := by
  refine Con.of (C := ⟨Tryd.prog, tc, Tryd.f41.ntmps⟩) [] tcok Tryd.func41 rfl rfl (by kernel_rfl) (by kernel_rfl) ?_
  refine AWP.seq ?_
  refine AWP.regionT tcok hmix [] [0, 2] [] (os := []) (s' := St.mk [(0, tp (u8 x)), (2, tp (V.val (Value.string (ByteArray.mk #[]))))] []) (by kernel_rfl) trivial ?_
  refine AWP.seq ?_
  refine xe0 [0, 2, 4] [] (by kernel_rfl) ?_
  refine AWP.cond (b := decide (x ≥ 5)) (by kernel_rfl) (fun hq0 => ?_) (fun hq0 => ?_)
  · simp only [decide_eq_true_eq] at hq0
    refine AWP.seq ?_
    refine AWP.regionT tcok hmix [] [0, 2] [] (os := []) (s' := St.mk [(0, tp (u8 x)), (2, tp (V.val (Value.string (ByteArray.mk #[]))))] []) (by kernel_rfl) trivial ?_
    refine AWP.ret ?_
    refine ⟨Or.inr rfl, Eq.trans (b := some ([], V.val (Value.string (ByteArray.mk #[])))) (by kernel_rfl) ?_⟩
    first | rfl | (exfalso; omega)
  simp only [decide_eq_false_iff_not] at hq0
  (exfalso; omega)
end Go.Proofs.YtklbonfbiakebaaDoor
