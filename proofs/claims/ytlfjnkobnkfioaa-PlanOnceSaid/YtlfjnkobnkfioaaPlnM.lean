/- A plan: all items, those of some times; a new plan; nothing planned any more. -/
import Derived.Test.YtlfjnkobnkfioaaRg
import Derived.Test.YtlfjnkobnkfioaaPlnL
namespace Go.Proofs.Ytlfjnkobnkfioaa
open Go.Ab
set_option maxRecDepth 100000
set_option maxHeartbeats 8000000
set_option linter.unusedSimpArgs false
set_option linter.unusedVariables false
theorem con_pnew : Con Try.prog 23 [] [] [(1, ⟨[], true, 0, some (0, 0)⟩), (2, ⟨[], true, 0, some (79, 3)⟩), (3, ⟨[.sl 2 0 0, .mp 1, vb false], false, 3, none⟩)] (.ptr 3 0) := by
  refine Con.of (C := ⟨Try.prog, tc, Try.f23.ntmps⟩) [1, 2, 3] tcok Try.func23 rfl rfl (by kernel_rfl) (by kernel_rfl) ?_
  refine xe0 [0] [] (by kernel_rfl) ?_
  refine xe0 [0] [3, 1] (by kernel_rfl) ?_
  refine AWP.nb 3 0 2 79 3 (s' := St.mk [(0, T.plain (V.ptr 3 0))] [(1, Blk.mk [] true 0 (some (0, 0))), (2, Blk.mk [] true 0 (some (79, 3))), (3, Blk.mk [V.sl 2 0 0, V.mp 1, vb false] false 3 none)]) (by kernel_rfl) ?_
  refine AWP.ret ?_
  refine ⟨Or.inr rfl, Eq.trans (b := some ([(1, Blk.mk [] true 0 (some (0, 0))), (2, Blk.mk [] true 0 (some (79, 3))), (3, Blk.mk [V.sl 2 0 0, V.mp 1, vb false] false 3 none)], V.ptr 3 0)) (by kernel_rfl) ?_⟩
  first | rfl | (exfalso; omega)
end Go.Proofs.Ytlfjnkobnkfioaa
