/- Chapter 04: the document's example; BitsChanges. -/
import Derived.Test.YtmeiemdnhjnpcaaDoorRg
import Derived.Test.YtmeiemdnhjnpcaaDoorBitK
namespace Go.Proofs.YtmeiemdnhjnpcaaDoor
open Go.Ab
set_option linter.unusedSimpArgs false
set_option linter.unusedVariables false
set_option maxHeartbeats 4000000
set_option maxRecDepth 100000
theorem con_of (xs : List V) (n : Nat) (hx : I64L xs) (hn : xs.length = n) (hlen : n ≤ 9223372036854775807) : Con Tryd.prog 14 [] [.vs xs n] [] (u16 (wth 0 xs)) := by
  have c := con_with 0 xs n hx hn hlen
  refine Con.of (C := ⟨Tryd.prog, tc, Tryd.f14.ntmps⟩) [] tcok Tryd.func14 rfl rfl (by kernel_rfl) (by kernel_rfl) ?_
  refine xe0 [0, 2] [] (by kernel_rfl) ?_
  refine xe1 (os := [Con Tryd.prog 10 [] [u16 0, V.vs xs n] [] (u16 (wth 0 xs))]) [(1, ⟨none, some ⟨u16 (wth 0 xs), [], []⟩⟩)] [2] [] (by kernel_rfl) ⟨(c ), trivial⟩ ?_
  refine AWP.ret ?_
  refine ⟨Or.inr rfl, Eq.trans (b := some ([], u16 (wth 0 xs))) (by kernel_rfl) ?_⟩
  rfl
theorem con_without (s : Int) (xs : List V) (n : Nat) (hx : I64L xs) (hn : xs.length = n) (hlen : n ≤ 9223372036854775807) : Con Tryd.prog 13 [] [u16 s, .vs xs n] [] (u16 (iandNot .u16 s (wth 0 xs))) := by
  have c := con_of xs n hx hn hlen
  have c2 := con_less s (wth 0 xs)
  refine Con.of (C := ⟨Tryd.prog, tc, Tryd.f13.ntmps⟩) [] tcok Tryd.func13 rfl rfl (by kernel_rfl) (by kernel_rfl) ?_
  refine xe0 [0, 1, 4] [] (by kernel_rfl) ?_
  refine xe1 (os := [Con Tryd.prog 14 [] [V.vs xs n] [] (u16 (wth 0 xs)), Con Tryd.prog 24 [] [u16 s, u16 (wth 0 xs)] [] (u16 (iandNot IntKind.u16 s (wth 0 xs)))]) [(2, ⟨none, some ⟨u16 (wth 0 xs), [], []⟩⟩), (3, ⟨none, some ⟨u16 (iandNot IntKind.u16 s (wth 0 xs)), [], []⟩⟩)] [4] [] (by kernel_rfl) ⟨(c ), (c2 ), trivial⟩ ?_
  refine AWP.ret ?_
  refine ⟨Or.inr rfl, Eq.trans (b := some ([], u16 (iandNot IntKind.u16 s (wth 0 xs)))) (by kernel_rfl) ?_⟩
  rfl
theorem i64l3 : I64L [i64 3, i64 1, i64 99] := fun x hx => by
  simp only [List.mem_cons, List.not_mem_nil, or_false] at hx
  rcases hx with rfl | rfl | rfl
  · exact ⟨3, rfl, by omega, by omega⟩
  · exact ⟨1, rfl, by omega, by omega⟩
  · exact ⟨99, rfl, by omega, by omega⟩
theorem i64l1 : I64L [i64 2] := fun x hx => by
  simp only [List.mem_cons, List.not_mem_nil, or_false] at hx
  subst hx
  exact ⟨2, rfl, by omega, by omega⟩
theorem con_awake04 : Con Tryd.prog 7 [] [] [] (vb true) := by
  have c1 := con_of [i64 3, i64 1, i64 99] 3 i64l3 rfl (by omega)
  rw [wth_awake] at c1
  have c2 := con_of [i64 2] 1 i64l1 rfl (by omega)
  rw [wth_awake2] at c2
  have c3 := con_text 10 (by omega)
  rw [txt_awake] at c3
  have c4 := con_has 4 2
  rw [has_awake] at c4
  refine Con.of (C := ⟨Tryd.prog, tc, Tryd.f7.ntmps⟩) [] tcok Tryd.func7 rfl rfl (by kernel_rfl) (by kernel_rfl) ?_
  refine xe0 [0] [] (by kernel_rfl) ?_
  refine xe1 (os := [VO (u16 (10 : Int)), VOH [], Con Tryd.prog 14 [] [V.vs [i64 3, i64 1, i64 99] 3] [] (u16 10), (0 : Nat) = (0 : Nat), (3 : Nat) = (3 : Nat), Con Tryd.prog 18 [] [u16 10] [] (V.val (Value.string (ByteArray.mk #[49, 32, 51]))), true = true → VO (u16 (4 : Int)) ∧ VOH [] ∧ Con Tryd.prog (14 : Nat) [] [V.vs [i64 (2 : Int)] (1 : Nat)] [] (u16 (4 : Int)) ∧ (0 : Nat) = (0 : Nat) ∧ (1 : Nat) = (1 : Nat) ∧ True, true = true → Con Tryd.prog (11 : Nat) [] [u16 (4 : Int), i64 (2 : Int)] [] (vb true) ∧ True]) [(1, ⟨none, some ⟨u16 10, [], [(1, true)]⟩⟩), (2, ⟨none, some ⟨V.val (Value.string (ByteArray.mk #[49, 32, 51])), [], []⟩⟩), (6, ⟨none, some ⟨u16 4, [], [(6, true)]⟩⟩), (7, ⟨none, some ⟨vb true, [], []⟩⟩)] [0] [] (by kernel_rfl) ⟨(VO.val _), trivial, (c1 ), (by omega), (by omega), (c3 ), (by intro hc0; first | (cases hc0; done) | ((try simp only [Bool.or_false, Bool.false_or, Bool.true_and, Bool.and_true, decide_eq_true_eq, decide_eq_false_iff_not, Bool.and_eq_true, Bool.or_eq_true, Bool.or_eq_false_iff, Bool.not_eq_true', Bool.and_eq_false_iff, beq_iff_eq, bne_iff_ne, bne_eq_false_iff_eq, beq_eq_false_iff_ne, Bool.not_eq_false'] at hc0); exact ⟨(VO.val _), trivial, (c2 ), (by omega), (by omega), trivial⟩)), (fun _ => ⟨(c4 ), trivial⟩), trivial⟩ ?_
  refine AWP.ret ?_
  refine ⟨Or.inr rfl, Eq.trans (b := some ([], vb true)) (by kernel_rfl) ?_⟩
  rfl
end Go.Proofs.YtmeiemdnhjnpcaaDoor
