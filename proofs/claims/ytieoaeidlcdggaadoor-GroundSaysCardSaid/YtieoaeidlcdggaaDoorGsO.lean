/- The document's example. -/
import Derived.Test.YtieoaeidlcdggaaDoorRg
import Derived.Test.YtieoaeidlcdggaaDoorGsN
import Derived.Test.YtieoaeidlcdggaaDoorGyA
namespace Go.Proofs.YtieoaeidlcdggaaDoor
open Go Go.Ab
set_option linter.unusedSimpArgs false
set_option linter.unusedVariables false
set_option maxRecDepth 100000
def sRef : ByteArray := ⟨#[114, 101, 102, 117, 115, 101, 100]⟩
theorem con_outcome : Con Tryd.prog 30 [] [u8 2] [] (strV sRef) := by
  refine Con.of (C := ⟨Tryd.prog, tc, Tryd.f30.ntmps⟩) [] tcok Tryd.func30 rfl rfl (by kernel_rfl) (by kernel_rfl) ?_
  refine AWP.seq ?_
  refine AWP.regionT tcok hmix [] [0, 2] [] (os := []) (s' := St.mk [(0, tp (u8 2)), (2, tp (V.val (Value.string (ByteArray.mk #[]))))] []) (by kernel_rfl) trivial ?_
  refine AWP.seq ?_
  refine xe0 [2, 3] [] (by kernel_rfl) ?_
  refine AWP.block ?_
  refine xe0 [2, 3, 4] [] (by kernel_rfl) ?_
  refine AWP.condF (by kernel_rfl) ?_
  refine xe0 [2, 3, 6] [] (by kernel_rfl) ?_
  refine AWP.condT (by kernel_rfl) ?_
  refine xe0 [2] [] (by kernel_rfl) ?_
  refine AWP.ret ?_
  refine ⟨Or.inr rfl, Eq.trans (b := some ([], V.val (Value.string (ByteArray.mk #[114, 101, 102, 117, 115, 101, 100])))) (by kernel_rfl) ?_⟩
  rfl
def d4 : List Int := [24, 3, 192, 0]
def d5 : List Int := [24, 3, 192, 0, 4]
def repV : V := .agg true [u8 1, u8 2, u16 0, u32 0, .vs (u8s d5) 5]
def sTold : ByteArray := ⟨#[114, 101, 102, 117, 115, 101, 100, 32, 52, 32, 49, 56, 48, 51, 99, 48, 48, 48]⟩
theorem con_verified : Con Tryd.prog 22 [] [repV] [] (.tup [strV sTold, vb true]) := by
  have c1 := con_outcome
  have c2 := con_spaced sRef [4] (by simp) (by decide) (by decide)
  have c3 := con_shown [24, 3, 192, 0] (by decide) (by decide) (by decide)
  refine Con.of (C := ⟨Tryd.prog, tc, Tryd.f22.ntmps⟩) [] tcok Tryd.func22 rfl rfl (by kernel_rfl) (by kernel_rfl) ?_
  refine AWP.seq ?_
  refine AWP.regionT tcok hmix [] [1, 2, 3] [1] (os := []) (s' := St.mk [(1, tp (V.ptr 1 0)), (2, tp (V.val (Value.string (ByteArray.mk #[])))), (3, tp (vb false))] [(1, Blk.mk [u8 1, u8 2, u16 0, u32 0, V.vs [u8 24, u8 3, u8 192, u8 0, u8 4] 5] true 5 none)]) (by kernel_rfl) trivial ?_
  refine xe1 (os := [Con Tryd.prog 30 [] [u8 2] [] (V.val (Value.string sRef))]) [(2, ⟨none, some ⟨strV sRef, [], []⟩⟩)] [1, 2, 3, 4] [1] (by kernel_rfl) ⟨(c1 ), trivial⟩ ?_
  refine xe0 [1, 2, 3, 4, 5] [1] (by kernel_rfl) ?_
  refine AWP.seq ?_
  refine AWP.block ?_
  refine xe0 [1, 2, 3, 4, 5, 17] [1] (by kernel_rfl) ?_
  refine AWP.condF (by kernel_rfl) ?_
  refine xe0 [1, 2, 3, 4, 5, 25] [1] (by kernel_rfl) ?_
  refine AWP.condT (by kernel_rfl) ?_
  refine xe1 (os := [VO (V.val (Value.string (spd sRef [(4 : Int)]))), VOH [], Con Tryd.prog 20 [] [V.val (Value.string sRef), V.vs [u8 4] 1] [] (V.val (Value.string (spd sRef [4]))), (0 : Nat) = (0 : Nat), (1 : Nat) = (1 : Nat), Con Tryd.prog 31 [] [V.vs [u8 24, u8 3, u8 192, u8 0] 4] [] (V.val (Value.string (bb (hexL [24, 3, 192, 0]))))]) [(6, ⟨none, some ⟨strV (spd sRef [4]), [], [(38, true)]⟩⟩), (11, ⟨none, some ⟨strV (bb (hexL [24, 3, 192, 0])), [], []⟩⟩)] [2, 3] [] (by kernel_rfl) ⟨(VO.val _), trivial, (c2 ), (by omega), (by omega), (c3 ), trivial⟩ ?_
  refine AWP.ret ?_
  refine ⟨Or.inr rfl, Eq.trans (b := some ([], V.tup [V.val (Value.string (spd sRef [4] ++ ByteArray.mk #[32] ++ bb (hexL [24, 3, 192, 0]))), vb true])) (by kernel_rfl) ?_⟩
  rfl
theorem con_tell : Con Tryd.prog 13 [] [repV] [] (strV sTold) := by
  refine Con.of (C := ⟨Tryd.prog, tc, Tryd.f13.ntmps⟩) [] tcok Tryd.func13 rfl rfl (by kernel_rfl) (by kernel_rfl) ?_
  refine AWP.seq ?_
  refine AWP.regionT tcok hmix [] [1, 2] [1] (os := []) (s' := St.mk [(1, tp (V.ptr 1 0)), (2, tp (V.val (Value.string (ByteArray.mk #[]))))] [(1, Blk.mk [u8 1, u8 2, u16 0, u32 0, V.vs [u8 24, u8 3, u8 192, u8 0, u8 4] 5] true 5 none)]) (by kernel_rfl) trivial ?_
  refine AWP.seq ?_
  refine xe1 [(1, ⟨none, some ⟨V.tup [strV sTold, vb true], [], []⟩⟩)] [1, 2, 3, 4] [1] (by kernel_rfl) (AllP.c (con_verified ) AllP.n) ?_
  refine xe0 [1, 2, 3, 14] [1] (by kernel_rfl) ?_
  refine AWP.condT (by kernel_rfl) ?_
  refine xe0 [1, 2] [1] (by kernel_rfl) ?_
  refine AWP.ret ?_
  refine ⟨Or.inr rfl, Eq.trans (b := some ([], V.val (Value.string sTold))) (by kernel_rfl) ?_⟩
  rfl
def sHeal : ByteArray := ⟨#[104, 101, 97, 108, 32, 51]⟩
def wHeal : Wd := ⟨⟨#[104, 101, 97, 108]⟩, 128, 2, 1⟩
theorem say_heal : sayO sHeal = some (wHeal, [3]) := by kernel_rfl
theorem con_awake : Con Tryd.prog 4 [] [] [] (vb true) := by
  have c1 := con_say sHeal (by decide) wHeal [3] say_heal
  have c2 := con_tell
  refine Con.of (C := ⟨Tryd.prog, tc, Tryd.f4.ntmps⟩) [] tcok Tryd.func4 rfl rfl (by kernel_rfl) (by kernel_rfl) ?_
  refine AWP.seq ?_
  refine AWP.regionT tcok hmix [] [0] [] (os := []) (s' := St.mk [(0, tp (vb false))] []) (by kernel_rfl) trivial ?_
  refine xe1 (os := [Con Tryd.prog 7 [] [V.val (Value.string (ByteArray.mk #[104, 101, 97, 108, 32, 51]))] [(5, Blk.mk [u8 3] true 0 (some (5, 1)))] (V.tup [V.agg false [u8 9, u8 128, u8 2, u16 0, V.sl 5 0 1], i64 0])]) [(0, ⟨none, some ⟨V.tup [V.agg false [u8 9, u8 wHeal.a, u8 wHeal.b, u16 0, V.sl 5 0 (List.length [3])], i64 0], [(5, Blk.mk (u8s [3]) true 0 (some (5, 1)))], []⟩⟩)] [0, 1, 2] [1, 50005] (by kernel_rfl) ⟨(c1 ), trivial⟩ ?_
  refine xe1 (os := [true = true → VO (V.val (Value.string sTold)) ∧ VOH [] ∧ Con Tryd.prog (13 : Nat) [] [V.agg true [u8 (1 : Int), u8 (2 : Int), u16 (0 : Int), u32 (0 : Int), V.vs [u8 (24 : Int), u8 (3 : Int), u8 (192 : Int), u8 (0 : Int), u8 (4 : Int)] (5 : Nat)]] [] (V.val (Value.string sTold)) ∧ (0 : Nat) = (0 : Nat) ∧ True]) [(28, ⟨none, some ⟨strV sTold, [], [(33, true)]⟩⟩)] [0] [] (by kernel_rfl) ⟨(by intro hc0; first | (cases hc0; done) | ((try simp only [Bool.or_false, Bool.false_or, Bool.true_and, Bool.and_true, decide_eq_true_eq, decide_eq_false_iff_not, Bool.and_eq_true, Bool.or_eq_true, Bool.or_eq_false_iff, Bool.not_eq_true', Bool.and_eq_false_iff, beq_iff_eq, bne_iff_ne, bne_eq_false_iff_eq, beq_eq_false_iff_ne, Bool.not_eq_false'] at hc0); exact ⟨(VO.val _), trivial, (c2 ), (by omega), trivial⟩)), trivial⟩ ?_
  refine AWP.ret ?_
  refine ⟨Or.inr rfl, Eq.trans (b := some ([], vb true)) (by kernel_rfl) ?_⟩
  rfl
theorem con_like (ac sv sb sr ac' sv' sb' sr' : Int) (d d' : List Int) (h : d.length ≤ 100000) (h' : d'.length ≤ 100000) : Con Tryd.prog 9 [] [cV ac sv sb sr d, cV ac' sv' sb' sr' d'] [] (vb (ac == ac' && sv == sv' && sb == sb' && sr == sr' && decide (d = d'))) := by
  have c1 := con_same d d' (by omega) (by omega)
  refine Con.of (C := ⟨Tryd.prog, tc, Tryd.f9.ntmps⟩) [] tcok Tryd.func9 rfl rfl (by kernel_rfl) (by kernel_rfl) ?_
  refine AWP.seq ?_
  refine AWP.regionT tcok hmix [] [2, 3, 4] [2, 3] (os := []) (s' := St.mk [(2, tp (V.ptr 2 0)), (3, tp (V.ptr 3 0)), (4, tp (vb false))] [(2, Blk.mk [u8 ac, u8 sv, u8 sb, u16 sr, B8 d] true 5 none), (3, Blk.mk [u8 ac', u8 sv', u8 sb', u16 sr', B8 d'] true 5 none)]) (by kernel_rfl) trivial ?_
  refine xe1 (os := [(ac == ac' && sv == sv' && sb == sb' && sr == sr') = true → Con Tryd.prog (12 : Nat) [] [B8 d, B8 d'] [] (vb (decide (d = d'))) ∧ True]) [(31, ⟨none, some ⟨vb (decide (d = d')), [], []⟩⟩)] [4] [] (by kernel_rfl) ⟨(fun _ => ⟨(c1 ), trivial⟩), trivial⟩ ?_
  refine AWP.ret ?_
  refine ⟨Or.inr rfl, Eq.trans (b := some ([], vb (ac == ac' && sv == sv' && sb == sb' && sr == sr' && decide (d = d')))) (by kernel_rfl) ?_⟩
  rfl
theorem con_like_eq (ac sv sb sr : Int) (d : List Int) (h : d.length ≤ 100000) : Con Tryd.prog 9 [] [cV ac sv sb sr d, cV ac sv sb sr d] [] (vb true) := by
  have := con_like ac sv sb sr ac sv sb sr d d h h
  simpa using this
def zV : V := .agg true [u8 0, u8 0, u8 0, u16 0, .val (.slice none 0 0)]
theorem con_same0 : Con Tryd.prog 12 [] [.val (.slice none 0 0), .val (.slice none 0 0)] [] (vb true) := by
  have h := con_same [] [] (by simp) (by simp)
  have h2 := h.rels (args := [.val (.slice none 0 0), .val (.slice none 0 0)]) fun I w φ us hu => by
    cases hu with
    | cons h1 h2 =>
      cases h2 with
      | cons h3 h4 => exact .cons (rel_nil h1) (.cons (rel_nil h3) h4)
  simpa using h2
theorem con_like0 : Con Tryd.prog 9 [] [zV, zV] [] (vb true) := by
  have c1 := con_same0
  refine Con.of (C := ⟨Tryd.prog, tc, Tryd.f9.ntmps⟩) [] tcok Tryd.func9 rfl rfl (by kernel_rfl) (by kernel_rfl) ?_
  refine AWP.seq ?_
  refine AWP.regionT tcok hmix [] [2, 3, 4] [2, 3] (os := []) (s' := St.mk [(2, tp (V.ptr 2 0)), (3, tp (V.ptr 3 0)), (4, tp (vb false))] [(2, Blk.mk [u8 0, u8 0, u8 0, u16 0, V.val (Value.slice none 0 0)] true 5 none), (3, Blk.mk [u8 0, u8 0, u8 0, u16 0, V.val (Value.slice none 0 0)] true 5 none)]) (by kernel_rfl) trivial ?_
  refine xe1 (os := [true = true → Con Tryd.prog (12 : Nat) [] [V.val (Value.slice none (0 : Nat) (0 : Nat)), V.val (Value.slice none (0 : Nat) (0 : Nat))] [] (vb true) ∧ True]) [(31, ⟨none, some ⟨vb true, [], []⟩⟩)] [4] [] (by kernel_rfl) ⟨(fun _ => ⟨(c1 ), trivial⟩), trivial⟩ ?_
  refine AWP.ret ?_
  refine ⟨Or.inr rfl, Eq.trans (b := some ([], vb true)) (by kernel_rfl) ?_⟩
  rfl
end Go.Proofs.YtieoaeidlcdggaaDoor
