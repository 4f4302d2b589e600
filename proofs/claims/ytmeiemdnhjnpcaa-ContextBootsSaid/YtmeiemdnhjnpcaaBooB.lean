/- Chapter 8: what a boot leaves. -/
import Derived.Test.YtmeiemdnhjnpcaaRg
import Derived.Test.YtmeiemdnhjnpcaaBooA
import Derived.Test.YtmeiemdnhjnpcaaGrdE
import Derived.Test.YtmeiemdnhjnpcaaGrdP
import Derived.Test.YtmeiemdnhjnpcaaCelR
import Derived.Test.YtmeiemdnhjnpcaaAb28
namespace Go.Proofs.Ytmeiemdnhjnpcaa
open Go.Ab
set_option linter.unusedSimpArgs false
set_option linter.unusedVariables false
set_option maxHeartbeats 8000000
theorem con_gnewB : Con Try.prog 50 [] [] [(2, ⟨[B8 [], B8 [], B8 [], nilS], true, 4, none⟩)] (.ptr 2 0) := by
  refine Con.of (C := ⟨Try.prog, tc, Try.f50.ntmps⟩) [2] tcok Try.func50 rfl rfl (by kernel_rfl) (by kernel_rfl) ?_
  refine xe0 [0] [] (by kernel_rfl) ?_
  refine xe0 [0] [2] (by kernel_rfl) ?_
  refine AWP.wk 2 3 (s' := St.mk [(0, tp (V.ptr 2 0))] [(2, Blk.mk [B8 [], B8 [], B8 [], nilS] true 4 none)]) (by kernel_rfl) ?_
  refine AWP.ret ?_
  refine ⟨Or.inr rfl, Eq.trans (b := some ([(2, Blk.mk [B8 [], B8 [], B8 [], nilS] true 4 none)], V.ptr 2 0)) (by kernel_rfl) ?_⟩
  rfl
theorem con_cread_x (a b c : List Int) (ha : BL a) (hb1 : BL b) (hc : BL c) (hla : a.length ≤ 1000000) (hlb : b.length ≤ 1000000) (hlc : c.length ≤ 1000000) (nx : V) (m M : List Int) (k n : Nat) (hv : vst [a, b, c] = (k, m)) (hk : 2 ≤ k) (hm : cPo m = M) (hn : M.length = n) (hp : Con Try.prog 26 [] [.vs (u8s M) n] [] (.tup [.agg true [u16 0, u16 0, u8 0, u8 0, u8 0, u8 0, u8 0, u8 0, i8 0, i8 0, i8 0, i8 0, i8 0, i8 0, u8 0, u16 0, vb false, u8 0], i64 2])) : Con Try.prog 59 [] [.vp [B8 a, B8 b, B8 c, nx]] [] (.tup [.agg true [u16 0, u16 0, u8 0, u8 0, u8 0, u8 0, u8 0, u8 0, i8 (-1), i8 (-1), i8 (-1), i8 (-1), i8 (-1), i8 (-1), u8 0, u16 0, vb false, u8 0], vb false]) := by
  have g := con_gread_y a b c ha hb1 hc hla hlb hlc nx m k hv hk
  rw [hm, hn] at g
  refine Con.of (C := ⟨Try.prog, tc, Try.f59.ntmps⟩) [] tcok Try.func59 rfl rfl (by kernel_rfl) (by kernel_rfl) ?_
  refine xe0 [0, 2, 3] [2] (by kernel_rfl) ?_
  refine xe1 (os := [Con Try.prog 47 [] [V.vp [B8 a, B8 b, B8 c, nx]] [(1210005, Blk.mk (u8s M) true 0 (some (5, 1)))] (V.tup [u32 (cNo m), V.sl 1210005 0 n, i64 0])]) [(1, ⟨none, some ⟨V.tup [u32 (cNo m), V.sl 1210005 0 n, i64 0], [(1210005, Blk.mk (u8s M) true 0 (some (5, 1)))], []⟩⟩)] [2, 3, 5, 6] [2, 1320005] (by kernel_rfl) ⟨(g ), trivial⟩ ?_
  refine AWP.seq ?_
  refine xe0 [2, 3, 5, 6, 15] [2, 1320005] (by kernel_rfl) ?_
  refine AWP.condF (by kernel_rfl) ?_
  refine AWP.skip ?_
  refine xe1 (os := [VO (V.tup [V.agg true [u16 (0 : Int), u16 (0 : Int), u8 (0 : Int), u8 (0 : Int), u8 (0 : Int), u8 (0 : Int), u8 (0 : Int), u8 (0 : Int), i8 (0 : Int), i8 (0 : Int), i8 (0 : Int), i8 (0 : Int), i8 (0 : Int), i8 (0 : Int), u8 (0 : Int), u16 (0 : Int), vb false, u8 (0 : Int)], i64 (2 : Int)]), VOH [], Con Try.prog 26 [] [V.vs (u8s M) n] [] (V.tup [V.agg true [u16 0, u16 0, u8 0, u8 0, u8 0, u8 0, u8 0, u8 0, i8 0, i8 0, i8 0, i8 0, i8 0, i8 0, u8 0, u16 0, vb false, u8 0], i64 2]), (0 : Nat) = (0 : Nat), n * (1 : Nat) = List.length (u8s M)]) [(1, ⟨none, some ⟨V.tup [V.agg true [u16 0, u16 0, u8 0, u8 0, u8 0, u8 0, u8 0, u8 0, i8 0, i8 0, i8 0, i8 0, i8 0, i8 0, u8 0, u16 0, vb false, u8 0], i64 2], [], [(1320005, true)]⟩⟩)] [2, 3, 6, 7] [2, 7] (by kernel_rfl) ⟨(VO.tup (VOL.cons (VO.agg (VOL.cons (VO.val _) (VOL.cons (VO.val _) (VOL.cons (VO.val _) (VOL.cons (VO.val _) (VOL.cons (VO.val _) (VOL.cons (VO.val _) (VOL.cons (VO.val _) (VOL.cons (VO.val _) (VOL.cons (VO.val _) (VOL.cons (VO.val _) (VOL.cons (VO.val _) (VOL.cons (VO.val _) (VOL.cons (VO.val _) (VOL.cons (VO.val _) (VOL.cons (VO.val _) (VOL.cons (VO.val _) (VOL.cons (VO.val _) (VOL.cons (VO.val _) VOL.nil))))))))))))))))))) (VOL.cons (VO.val _) VOL.nil))), trivial, (hp ), (by omega), (by (simp [len_u8s]; omega)), trivial⟩ ?_
  refine AWP.seq ?_
  refine xe0 [2, 3, 7, 23] [2, 7] (by kernel_rfl) ?_
  refine AWP.condT (by kernel_rfl) ?_
  refine xe1 [(0, ⟨none, some ⟨V.agg true [u16 0, u16 0, u8 0, u8 0, u8 0, u8 0, u8 0, u8 0, i8 (-1), i8 (-1), i8 (-1), i8 (-1), i8 (-1), i8 (-1), u8 0, u16 0, vb false, u8 0], [], []⟩⟩)] [2, 3, 7] [2, 7] (by kernel_rfl) (AllP.c (con_default ) AllP.n) ?_
  refine AWP.ret ?_
  refine ⟨Or.inr rfl, Eq.trans (b := some ([], V.tup [V.agg true [u16 0, u16 0, u8 0, u8 0, u8 0, u8 0, u8 0, u8 0, i8 (-1), i8 (-1), i8 (-1), i8 (-1), i8 (-1), i8 (-1), u8 0, u16 0, vb false, u8 0], vb false])) (by kernel_rfl) ?_⟩
  rfl
theorem con_boot_n (a b c : List Int) (ha : BL a) (hb1 : BL b) (hc : BL c) (hla : a.length ≤ 1000000) (hlb : b.length ≤ 1000000) (hlc : c.length ≤ 1000000) (nx : V) (rd : Con Try.prog 59 [] [.vp [B8 a, B8 b, B8 c, nilS]] [] (.tup [.agg true [u16 0, u16 0, u8 0, u8 0, u8 0, u8 0, u8 0, u8 0, i8 (-1), i8 (-1), i8 (-1), i8 (-1), i8 (-1), i8 (-1), u8 0, u16 0, vb false, u8 0], vb false])) (ht : top3 a b c < 4294967295) (D : List Int) (hD : mk (top3 a b c + 1) (cby 0 0 0 0 0 0 0 0 (-1) (-1) (-1) (-1) (-1) (-1) 0 1 0 false) = D) : Con Try.prog 53 [(1000000000, ⟨[B8 a, B8 b, B8 c, nx], true, 4, none⟩)] [.ptr 1000000000 0] [(1000000000, ⟨[B8 D, B8 D, B8 D, nilS], true, 4, none⟩)] (.tup [.agg true [u16 0, u16 0, u8 0, u8 0, u8 0, u8 0, u8 0, u8 0, i8 (-1), i8 (-1), i8 (-1), i8 (-1), i8 (-1), i8 (-1), u8 0, u16 1, vb false, u8 0], vb false]) := by
  have re := con_creset 0 0 0 0 0 0 0 0 (-1) (-1) (-1) (-1) (-1) (-1) 0 0 0 false (by omega)
  have by1 := (con_cbytes 0 0 0 0 0 0 0 0 (-1) (-1) (-1) (-1) (-1) (-1) 0 1 0 false (by omega) (by omega)).frz1
  have bb := cby_bl 0 0 0 0 0 0 0 0 (-1) (-1) (-1) (-1) (-1) (-1) 0 1 0 false (by omega) (by omega)
  have fy := con_gfill_n a b c ha hb1 hc hla hlb hlc (cby 0 0 0 0 0 0 0 0 (-1) (-1) (-1) (-1) (-1) (-1) 0 1 0 false) 21 bb rfl D hD (by omega) ht
  rw [show rsn 0 = 1 from rfl] at re
  generalize cby 0 0 0 0 0 0 0 0 (-1) (-1) (-1) (-1) (-1) (-1) 0 1 0 false = Q at by1 fy
  refine Con.of (C := ⟨Try.prog, tc, Try.f53.ntmps⟩) [1000000000] tcok Try.func53 rfl rfl (by kernel_rfl) (by kernel_rfl) ?_
  refine xe0 [0, 2, 3] [2, 1000000000] (by kernel_rfl) ?_
  refine xe1 [(1, ⟨some (V.tup [V.sl 1000000000 1000000000 0]), some ⟨V.tup [], [(1000000000, Blk.mk [B8 a, B8 b, B8 c, nilS] true 4 none)], []⟩⟩)] [0, 2, 3] [1000000000, 2] (by kernel_rfl) (AllP.c (con_greset (B8 a) (B8 b) (B8 c) (nx)) AllP.n) ?_
  refine xe1 (os := [VO (V.tup [V.agg true [u16 (0 : Int), u16 (0 : Int), u8 (0 : Int), u8 (0 : Int), u8 (0 : Int), u8 (0 : Int), u8 (0 : Int), u8 (0 : Int), i8 (-1 : Int), i8 (-1 : Int), i8 (-1 : Int), i8 (-1 : Int), i8 (-1 : Int), i8 (-1 : Int), u8 (0 : Int), u16 (0 : Int), vb false, u8 (0 : Int)], vb false]), VOH [], Con Try.prog 59 [] [V.vp [B8 a, B8 b, B8 c, V.val (Value.slice none 0 0)]] [] (V.tup [V.agg true [u16 0, u16 0, u8 0, u8 0, u8 0, u8 0, u8 0, u8 0, i8 (-1), i8 (-1), i8 (-1), i8 (-1), i8 (-1), i8 (-1), u8 0, u16 0, vb false, u8 0], vb false])]) [(1, ⟨none, some ⟨V.tup [V.agg true [u16 0, u16 0, u8 0, u8 0, u8 0, u8 0, u8 0, u8 0, i8 (-1), i8 (-1), i8 (-1), i8 (-1), i8 (-1), i8 (-1), u8 0, u16 0, vb false, u8 0], vb false], [], [(1000000000, true)]⟩⟩)] [0, 2, 3, 4, 5] [1000000000, 2, 4] (by kernel_rfl) ⟨(VO.tup (VOL.cons (VO.agg (VOL.cons (VO.val _) (VOL.cons (VO.val _) (VOL.cons (VO.val _) (VOL.cons (VO.val _) (VOL.cons (VO.val _) (VOL.cons (VO.val _) (VOL.cons (VO.val _) (VOL.cons (VO.val _) (VOL.cons (VO.val _) (VOL.cons (VO.val _) (VOL.cons (VO.val _) (VOL.cons (VO.val _) (VOL.cons (VO.val _) (VOL.cons (VO.val _) (VOL.cons (VO.val _) (VOL.cons (VO.val _) (VOL.cons (VO.val _) (VOL.cons (VO.val _) VOL.nil))))))))))))))))))) (VOL.cons (VO.val _) VOL.nil))), trivial, (rd ), trivial⟩ ?_
  refine xe1 (os := [Con Try.prog 60 [] [V.agg true [u16 0, u16 0, u8 0, u8 0, u8 0, u8 0, u8 0, u8 0, i8 (-1), i8 (-1), i8 (-1), i8 (-1), i8 (-1), i8 (-1), u8 0, u16 0, vb false, u8 0]] [] (V.agg true [u16 0, u16 0, u8 0, u8 0, u8 0, u8 0, u8 0, u8 0, i8 (-1), i8 (-1), i8 (-1), i8 (-1), i8 (-1), i8 (-1), u8 0, u16 1, vb false, u8 0])]) [(1, ⟨none, some ⟨V.agg true [u16 0, u16 0, u8 0, u8 0, u8 0, u8 0, u8 0, u8 0, i8 (-1), i8 (-1), i8 (-1), i8 (-1), i8 (-1), i8 (-1), u8 0, u16 1, vb false, u8 0], [], []⟩⟩)] [0, 2, 3, 4, 5] [1000000000, 2, 4] (by kernel_rfl) ⟨(re ), trivial⟩ ?_
  refine xe1 (os := [Con Try.prog 19 [] [V.agg true [u16 0, u16 0, u8 0, u8 0, u8 0, u8 0, u8 0, u8 0, i8 (-1), i8 (-1), i8 (-1), i8 (-1), i8 (-1), i8 (-1), u8 0, u16 1, vb false, u8 0]] [] (V.vs (u8s Q) 21), Con Try.prog 46 [(1000000000, Blk.mk [B8 a, B8 b, B8 c, V.val (Value.slice none 0 0)] true 4 none)] [V.ptr 1000000000 0, V.vs (u8s Q) 21] [(1000000000, Blk.mk [B8 D, B8 D, B8 D, V.val (Value.slice none 0 0)] true 4 none)] (i64 0)]) [(2, ⟨none, some ⟨V.vs (u8s Q) 21, [], []⟩⟩), (3, ⟨some (V.tup [V.sl 1000000000 1000000000 0]), some ⟨i64 0, [(1000000000, Blk.mk [B8 D, B8 D, B8 D, nilS] true 4 none)], []⟩⟩)] [2, 3, 4, 5] [1000000000, 2, 4] (by kernel_rfl) ⟨(by1 ), (fy ), trivial⟩ ?_
  refine xe0 [2, 3] [1000000000, 2] (by kernel_rfl) ?_
  refine AWP.ret ?_
  refine ⟨Or.inr rfl, Eq.trans (b := some ([(1000000000, Blk.mk [B8 D, B8 D, B8 D, V.val (Value.slice none 0 0)] true 4 none)], V.tup [V.agg true [u16 0, u16 0, u8 0, u8 0, u8 0, u8 0, u8 0, u8 0, i8 (-1), i8 (-1), i8 (-1), i8 (-1), i8 (-1), i8 (-1), u8 0, u16 1, vb false, u8 0], vb false])) (by kernel_rfl) ?_⟩
  rfl
theorem con_crpars (f h r0 r1 r2 r3 r4 r5 k0 k1 k2 k3 k4 k5 mo rs ih : Int) (ex : Bool) (hb : 0 ≤ f ∧ f < 65536 ∧ 0 ≤ h ∧ h < 65536 ∧ 0 ≤ r0 ∧ r0 < 256 ∧ 0 ≤ r1 ∧ r1 < 256 ∧ 0 ≤ r2 ∧ r2 < 256 ∧ 0 ≤ r3 ∧ r3 < 256 ∧ 0 ≤ r4 ∧ r4 < 256 ∧ 0 ≤ r5 ∧ r5 < 256 ∧ -128 ≤ k0 ∧ k0 < 128 ∧ -128 ≤ k1 ∧ k1 < 128 ∧ -128 ≤ k2 ∧ k2 < 128 ∧ -128 ≤ k3 ∧ k3 < 128 ∧ -128 ≤ k4 ∧ k4 < 128 ∧ -128 ≤ k5 ∧ k5 < 128 ∧ 0 ≤ mo ∧ mo < 256 ∧ 0 ≤ rs ∧ rs < 65536 ∧ 0 ≤ ih ∧ ih < 256) (hy : -1 ≤ k0 ∧ k0 ≤ 15 ∧ -1 ≤ k1 ∧ k1 ≤ 15 ∧ -1 ≤ k2 ∧ k2 ≤ 15 ∧ -1 ≤ k3 ∧ k3 ≤ 15 ∧ -1 ≤ k4 ∧ k4 ≤ 15 ∧ -1 ≤ k5 ∧ k5 ≤ 15 ∧ mo ≤ 3 ∧ ih ≤ 31) : Con Try.prog 27 [] [.vs (u8s (cby f h r0 r1 r2 r3 r4 r5 k0 k1 k2 k3 k4 k5 mo rs ih ex)) 21] [] (.tup [.agg true [u16 f, u16 h, u8 r0, u8 r1, u8 r2, u8 r3, u8 r4, u8 r5, i8 k0, i8 k1, i8 k2, i8 k3, i8 k4, i8 k5, u8 mo, u16 rs, vb ex, u8 ih], vb true]) := by
  have oe := o1_bd ex
  have e := rparse_y (f / 256) (f % 256) (h / 256) (h % 256) r0 r1 r2 r3 r4 r5 (k0 + 1) (k1 + 1) (k2 + 1) (k3 + 1) (k4 + 1) (k5 + 1) mo (rs / 256) (rs % 256) (o1 ex) ih (by omega) (by omega) (by omega)
  rw [show f / 256 * 256 + f % 256 = f by omega, show h / 256 * 256 + h % 256 = h by omega, show rs / 256 * 256 + rs % 256 = rs by omega, show k0 + 1 - 1 = k0 by omega, show k1 + 1 - 1 = k1 by omega, show k2 + 1 - 1 = k2 by omega, show k3 + 1 - 1 = k3 by omega, show k4 + 1 - 1 = k4 by omega, show k5 + 1 - 1 = k5 by omega, show (o1 ex == 1) = ex by cases ex <;> rfl] at e
  exact e
theorem len21 (l : List Int) (h : l.length = 21) : ∃ b0 b1 b2 b3 b4 b5 b6 b7 b8 b9 b10 b11 b12 b13 b14 b15 b16 b17 b18 b19 b20, l = [b0, b1, b2, b3, b4, b5, b6, b7, b8, b9, b10, b11, b12, b13, b14, b15, b16, b17, b18, b19, b20] := by
  match l, h with
  | [b0, b1, b2, b3, b4, b5, b6, b7, b8, b9, b10, b11, b12, b13, b14, b15, b16, b17, b18, b19, b20], _ => exact ⟨b0, b1, b2, b3, b4, b5, b6, b7, b8, b9, b10, b11, b12, b13, b14, b15, b16, b17, b18, b19, b20, rfl⟩
/-- Any bytes are a context's, or none. -/
theorem raw_or (l : List Int) (n : Nat) (hn : l.length = n) (hl : BL l) (hlen : n ≤ 1000) : (∃ (f h r0 r1 r2 r3 r4 r5 k0 k1 k2 k3 k4 k5 mo rs ih : Int) (ex : Bool), l = cby f h r0 r1 r2 r3 r4 r5 k0 k1 k2 k3 k4 k5 mo rs ih ex ∧ (0 ≤ f ∧ f < 65536 ∧ 0 ≤ h ∧ h < 65536 ∧ 0 ≤ r0 ∧ r0 < 256 ∧ 0 ≤ r1 ∧ r1 < 256 ∧ 0 ≤ r2 ∧ r2 < 256 ∧ 0 ≤ r3 ∧ r3 < 256 ∧ 0 ≤ r4 ∧ r4 < 256 ∧ 0 ≤ r5 ∧ r5 < 256 ∧ -128 ≤ k0 ∧ k0 < 128 ∧ -128 ≤ k1 ∧ k1 < 128 ∧ -128 ≤ k2 ∧ k2 < 128 ∧ -128 ≤ k3 ∧ k3 < 128 ∧ -128 ≤ k4 ∧ k4 < 128 ∧ -128 ≤ k5 ∧ k5 < 128 ∧ 0 ≤ mo ∧ mo < 256 ∧ 0 ≤ rs ∧ rs < 65536 ∧ 0 ≤ ih ∧ ih < 256) ∧ (-1 ≤ k0 ∧ k0 ≤ 15 ∧ -1 ≤ k1 ∧ k1 ≤ 15 ∧ -1 ≤ k2 ∧ k2 ≤ 15 ∧ -1 ≤ k3 ∧ k3 ≤ 15 ∧ -1 ≤ k4 ∧ k4 ≤ 15 ∧ -1 ≤ k5 ∧ k5 ≤ 15 ∧ mo ≤ 3 ∧ ih ≤ 31)) ∨ (Con Try.prog 26 [] [.vs (u8s l) n] [] (.tup [.agg true [u16 0, u16 0, u8 0, u8 0, u8 0, u8 0, u8 0, u8 0, i8 0, i8 0, i8 0, i8 0, i8 0, i8 0, u8 0, u16 0, vb false, u8 0], i64 2]) ∧ Con Try.prog 27 [] [.vs (u8s l) n] [] (.tup [.agg true [u16 0, u16 0, u8 0, u8 0, u8 0, u8 0, u8 0, u8 0, i8 0, i8 0, i8 0, i8 0, i8 0, i8 0, u8 0, u16 0, vb false, u8 0], vb false])) := by
  subst hn
  by_cases h : l.length = 21
  · obtain ⟨b0, b1, b2, b3, b4, b5, b6, b7, b8, b9, b10, b11, b12, b13, b14, b15, b16, b17, b18, b19, b20, rfl⟩ := len21 l h
    simp only [BL, List.forall_mem_cons, List.not_mem_nil, false_implies, implies_true, and_true] at hl
    by_cases hr : b10 ≤ 16 ∧ b11 ≤ 16 ∧ b12 ≤ 16 ∧ b13 ≤ 16 ∧ b14 ≤ 16 ∧ b15 ≤ 16 ∧ b16 ≤ 3 ∧ b20 ≤ 31
    · by_cases h19 : b19 ≤ 1
      · refine .inl ⟨b0 * 256 + b1, b2 * 256 + b3, b4, b5, b6, b7, b8, b9, b10 - 1, b11 - 1, b12 - 1, b13 - 1, b14 - 1, b15 - 1, b16, b17 * 256 + b18, b20, b19 == 1, ?_, by omega, by omega⟩
        have e19 : o1 (b19 == 1) = b19 := o1_y (by omega) h19
        unfold cby
        rw [e19, show (b0 * 256 + b1) / 256 = b0 by omega, show (b0 * 256 + b1) % 256 = b1 by omega, show (b2 * 256 + b3) / 256 = b2 by omega, show (b2 * 256 + b3) % 256 = b3 by omega, show (b17 * 256 + b18) / 256 = b17 by omega, show (b17 * 256 + b18) % 256 = b18 by omega]
        simp
      · exact .inr ⟨parse_n2 b0 b1 b2 b3 b4 b5 b6 b7 b8 b9 b10 b11 b12 b13 b14 b15 b16 b17 b18 b19 b20 (by omega) hr h19, rparse_n b0 b1 b2 b3 b4 b5 b6 b7 b8 b9 b10 b11 b12 b13 b14 b15 b16 b17 b18 b19 b20 (by omega) (fun q => h19 q.2)⟩
    · exact .inr ⟨parse_n1 b0 b1 b2 b3 b4 b5 b6 b7 b8 b9 b10 b11 b12 b13 b14 b15 b16 b17 b18 b19 b20 (by omega) hr, rparse_n b0 b1 b2 b3 b4 b5 b6 b7 b8 b9 b10 b11 b12 b13 b14 b15 b16 b17 b18 b19 b20 (by omega) (fun q => hr q.1)⟩
  · exact .inr ⟨parse_l l (by omega) h, rparse_l l (by omega) h⟩
end Go.Proofs.Ytmeiemdnhjnpcaa
