/- ExecNil, of typed arguments. -/
import Derived.Test.YtcekfepgdfcinaaGreatDoorRg
import Derived.Test.YtcekfepgdfcinaaGreatDoorExA
import Derived.Test.YtcekfepgdfcinaaGreatDoorExR
import Derived.Test.YtcekfepgdfcinaaGreatDoorExW
import Derived.Test.YtcekfepgdfcinaaGreatDoorExY
namespace Go.Proofs.YtcekfepgdfcinaaGreatDoor
open Go Go.Ab
set_option linter.unusedSimpArgs false
set_option linter.unusedVariables false
set_option maxRecDepth 100000
def unC (l : List (Int × Int)) : List V := l.flatMap fun u => [u8 u.1, u8 u.2]
def mxU (l : List (Int × Int)) : Int := l.foldl (fun b u => imax b u.1) 0
theorem unC_drop (l : List (Int × Int)) {i : Nat} (h : i < l.length) : List.drop (i * 2) (unC l) = u8 (l.getD i (0, 0)).1 :: u8 (l.getD i (0, 0)).2 :: List.drop ((i + 1) * 2) (unC l) := by
  induction l generalizing i with
  | nil => simp at h
  | cons f r ih =>
    cases i with
    | zero => rfl
    | succ i =>
      have := ih (i := i) (by simpa using h)
      rw [show (i + 1) * 2 = i * 2 + 2 by omega, show (i + 1 + 1) * 2 = (i + 1) * 2 + 2 by omega]
      show List.drop (i * 2 + 2) (u8 f.1 :: u8 f.2 :: unC r) = _ :: _ :: List.drop ((i + 1) * 2 + 2) (u8 f.1 :: u8 f.2 :: unC r)
      simp only [List.drop_succ_cons, List.getD_cons_succ]
      exact this
theorem mxU_snoc (l : List (Int × Int)) {i : Nat} (h : i < l.length) : imax (mxU (l.take i)) (l.getD i (0, 0)).1 = mxU (l.take (i + 1)) := by
  rw [List.take_add_one, List.getElem?_eq_getElem h, List.getD_eq_getElem?_getD, List.getElem?_eq_getElem h]
  unfold mxU
  rw [List.foldl_append]
  rfl
theorem mxU_bd (l : List (Int × Int)) (h : ∀ u ∈ l, 0 ≤ u.1 ∧ u.1 < 256) : 0 ≤ mxU l ∧ mxU l < 256 := by
  have : ∀ (l : List (Int × Int)) (b : Int), (∀ u ∈ l, 0 ≤ u.1 ∧ u.1 < 256) → 0 ≤ b ∧ b < 256 → 0 ≤ l.foldl (fun b u => imax b u.1) b ∧ l.foldl (fun b u => imax b u.1) b < 256 := by
    intro l
    induction l with
    | nil => intro b _ hb; exact hb
    | cons u r ih =>
      intro b hl hb
      refine ih _ (fun v hv => hl v (List.mem_cons_of_mem _ hv)) ?_
      have := hl u (List.mem_cons_self ..)
      show 0 ≤ imax b u.1 ∧ imax b u.1 < 256
      unfold imax
      split <;> omega
  exact this l 0 h (by omega)
theorem con_bound (l0 l1 l2 l3 l4 l5 l6 l7 l8 l9 l10 l11 l12 l13 l14 l15 m0 m1 m2 m3 m4 m5 d0 d1 d2 d3 d4 q0 q1 q2 t0 t1 t2 t3 sc ap rm sd : Int) (U : List (Int × Int)) (hU : U.length ≤ 9223372036854775807) (hB : ∀ u ∈ U, 0 ≤ u.1 ∧ u.1 < 256) (R M A : List V) (nr nm na : Nat) : Con Tryz.prog 40 [] [.agg true [.vs (unC U) U.length, .vs R nr, u16 l0, u16 l1, u16 l2, u16 l3, u16 l4, u16 l5, u16 l6, u16 l7, u16 l8, u16 l9, u16 l10, u16 l11, u16 l12, u16 l13, u16 l14, u16 l15, u8 m0, u8 m1, u8 m2, u8 m3, u8 m4, u8 m5, .vs M nm, .vs A na, u8 d0, u8 d1, u8 d2, u8 d3, u8 d4, u8 q0, u8 q1, u8 q2, u16 t0, u16 t1, u16 t2, u16 t3, u8 sc, u16 ap, i64 rm, i64 sd]] [] (i64 (mxU U + 8)) := by
  refine Con.of (C := ⟨Tryz.prog, tc, Tryz.f40.ntmps⟩) [] tcok Tryz.func40 rfl rfl (by kernel_rfl) (by kernel_rfl) ?_
  refine xe0 [1, 2] [1] (by kernel_rfl) ?_
  refine xe0 [1, 2, 3] [1] (by kernel_rfl) ?_
  refine AWP.seq ?_
  refine xe0 [2, 3, 7, 8, 9] [] (by kernel_rfl) ?_
  refine AWP.block ?_
  refine AWP.loopI [2, 3, 7, 8, 9] [] (fun N s' => ∃ b i : Int, s' = St.mk [(2, T.plain (i64 0)), (3, T.plain (i64 b)), (7, T.plain (V.vs (unC U) U.length)), (8, T.plain (i64 (U.length : Int))), (9, T.plain (i64 i))] [] ∧ b = mxU (U.take i.toNat) ∧ 0 ≤ i ∧ i ≤ U.length ∧ (N : Int) = U.length - i) U.length (s0 := St.mk [(2, T.plain (i64 0)), (3, T.plain (i64 0)), (7, T.plain (V.vs (unC U) U.length)), (8, T.plain (i64 (U.length : Int))), (9, T.plain (i64 0))] []) (by kernel_rfl) ?_ ?_
  · exact ⟨0, 0, rfl, rfl, by omega, by omega, by omega⟩
  rintro N s' ⟨b, i, rfl, hb, hi, hi2, hN⟩
  have hbd := mxU_bd (U.take i.toNat) (fun u hu => hB u (List.mem_of_mem_take hu))
  rw [← hb] at hbd
  by_cases hic : i < U.length
  · have hrw := unC_drop U (i := i.toNat) (by omega)
    have hs := mxU_snoc U (i := i.toNat) (by omega)
    have hgb := hB (U.getD i.toNat (0, 0)) (by rw [List.getD_eq_getElem?_getD, List.getElem?_eq_getElem (show i.toNat < U.length by omega)]; exact List.getElem_mem _)
    rw [← hb] at hs
    generalize U.getD i.toNat (0, 0) = g at *
    obtain ⟨g0, g1⟩ := g
    refine xe0 [2, 3, 7, 8, 9, 10] [] (by kernel_rfl) ?_
    refine AWP.seq ?_
    refine AWP.cond (b := decide (i < (↑(List.length U) : Int))) (by kernel_rfl) (fun hq0 => ?_) (fun hq0 => ?_)
    · simp only [decide_eq_true_eq] at hq0
      refine AWP.skip ?_
      refine AWP.seq ?_
      refine AWP.block ?_
      refine xe1 (os := [(0 : Int) ≤ i ∧ i < (↑(List.length U) : Int), V.vp (List.drop (Int.toNat i * 2) (unC U)) = V.vp (u8 g0 :: u8 g1 :: List.drop ((Int.toNat i + 1) * 2) (unC U))]) [(0, ⟨some (V.vp (u8 (g0, g1).fst :: u8 (g0, g1).snd :: List.drop ((Int.toNat i + 1) * 2) (unC U))), none⟩)] [2, 3, 5, 7, 8, 9] [5] (by kernel_rfl) ⟨(by omega), (congrArg V.vp hrw), trivial⟩ ?_
      refine AWP.region tcok hmix [(3, ⟨some (i64 g0), none⟩)] (os := [i64 (IntKind.wrap IntKind.i64 g0) = i64 g0]) (sf := St.mk [(2, tp (i64 0)), (3, tp (i64 (imax b g0))), (5, tp (V.ptr 5 0)), (7, tp (V.vs (unC U) (List.length U))), (8, tp (i64 (↑(List.length U) : Int))), (9, tp (i64 i)), (13, tp (i64 b)), (14, tp (V.ptr 5 0)), (15, tp (u8 g0)), (16, tp (i64 g0)), (17, tp (i64 (imax b g0)))] [(5, Blk.mk [u8 g0, u8 g1] true 2 none)]) (by kernel_rfl) ⟨(wr_i64 (by omega) (by omega)), trivial⟩ ?_
      refine AWP.keep' [2, 3, 7, 8, 9] [] (sf := St.mk [(2, tp (i64 0)), (3, tp (i64 (imax b g0))), (7, tp (V.vs (unC U) (List.length U))), (8, tp (i64 (↑(List.length U) : Int))), (9, tp (i64 i))] []) (by kernel_rfl) ?_
      refine AWP.region tcok hmix [(0, ⟨some (i64 (i + 1)), none⟩)] (os := [i64 (IntKind.wrap IntKind.i64 (i + 1)) = i64 (i + 1)]) (sf := St.mk [(2, tp (i64 0)), (3, tp (i64 (imax b g0))), (7, tp (V.vs (unC U) (List.length U))), (8, tp (i64 (↑(List.length U) : Int))), (9, tp (i64 (i + 1))), (18, tp (i64 (i + 1)))] []) (by kernel_rfl) ⟨(wr_i64 (by omega) (by omega)), trivial⟩ ?_
      refine ⟨St.mk [(2, tp (i64 0)), (3, tp (i64 (imax b g0))), (7, tp (V.vs (unC U) (List.length U))), (8, tp (i64 (↑(List.length U) : Int))), (9, tp (i64 (i + 1)))] [], by kernel_rfl, ?_⟩
      first | (exfalso; omega) | (exact ⟨(U.length - (i + 1)).toNat, (by omega), _, i + 1, rfl, (by rw [show (i + 1).toNat = i.toNat + 1 by omega]; exact hs), (by omega), (by omega), (by omega)⟩)
    simp only [decide_eq_false_iff_not] at hq0
    (exfalso; omega)
  · obtain rfl : i = U.length := by omega
    rw [Int.toNat_natCast, List.take_of_length_le (Nat.le_refl _)] at hb
    subst hb
    refine xe0 [2, 3, 7, 8, 9, 10] [] (by kernel_rfl) ?_
    refine AWP.seq ?_
    refine AWP.cond (b := decide ((↑(List.length U) : Int) < (↑(List.length U) : Int))) (by kernel_rfl) (fun hq1 => ?_) (fun hq1 => ?_)
    · simp only [decide_eq_true_eq] at hq1
      (exfalso; omega)
    simp only [decide_eq_false_iff_not] at hq1
    refine AWP.exit ?_
    refine xe1 (os := [i64 (IntKind.wrap IntKind.i64 (mxU U + 8)) = i64 (mxU U + 8)]) [(1, ⟨some (i64 (mxU U + 8)), none⟩)] [2] [] (by kernel_rfl) ⟨(wr_i64 (by omega) (by omega)), trivial⟩ ?_
    refine AWP.ret ?_
    refine ⟨Or.inr rfl, Eq.trans (b := some ([], i64 (mxU U + 8))) (by kernel_rfl) ?_⟩
    rfl
end Go.Proofs.YtcekfepgdfcinaaGreatDoor

namespace Go.Proofs.YtcekfepgdfcinaaGreatDoor
open Go Go.Ab
set_option linter.unusedSimpArgs false
set_option linter.unusedVariables false
set_option maxRecDepth 100000
set_option maxHeartbeats 4000000
theorem exec_nil (p0 p1 p2 p3 p4 p5 p6 p7 p8 p9 p10 p11 p12 p13 p14 p15 a w rs : Int) (wd hw : Bool) (F : List (Int × Int × Int)) (hFl : F.length ≤ 9223372036854775807) (C : List (List Int)) (hC : ∀ c ∈ C, BL c ∧ c.length ≤ 9223372036854775807) (hCl : C.length ≤ 9223372036854775807)
    (l0 l1 l2 l3 l4 l5 l6 l7 l8 l9 l10 l11 l12 l13 l14 l15 m0 m1 m2 m3 m4 m5 d0 d1 d2 d3 d4 q0 q1 q2 t0 t1 t2 t3 sc ap rm sd : Int) (U : List (Int × Int)) (hU : U.length ≤ 9223372036854775807) (hB : ∀ u ∈ U, 0 ≤ u.1 ∧ u.1 < 256) (R M A : List V) (nr nm na : Nat) :
    Con Tryz.prog 10 [] [.agg true [i32 p0, i32 p1, i32 p2, i32 p3, i32 p4, i32 p5, i32 p6, i32 p7, i32 p8, i32 p9, i32 p10, i32 p11, i32 p12, i32 p13, i32 p14, i32 p15, u16 a, u16 w, .vs (flC F) F.length, u8 rs, .vs (cmC C) C.length, vb wd, vb hw], .agg true [.vs (unC U) U.length, .vs R nr, u16 l0, u16 l1, u16 l2, u16 l3, u16 l4, u16 l5, u16 l6, u16 l7, u16 l8, u16 l9, u16 l10, u16 l11, u16 l12, u16 l13, u16 l14, u16 l15, u8 m0, u8 m1, u8 m2, u8 m3, u8 m4, u8 m5, .vs M nm, .vs A na, u8 d0, u8 d1, u8 d2, u8 d3, u8 d4, u8 q0, u8 q1, u8 q2, u16 t0, u16 t1, u16 t2, u16 t3, u8 sc, u16 ap, i64 rm, i64 sd]] [] (vb true) := by
  have cf := con_few p0 p1 p2 p3 p4 p5 p6 p7 p8 p9 p10 p11 p12 p13 p14 p15 a w rs wd hw F C hC hCl (min F.length 4) rfl _ rfl
  generalize cmC (cmT C C.length) = CC at cf
  generalize flC (F.take (min F.length 4)) = FF at cf
  generalize acC (F.take (min F.length 4)) = AA at cf
  generalize min F.length 4 = mf at cf
  generalize min C.length 4 = mc at cf
  have cr := con_restart0 l0 l1 l2 l3 l4 l5 l6 l7 l8 l9 l10 l11 l12 l13 l14 l15 m0 m1 m2 m3 m4 m5 d0 d1 d2 d3 d4 q0 q1 q2 t0 t1 t2 t3 sc ap rm sd (unC U) R M A U.length nr nm na
  have cz := con_zcycle p0 p1 p2 p3 p4 p5 p6 p7 p8 p9 p10 p11 p12 p13 p14 p15 a w rs wd hw
  unfold nilE at cr cz
  refine Con.of (C := ⟨Tryz.prog, tc, Tryz.f10.ntmps⟩) [] tcok Tryz.func10 rfl rfl (by kernel_rfl) (by kernel_rfl) ?_
  refine xe0 [2, 3, 4] [2, 3] (by kernel_rfl) ?_
  refine AWP.seq ?_
  refine xe1 [(0, ⟨none, some ⟨vb true, [], []⟩⟩)] [2, 3, 4, 13] [2, 3] (by kernel_rfl) (AllP.c (con_awake ) AllP.n) ?_
  refine AWP.condF (by kernel_rfl) ?_
  refine AWP.skip ?_
  refine xe1 (os := [Con Tryz.prog 14 [] [V.agg true [i32 p0, i32 p1, i32 p2, i32 p3, i32 p4, i32 p5, i32 p6, i32 p7, i32 p8, i32 p9, i32 p10, i32 p11, i32 p12, i32 p13, i32 p14, i32 p15, u16 a, u16 w, V.vs (flC F) (List.length F), u8 rs, V.vs (cmC C) (List.length C), vb wd, vb hw]] [(7, Blk.mk CC true 0 (some (61, 1))), (10, Blk.mk FF true 0 (some (90, 3))), (50, Blk.mk AA true 0 (some (168, 5)))] (V.tup [V.agg false [i32 p0, i32 p1, i32 p2, i32 p3, i32 p4, i32 p5, i32 p6, i32 p7, i32 p8, i32 p9, i32 p10, i32 p11, i32 p12, i32 p13, i32 p14, i32 p15, u16 a, u16 w, V.sl 10 0 mf, u8 rs, V.sl 7 0 mc, vb wd, vb hw], V.agg false [i32 p0, i32 p1, i32 p2, i32 p3, i32 p4, i32 p5, i32 p6, i32 p7, i32 p8, i32 p9, i32 p10, i32 p11, i32 p12, i32 p13, i32 p14, i32 p15, u16 a, u16 w, V.sl 50 0 mf, u8 rs, V.sl 7 0 mc, vb wd, vb hw]])]) [(1, ⟨none, some ⟨V.tup [V.agg false [i32 p0, i32 p1, i32 p2, i32 p3, i32 p4, i32 p5, i32 p6, i32 p7, i32 p8, i32 p9, i32 p10, i32 p11, i32 p12, i32 p13, i32 p14, i32 p15, u16 a, u16 w, V.sl 10 0 mf, u8 rs, V.sl 7 0 mc, vb wd, vb hw], V.agg false [i32 p0, i32 p1, i32 p2, i32 p3, i32 p4, i32 p5, i32 p6, i32 p7, i32 p8, i32 p9, i32 p10, i32 p11, i32 p12, i32 p13, i32 p14, i32 p15, u16 a, u16 w, V.sl 50 0 mf, u8 rs, V.sl 7 0 mc, vb wd, vb hw]], [(7, Blk.mk CC true 0 (some (61, 1))), (10, Blk.mk FF true 0 (some (90, 3))), (50, Blk.mk AA true 0 (some (168, 5)))], []⟩⟩)] [2, 3, 4] [2, 3, 170010, 170007] (by kernel_rfl) ⟨(cf ), trivial⟩ ?_
  refine xe0 [2, 3, 4, 5] [2, 3, 170007, 170010] (by kernel_rfl) ?_
  refine xe1 (os := [Con Tryz.prog 17 [(1000000000, Blk.mk FF true 0 (some (90, 3))), (1000000001, Blk.mk CC true 0 (some (61, 1)))] [V.val (Value.pointer none), V.agg false [i32 p0, i32 p1, i32 p2, i32 p3, i32 p4, i32 p5, i32 p6, i32 p7, i32 p8, i32 p9, i32 p10, i32 p11, i32 p12, i32 p13, i32 p14, i32 p15, u16 a, u16 w, V.sl 1000000000 0 mf, u8 rs, V.sl 1000000001 0 mc, vb wd, vb hw]] [(1000000000, Blk.mk FF true 0 (some (90, 3))), (1000000001, Blk.mk CC true 0 (some (61, 1)))] (V.agg true [V.val (Value.slice none 0 0), V.val (Value.slice none 0 0), u8 0, i32 0, i32 0, i32 0, i32 0, i32 0, i32 0])]) [(2, ⟨some (V.tup [V.sl 1000000000 170010 0, V.sl 1000000001 170007 0]), some ⟨V.agg true [V.val (Value.slice none 0 0), V.val (Value.slice none 0 0), u8 0, i32 0, i32 0, i32 0, i32 0, i32 0, i32 0], [(1000000000, Blk.mk FF true 0 (some (90, 3))), (1000000001, Blk.mk CC true 0 (some (61, 1)))], []⟩⟩)] [3, 4, 5, 6] [3, 6] (by kernel_rfl) ⟨(cz (FF) (CC) (mf) (mc) ((90, 3)) ((61, 1))), trivial⟩ ?_
  refine xe1 (os := [Con Tryz.prog 39 [] [V.agg true [V.vs (unC U) (List.length U), V.vs R nr, u16 l0, u16 l1, u16 l2, u16 l3, u16 l4, u16 l5, u16 l6, u16 l7, u16 l8, u16 l9, u16 l10, u16 l11, u16 l12, u16 l13, u16 l14, u16 l15, u8 m0, u8 m1, u8 m2, u8 m3, u8 m4, u8 m5, V.vs M nm, V.vs A na, u8 d0, u8 d1, u8 d2, u8 d3, u8 d4, u8 q0, u8 q1, u8 q2, u16 t0, u16 t1, u16 t2, u16 t3, u8 sc, u16 ap, i64 rm, i64 sd], V.val (Value.pointer none)] [] (V.tup [V.val (Value.pointer none), i64 1])]) [(1, ⟨some (V.tup []), some ⟨V.tup [V.val (Value.pointer none), i64 1], [], []⟩⟩)] [3, 4, 5, 6, 8] [3, 6] (by kernel_rfl) ⟨(cr ), trivial⟩ ?_
  refine xe0 [3, 4, 5, 6, 8, 9] [3, 6] (by kernel_rfl) ?_
  refine AWP.seq ?_
  refine xe0 [3, 4, 5, 6, 8, 9, 28, 29, 30] [3, 6] (by kernel_rfl) ?_
  refine AWP.block ?_
  clear cf cr cz
  refine AWP.loopI [3, 4, 5, 6, 8, 9, 28, 29, 30] [3, 6] (fun N s' => ∃ b i : Int, s' = St.mk [(3, T.plain (V.ptr 3 0)), (4, T.plain (vb false)), (5, T.plain (V.val (Value.pointer none))), (6, T.plain (V.ptr 6 0)), (8, T.plain (i64 1)), (9, T.plain (i64 b)), (28, T.plain (V.vs (unC U) (List.length U))), (29, T.plain (i64 (U.length : Int))), (30, T.plain (i64 i))] [(3, Blk.mk [V.vs (unC U) (List.length U), V.vs R nr, u16 l0, u16 l1, u16 l2, u16 l3, u16 l4, u16 l5, u16 l6, u16 l7, u16 l8, u16 l9, u16 l10, u16 l11, u16 l12, u16 l13, u16 l14, u16 l15, u8 m0, u8 m1, u8 m2, u8 m3, u8 m4, u8 m5, V.vs M nm, V.vs A na, u8 d0, u8 d1, u8 d2, u8 d3, u8 d4, u8 q0, u8 q1, u8 q2, u16 t0, u16 t1, u16 t2, u16 t3, u8 sc, u16 ap, i64 rm, i64 sd] true 42 none), (6, Blk.mk [V.val (Value.slice none 0 0), V.val (Value.slice none 0 0), u8 0, i32 0, i32 0, i32 0, i32 0, i32 0, i32 0] true 9 none)] ∧ b = mxU (U.take i.toNat) ∧ 0 ≤ i ∧ i ≤ U.length ∧ (N : Int) = U.length - i) U.length (s0 := St.mk [(3, T.plain (V.ptr 3 0)), (4, T.plain (vb false)), (5, T.plain (V.val (Value.pointer none))), (6, T.plain (V.ptr 6 0)), (8, T.plain (i64 1)), (9, T.plain (i64 0)), (28, T.plain (V.vs (unC U) (List.length U))), (29, T.plain (i64 (U.length : Int))), (30, T.plain (i64 0))] [(3, Blk.mk [V.vs (unC U) (List.length U), V.vs R nr, u16 l0, u16 l1, u16 l2, u16 l3, u16 l4, u16 l5, u16 l6, u16 l7, u16 l8, u16 l9, u16 l10, u16 l11, u16 l12, u16 l13, u16 l14, u16 l15, u8 m0, u8 m1, u8 m2, u8 m3, u8 m4, u8 m5, V.vs M nm, V.vs A na, u8 d0, u8 d1, u8 d2, u8 d3, u8 d4, u8 q0, u8 q1, u8 q2, u16 t0, u16 t1, u16 t2, u16 t3, u8 sc, u16 ap, i64 rm, i64 sd] true 42 none), (6, Blk.mk [V.val (Value.slice none 0 0), V.val (Value.slice none 0 0), u8 0, i32 0, i32 0, i32 0, i32 0, i32 0, i32 0] true 9 none)]) (by kernel_rfl) ?_ ?_
  · exact ⟨0, 0, rfl, rfl, by omega, by omega, by omega⟩
  rintro N s' ⟨b, i, rfl, hb, hi, hi2, hN⟩
  have hbd := mxU_bd (U.take i.toNat) (fun u hu => hB u (List.mem_of_mem_take hu))
  rw [← hb] at hbd
  by_cases hic : i < U.length
  · have hrw := unC_drop U (i := i.toNat) (by omega)
    have hs := mxU_snoc U (i := i.toNat) (by omega)
    have hgb := hB (U.getD i.toNat (0, 0)) (by rw [List.getD_eq_getElem?_getD, List.getElem?_eq_getElem (show i.toNat < U.length by omega)]; exact List.getElem_mem _)
    rw [← hb] at hs
    generalize U.getD i.toNat (0, 0) = g at *
    obtain ⟨g0, g1⟩ := g
    refine xe0 [3, 4, 5, 6, 8, 9, 28, 29, 30, 31] [3, 6] (by kernel_rfl) ?_
    refine AWP.seq ?_
    refine AWP.cond (b := decide (i < (↑(List.length U) : Int))) (by kernel_rfl) (fun hq1 => ?_) (fun hq1 => ?_)
    · simp only [decide_eq_true_eq] at hq1
      refine AWP.skip ?_
      refine AWP.seq ?_
      refine AWP.block ?_
      refine xe1 (os := [(0 : Int) ≤ i ∧ i < (↑(List.length U) : Int), V.vp (List.drop (Int.toNat i * 2) (unC U)) = V.vp (u8 g0 :: u8 g1 :: List.drop ((Int.toNat i + 1) * 2) (unC U))]) [(0, ⟨some (V.vp (u8 (g0, g1).fst :: u8 (g0, g1).snd :: List.drop ((Int.toNat i + 1) * 2) (unC U))), none⟩)] [3, 4, 5, 6, 8, 9, 11, 28, 29, 30] [3, 6, 11] (by kernel_rfl) ⟨(by omega), (congrArg V.vp hrw), trivial⟩ ?_
      refine AWP.region tcok hmix [(3, ⟨some (i64 g0), none⟩)] (os := [i64 (IntKind.wrap IntKind.i64 g0) = i64 g0]) (sf := St.mk [(3, tp (V.ptr 3 0)), (4, tp (vb false)), (5, tp (V.val (Value.pointer none))), (6, tp (V.ptr 6 0)), (8, tp (i64 1)), (9, tp (i64 (imax b g0))), (11, tp (V.ptr 11 0)), (28, tp (V.vs (unC U) (List.length U))), (29, tp (i64 (↑(List.length U) : Int))), (30, tp (i64 i)), (34, tp (i64 b)), (35, tp (V.ptr 11 0)), (36, tp (u8 g0)), (37, tp (i64 g0)), (38, tp (i64 (imax b g0)))] [(3, Blk.mk [V.vs (unC U) (List.length U), V.vs R nr, u16 l0, u16 l1, u16 l2, u16 l3, u16 l4, u16 l5, u16 l6, u16 l7, u16 l8, u16 l9, u16 l10, u16 l11, u16 l12, u16 l13, u16 l14, u16 l15, u8 m0, u8 m1, u8 m2, u8 m3, u8 m4, u8 m5, V.vs M nm, V.vs A na, u8 d0, u8 d1, u8 d2, u8 d3, u8 d4, u8 q0, u8 q1, u8 q2, u16 t0, u16 t1, u16 t2, u16 t3, u8 sc, u16 ap, i64 rm, i64 sd] true 42 none), (6, Blk.mk [V.val (Value.slice none 0 0), V.val (Value.slice none 0 0), u8 0, i32 0, i32 0, i32 0, i32 0, i32 0, i32 0] true 9 none), (11, Blk.mk [u8 g0, u8 g1] true 2 none)]) (by kernel_rfl) ⟨(wr_i64 (by omega) (by omega)), trivial⟩ ?_
      refine AWP.keep' [3, 4, 5, 6, 8, 9, 28, 29, 30] [3, 6] (sf := St.mk [(3, tp (V.ptr 3 0)), (4, tp (vb false)), (5, tp (V.val (Value.pointer none))), (6, tp (V.ptr 6 0)), (8, tp (i64 1)), (9, tp (i64 (imax b g0))), (28, tp (V.vs (unC U) (List.length U))), (29, tp (i64 (↑(List.length U) : Int))), (30, tp (i64 i))] [(3, Blk.mk [V.vs (unC U) (List.length U), V.vs R nr, u16 l0, u16 l1, u16 l2, u16 l3, u16 l4, u16 l5, u16 l6, u16 l7, u16 l8, u16 l9, u16 l10, u16 l11, u16 l12, u16 l13, u16 l14, u16 l15, u8 m0, u8 m1, u8 m2, u8 m3, u8 m4, u8 m5, V.vs M nm, V.vs A na, u8 d0, u8 d1, u8 d2, u8 d3, u8 d4, u8 q0, u8 q1, u8 q2, u16 t0, u16 t1, u16 t2, u16 t3, u8 sc, u16 ap, i64 rm, i64 sd] true 42 none), (6, Blk.mk [V.val (Value.slice none 0 0), V.val (Value.slice none 0 0), u8 0, i32 0, i32 0, i32 0, i32 0, i32 0, i32 0] true 9 none)]) (by kernel_rfl) ?_
      refine AWP.region tcok hmix [(0, ⟨some (i64 (i + 1)), none⟩)] (os := [i64 (IntKind.wrap IntKind.i64 (i + 1)) = i64 (i + 1)]) (sf := St.mk [(3, tp (V.ptr 3 0)), (4, tp (vb false)), (5, tp (V.val (Value.pointer none))), (6, tp (V.ptr 6 0)), (8, tp (i64 1)), (9, tp (i64 (imax b g0))), (28, tp (V.vs (unC U) (List.length U))), (29, tp (i64 (↑(List.length U) : Int))), (30, tp (i64 (i + 1))), (39, tp (i64 (i + 1)))] [(3, Blk.mk [V.vs (unC U) (List.length U), V.vs R nr, u16 l0, u16 l1, u16 l2, u16 l3, u16 l4, u16 l5, u16 l6, u16 l7, u16 l8, u16 l9, u16 l10, u16 l11, u16 l12, u16 l13, u16 l14, u16 l15, u8 m0, u8 m1, u8 m2, u8 m3, u8 m4, u8 m5, V.vs M nm, V.vs A na, u8 d0, u8 d1, u8 d2, u8 d3, u8 d4, u8 q0, u8 q1, u8 q2, u16 t0, u16 t1, u16 t2, u16 t3, u8 sc, u16 ap, i64 rm, i64 sd] true 42 none), (6, Blk.mk [V.val (Value.slice none 0 0), V.val (Value.slice none 0 0), u8 0, i32 0, i32 0, i32 0, i32 0, i32 0, i32 0] true 9 none)]) (by kernel_rfl) ⟨(wr_i64 (by omega) (by omega)), trivial⟩ ?_
      refine ⟨St.mk [(3, tp (V.ptr 3 0)), (4, tp (vb false)), (5, tp (V.val (Value.pointer none))), (6, tp (V.ptr 6 0)), (8, tp (i64 1)), (9, tp (i64 (imax b g0))), (28, tp (V.vs (unC U) (List.length U))), (29, tp (i64 (↑(List.length U) : Int))), (30, tp (i64 (i + 1)))] [(3, Blk.mk [V.vs (unC U) (List.length U), V.vs R nr, u16 l0, u16 l1, u16 l2, u16 l3, u16 l4, u16 l5, u16 l6, u16 l7, u16 l8, u16 l9, u16 l10, u16 l11, u16 l12, u16 l13, u16 l14, u16 l15, u8 m0, u8 m1, u8 m2, u8 m3, u8 m4, u8 m5, V.vs M nm, V.vs A na, u8 d0, u8 d1, u8 d2, u8 d3, u8 d4, u8 q0, u8 q1, u8 q2, u16 t0, u16 t1, u16 t2, u16 t3, u8 sc, u16 ap, i64 rm, i64 sd] true 42 none), (6, Blk.mk [V.val (Value.slice none 0 0), V.val (Value.slice none 0 0), u8 0, i32 0, i32 0, i32 0, i32 0, i32 0, i32 0] true 9 none)], by kernel_rfl, ?_⟩
      first | (exfalso; omega) | (exact ⟨(U.length - (i + 1)).toNat, (by omega), _, i + 1, rfl, (by rw [show (i + 1).toNat = i.toNat + 1 by omega]; exact hs), (by omega), (by omega), (by omega)⟩)
    simp only [decide_eq_false_iff_not] at hq1
    (exfalso; omega)
  · obtain rfl : i = U.length := by omega
    rw [Int.toNat_natCast, List.take_of_length_le (Nat.le_refl _)] at hb
    have cb := con_bound l0 l1 l2 l3 l4 l5 l6 l7 l8 l9 l10 l11 l12 l13 l14 l15 m0 m1 m2 m3 m4 m5 d0 d1 d2 d3 d4 q0 q1 q2 t0 t1 t2 t3 sc ap rm sd U hU hB R M A nr nm na
    rw [← hb] at cb
    have c1 := con_zlog
    have c2 := con_zqueue
    have c3 := con_zviol
    have c4 := con_zdrop
    have c5 := con_ztime
    have c6 := con_zmode
    have c7 := con_zmem
    have c8 := con_zbusy
    have c9 := con_zctx
    have c10 := con_zchain
    unfold nilE at c1 c2 c3 c4 c5 c6 c7 c8 c9 c10
    refine xe0 [3, 4, 5, 6, 8, 9, 28, 29, 30, 31] [3, 6] (by kernel_rfl) ?_
    refine AWP.seq ?_
    refine AWP.cond (b := decide ((↑(List.length U) : Int) < (↑(List.length U) : Int))) (by kernel_rfl) (fun hq2 => ?_) (fun hq2 => ?_)
    · simp only [decide_eq_true_eq] at hq2
      (exfalso; omega)
    simp only [decide_eq_false_iff_not] at hq2
    refine AWP.exit ?_
    refine xe1 (os := [Con Tryz.prog 34 [] [V.val (Value.pointer none)] [(2, Blk.mk [] true 0 (some (94, 5)))] (V.sl 2 0 0), Con Tryz.prog 38 [] [V.val (Value.pointer none)] [(2, Blk.mk [] true 0 (some (277, 5)))] (V.sl 2 0 0), Con Tryz.prog 37 [] [V.val (Value.pointer none)] [] (i64 0), Con Tryz.prog 43 [] [V.val (Value.pointer none)] [(2, Blk.mk [] true 0 (some (3, 1)))] (V.sl 2 0 0), Con Tryz.prog 18 [] [V.val (Value.pointer none)] [] (u32 0), Con Tryz.prog 36 [] [V.val (Value.pointer none)] [] (u8 0), true = true → Con Tryz.prog (31 : Nat) [] [V.val (Value.pointer none)] [] (V.val (Value.pointer none)) ∧ True, true = true → Con Tryz.prog (26 : Nat) [] [V.val (Value.pointer none)] [] (vb false) ∧ True, true = true → Con Tryz.prog (15 : Nat) [] [V.val (Value.pointer none)] [] (V.agg true [u16 (0 : Int), u16 (0 : Int), u8 (0 : Int), u8 (0 : Int), u8 (0 : Int), u8 (0 : Int), u8 (0 : Int), u8 (0 : Int), i8 (0 : Int), i8 (0 : Int), i8 (0 : Int), i8 (0 : Int), i8 (0 : Int), i8 (0 : Int), u8 (0 : Int), u16 (0 : Int), vb false, u8 (0 : Int)]) ∧ True, true = true → Con Tryz.prog (40 : Nat) [] [V.agg true [V.vs (unC U) (List.length U), V.vs R nr, u16 l0, u16 l1, u16 l2, u16 l3, u16 l4, u16 l5, u16 l6, u16 l7, u16 l8, u16 l9, u16 l10, u16 l11, u16 l12, u16 l13, u16 l14, u16 l15, u8 m0, u8 m1, u8 m2, u8 m3, u8 m4, u8 m5, V.vs M nm, V.vs A na, u8 d0, u8 d1, u8 d2, u8 d3, u8 d4, u8 q0, u8 q1, u8 q2, u16 t0, u16 t1, u16 t2, u16 t3, u8 sc, u16 ap, i64 rm, i64 sd]] [] (i64 (b + (8 : Int))) ∧ True, true = true → i64 (IntKind.wrap IntKind.i64 (b + (8 : Int))) = i64 (b + (8 : Int)) ∧ True, (true && b + (8 : Int) == b + (8 : Int)) = true → Con Tryz.prog (22 : Nat) [] [V.val (Value.pointer none)] [] (V.agg true [i8 (0 : Int), i8 (0 : Int), i8 (0 : Int), i8 (0 : Int), i8 (0 : Int), i8 (0 : Int)]) ∧ True, (true && b + (8 : Int) == b + (8 : Int) && true) = true → Con Tryz.prog (44 : Nat) [] [] [((8 : Nat), Blk.mk [V.agg true [u8 (17 : Int), u8 (1 : Int)], V.agg true [i64 (0 : Int), i64 (0 : Int)], V.agg true [u8 (19 : Int), u8 (8 : Int)], V.agg true [i64 (0 : Int), i64 (0 : Int)], V.agg true [u8 (19 : Int), u8 (9 : Int)], V.agg true [i64 (0 : Int), i64 (0 : Int)], V.agg true [u8 (3 : Int), u8 (27 : Int)], V.agg true [i64 (0 : Int), i64 (0 : Int)], V.agg true [u8 (12 : Int), u8 (1 : Int)], V.agg true [i64 (1 : Int), i64 (1 : Int)], V.agg true [u8 (12 : Int), u8 (2 : Int)], V.agg true [i64 (1 : Int), i64 (1 : Int)], V.agg true [u8 (19 : Int), u8 (2 : Int)], V.agg true [i64 (1 : Int), i64 (1 : Int)], V.agg true [u8 (19 : Int), u8 (4 : Int)], V.agg true [i64 (1 : Int), i64 (1 : Int)], V.agg true [u8 (19 : Int), u8 (5 : Int)], V.agg true [i64 (1 : Int), i64 (1 : Int)], V.agg true [u8 (128 : Int), u8 (1 : Int)], V.agg true [i64 (1 : Int), i64 (1 : Int)], V.agg true [u8 (128 : Int), u8 (2 : Int)], V.agg true [i64 (1 : Int), i64 (1 : Int)], V.agg true [u8 (128 : Int), u8 (3 : Int)], V.agg true [i64 (1 : Int), i64 (1 : Int)], V.agg true [u8 (128 : Int), u8 (4 : Int)], V.agg true [i64 (1 : Int), i64 (1 : Int)], V.agg true [u8 (128 : Int), u8 (5 : Int)], V.agg true [i64 (1 : Int), i64 (1 : Int)], V.agg true [u8 (128 : Int), u8 (6 : Int)], V.agg true [i64 (1 : Int), i64 (1 : Int)], V.agg true [u8 (128 : Int), u8 (7 : Int)], V.agg true [i64 (1 : Int), i64 (1 : Int)], V.agg true [u8 (128 : Int), u8 (8 : Int)], V.agg true [i64 (1 : Int), i64 (1 : Int)], V.agg true [u8 (12 : Int), u8 (7 : Int)], V.agg true [i64 (19 : Int), i64 (19 : Int)], V.agg true [u8 (19 : Int), u8 (1 : Int)], V.agg true [i64 (4 : Int), i64 (4 : Int)]] true (0 : Nat) (some ((0 : Nat), (0 : Nat))))] (V.mp (8 : Nat)) ∧ True, (true && b + (8 : Int) == b + (8 : Int) && true) = true → Con Tryz.prog (45 : Nat) [] [] [] (V.vs [u8 (17 : Int), u8 (1 : Int), i64 (0 : Int), i64 (0 : Int), u8 (19 : Int), u8 (8 : Int), i64 (0 : Int), i64 (0 : Int), u8 (19 : Int), u8 (9 : Int), i64 (0 : Int), i64 (0 : Int), u8 (3 : Int), u8 (27 : Int), i64 (0 : Int), i64 (0 : Int), u8 (12 : Int), u8 (7 : Int), i64 (19 : Int), i64 (19 : Int), u8 (19 : Int), u8 (1 : Int), i64 (4 : Int), i64 (4 : Int), u8 (12 : Int), u8 (1 : Int), i64 (1 : Int), i64 (1 : Int), u8 (12 : Int), u8 (2 : Int), i64 (1 : Int), i64 (1 : Int), u8 (19 : Int), u8 (2 : Int), i64 (1 : Int), i64 (1 : Int), u8 (19 : Int), u8 (4 : Int), i64 (1 : Int), i64 (1 : Int), u8 (19 : Int), u8 (5 : Int), i64 (1 : Int), i64 (1 : Int), u8 (128 : Int), u8 (1 : Int), i64 (1 : Int), i64 (1 : Int), u8 (128 : Int), u8 (2 : Int), i64 (1 : Int), i64 (1 : Int), u8 (128 : Int), u8 (3 : Int), i64 (1 : Int), i64 (1 : Int), u8 (128 : Int), u8 (4 : Int), i64 (1 : Int), i64 (1 : Int), u8 (128 : Int), u8 (5 : Int), i64 (1 : Int), i64 (1 : Int), u8 (128 : Int), u8 (6 : Int), i64 (1 : Int), i64 (1 : Int), u8 (128 : Int), u8 (7 : Int), i64 (1 : Int), i64 (1 : Int), u8 (128 : Int), u8 (8 : Int), i64 (1 : Int), i64 (1 : Int)] (19 : Nat)) ∧ True, (true && b + (8 : Int) == b + (8 : Int) && true && true) = true → Con Tryz.prog (46 : Nat) [] [] [] (V.agg true [i8 (-1 : Int), i8 (-1 : Int), i8 (-1 : Int), i8 (-1 : Int), i8 (-1 : Int), i8 (-1 : Int)]) ∧ True, (true && b + (8 : Int) == b + (8 : Int) && true && true) = true → Con Tryz.prog (29 : Nat) [] [] [] (V.agg true [i8 (-1 : Int), i8 (-1 : Int), i8 (-1 : Int), i8 (-1 : Int), i8 (-1 : Int), i8 (-1 : Int)]) ∧ True]) [(8, ⟨none, some ⟨V.sl 2 0 0, [(2, Blk.mk [] true 0 (some (94, 5)))], []⟩⟩), (12, ⟨none, some ⟨V.sl 2 0 0, [(2, Blk.mk [] true 0 (some (277, 5)))], []⟩⟩), (16, ⟨none, some ⟨i64 0, [], []⟩⟩), (19, ⟨none, some ⟨V.sl 2 0 0, [(2, Blk.mk [] true 0 (some (3, 1)))], []⟩⟩), (23, ⟨none, some ⟨u32 0, [], []⟩⟩), (27, ⟨none, some ⟨u8 0, [], []⟩⟩), (33, ⟨none, some ⟨V.val (Value.pointer none), [], []⟩⟩), (38, ⟨none, some ⟨vb false, [], []⟩⟩), (47, ⟨none, some ⟨V.agg true [u16 0, u16 0, u8 0, u8 0, u8 0, u8 0, u8 0, u8 0, i8 0, i8 0, i8 0, i8 0, i8 0, i8 0, u8 0, u16 0, vb false, u8 0], [], []⟩⟩), (53, ⟨none, some ⟨i64 (b + 8), [], []⟩⟩), (55, ⟨some (i64 (b + 8)), none⟩), (60, ⟨none, some ⟨V.agg true [i8 0, i8 0, i8 0, i8 0, i8 0, i8 0], [], []⟩⟩), (65, ⟨none, some ⟨V.mp 8, [(8, Blk.mk mcT true 0 (some (0, 0)))], []⟩⟩), (67, ⟨none, some ⟨V.vs rcells 19, [], []⟩⟩), (72, ⟨none, some ⟨V.agg true [i8 (-1), i8 (-1), i8 (-1), i8 (-1), i8 (-1), i8 (-1)], [], []⟩⟩), (73, ⟨none, some ⟨V.agg true [i8 (-1), i8 (-1), i8 (-1), i8 (-1), i8 (-1), i8 (-1)], [], []⟩⟩)] [4] [] (by kernel_rfl) ⟨(c1 ), (c2 ), (c4 ), (c3 ), (c5 ), (c6 ), (fun _ => ⟨(c7 ), trivial⟩), (fun _ => ⟨(c8 ), trivial⟩), (fun _ => ⟨(c9 ), trivial⟩), (fun _ => ⟨(cb ), trivial⟩), (by intro hc0; first | (cases hc0; done) | ((try simp only [Bool.or_false, Bool.false_or, Bool.true_and, Bool.and_true, decide_eq_true_eq, decide_eq_false_iff_not, Bool.and_eq_true, Bool.or_eq_true, Bool.or_eq_false_iff, Bool.not_eq_true', Bool.and_eq_false_iff, beq_iff_eq, bne_iff_ne, bne_eq_false_iff_eq, beq_eq_false_iff_ne, Bool.not_eq_false'] at hc0); exact ⟨(wr_i64 (by omega) (by omega)), trivial⟩)), (fun _ => ⟨(c10 ), trivial⟩), (fun _ => ⟨(con_table ), trivial⟩), (fun _ => ⟨(con_rows ), trivial⟩), (fun _ => ⟨(con_rnone ), trivial⟩), (fun _ => ⟨(con_znone ), trivial⟩), trivial⟩ ?_
    refine AWP.ret ?_
    refine ⟨Or.inr rfl, Eq.trans (b := some ([], vb (true && b + 8 == b + 8 && true && true && true))) (by kernel_rfl) ?_⟩
    (simp; done)
end Go.Proofs.YtcekfepgdfcinaaGreatDoor

namespace Go.Proofs.YtcekfepgdfcinaaGreatDoor
open Go Go.Ab
set_option linter.unusedSimpArgs false
set_option linter.unusedVariables false
set_option maxRecDepth 100000
theorem rows_map {α : Type} {ty : List V → Prop} {f : α → List V} {P : α → Prop} (h : ∀ r, ty r → ∃ a, r = f a ∧ P a) : ∀ {n : Nat} {xs : List V}, Go.Ab.Rows ty n xs → ∃ l : List α, l.length = n ∧ xs = l.flatMap f ∧ ∀ a ∈ l, P a
  | 0, xs, hr => ⟨[], rfl, rows_nil hr, fun a ha => by cases ha⟩
  | n + 1, xs, hr => by
    obtain ⟨a, b, rfl, h1, h2⟩ := rows_cons hr
    obtain ⟨x, rfl, hx⟩ := h a h1
    obtain ⟨l, e1, rfl, e3⟩ := rows_map h h2
    refine ⟨x :: l, by rw [List.length_cons, e1], rfl, fun y hy => ?_⟩
    rcases List.mem_cons.1 hy with rfl | hy
    · exact hx
    · exact e3 y hy
theorem u8s_flat (b : List Int) : b.flatMap (fun k : Int => [u8 k]) = u8s b := by
  induction b with
  | nil => rfl
  | cons k r ih => exact congrArg (u8 k :: ·) ih
theorem len5 {l : List Int} (h : l.length = 5) : ∃ a b c d e, l = [a, b, c, d, e] := by
  match l, h with
  | [a, b, c, d, e], _ => exact ⟨_, _, _, _, _, rfl⟩
theorem len4 {l : List Int} (h : l.length = 4) : ∃ a b c d, l = [a, b, c, d] := by
  match l, h with
  | [a, b, c, d], _ => exact ⟨_, _, _, _, rfl⟩
theorem len6 {l : List Int} (h : l.length = 6) : ∃ a b c d e f, l = [a, b, c, d, e, f] := by
  match l, h with
  | [a, b, c, d, e, f], _ => exact ⟨_, _, _, _, _, _, rfl⟩
theorem len16 {l : List Int} (h : l.length = 16) : ∃ a b c d e f g i j k m n o p q r, l = [a, b, c, d, e, f, g, i, j, k, m, n, o, p, q, r] := by
  match l, h with
  | [a, b, c, d, e, f, g, i, j, k, m, n, o, p, q, r], _ => exact ⟨_, _, _, _, _, _, _, _, _, _, _, _, _, _, _, _, rfl⟩
theorem law_ExecNil (x y : V) (hx : TyV tc 9 50 x) (hy : TyV tc 9 38 y) : Con Tryz.prog 10 [] [x, y] [] (vb true) := by
  obtain ⟨xs, rfl, hr⟩ := hx
  obtain ⟨_, _, rfl, hp, _, _, rfl, ⟨a, rfl, _⟩, _, _, rfl, ⟨w, rfl, _⟩, _, _, rfl, ⟨fs, fn, rfl, hfn, hf⟩, _, _, rfl, ⟨rs, rfl, _⟩, _, _, rfl, ⟨cs, cn, rfl, hcn, hc⟩, _, _, rfl, ⟨wd, rfl⟩, _, _, rfl, ⟨hw, rfl⟩, rfl⟩ := hr
  obtain ⟨pl, hp1, rfl, _⟩ := rows_map (f := fun k : Int => [i32 k]) (P := fun _ => True) (fun r h => by obtain ⟨k, rfl, _⟩ := h; exact ⟨k, rfl, trivial⟩) hp
  obtain ⟨p0, p1, p2, p3, p4, p5, p6, p7, p8, p9, p10, p11, p12, p13, p14, p15, rfl⟩ := len16 hp1
  obtain ⟨F, f1, rfl, _⟩ := rows_map (f := fun f : Int × Int × Int => [i64 f.1, i64 f.2.1, u8 f.2.2]) (P := fun _ => True) (fun r h => by
    obtain ⟨_, _, rfl, ⟨i, rfl, _⟩, _, _, rfl, ⟨at_, rfl, _⟩, _, _, rfl, ⟨m, rfl, _⟩, rfl⟩ := h
    exact ⟨(i, at_, m), rfl, trivial⟩) hf
  obtain ⟨C, c1, rfl, c2⟩ := rows_map (f := fun c : List Int => [V.vs (u8s c) c.length]) (P := fun c => BL c ∧ c.length ≤ 9223372036854775807) (fun r h => by
    obtain ⟨bs, bn, rfl, hbn, hb⟩ := h
    obtain ⟨b, b1, rfl, b2⟩ := rows_map (f := fun k : Int => [u8 k]) (P := fun k => 0 ≤ k ∧ k < 256) (fun r h => by obtain ⟨k, rfl, a1, a2⟩ := h; exact ⟨k, rfl, a1, Int.lt_add_one_of_le a2⟩) hb
    subst b1
    refine ⟨b, ?_, b2, hbn⟩
    rw [u8s_flat]) hc
  obtain ⟨ys, rfl, hr⟩ := hy
  obtain ⟨_, _, rfl, ⟨us, un, rfl, hun, hu⟩, _, _, rfl, ⟨_, _, rfl, ⟨R, nr, rfl, _, _⟩, _, _, rfl, hl, rfl⟩, _, _, rfl, hm, _, _, rfl, ⟨M, nm, rfl, _, _⟩, _, _, rfl, ⟨A, na, rfl, _, _⟩, _, _, rfl, hd, _, _, rfl, ⟨_, _, rfl, ⟨q0, rfl, _⟩, _, _, rfl, ⟨q1, rfl, _⟩, _, _, rfl, ⟨q2, rfl, _⟩, _, _, rfl, ht, rfl⟩, _, _, rfl, ⟨sc, rfl, _⟩, _, _, rfl, ⟨ap, rfl, _⟩, _, _, rfl, ⟨rm, rfl, _⟩, _, _, rfl, ⟨sd, rfl, _⟩, rfl⟩ := hr
  obtain ⟨U, u1, rfl, u2⟩ := rows_map (f := fun u : Int × Int => [u8 u.1, u8 u.2]) (P := fun u => 0 ≤ u.1 ∧ u.1 < 256) (fun r h => by
    obtain ⟨_, _, rfl, ⟨i, rfl, i1, i2⟩, _, _, rfl, ⟨m, rfl, _⟩, rfl⟩ := h
    exact ⟨(i, m), rfl, i1, Int.lt_add_one_of_le i2⟩) hu
  obtain ⟨ll, hl1, rfl, _⟩ := rows_map (f := fun k : Int => [u16 k]) (P := fun _ => True) (fun r h => by obtain ⟨k, rfl, _⟩ := h; exact ⟨k, rfl, trivial⟩) hl
  obtain ⟨l0, l1, l2, l3, l4, l5, l6, l7, l8, l9, l10, l11, l12, l13, l14, l15, rfl⟩ := len16 hl1
  obtain ⟨ml, hm1, rfl, _⟩ := rows_map (f := fun k : Int => [u8 k]) (P := fun _ => True) (fun r h => by obtain ⟨k, rfl, _⟩ := h; exact ⟨k, rfl, trivial⟩) hm
  obtain ⟨m0, m1, m2, m3, m4, m5, rfl⟩ := len6 hm1
  obtain ⟨dl, hd1, rfl, _⟩ := rows_map (f := fun k : Int => [u8 k]) (P := fun _ => True) (fun r h => by obtain ⟨k, rfl, _⟩ := h; exact ⟨k, rfl, trivial⟩) hd
  obtain ⟨d0, d1, d2, d3, d4, rfl⟩ := len5 hd1
  obtain ⟨tl, ht1, rfl, _⟩ := rows_map (f := fun k : Int => [u16 k]) (P := fun _ => True) (fun r h => by obtain ⟨k, rfl, _⟩ := h; exact ⟨k, rfl, trivial⟩) ht
  obtain ⟨t0, t1, t2, t3, rfl⟩ := len4 ht1
  subst f1
  subst c1
  subst u1
  have e : C.flatMap (fun c : List Int => [V.vs (u8s c) c.length]) = cmC C := by
    unfold cmC
    clear c2 hcn hc
    induction C with
    | nil => rfl
    | cons c r ih => exact congrArg (V.vs (u8s c) c.length :: ·) ih
  rw [e]
  exact exec_nil p0 p1 p2 p3 p4 p5 p6 p7 p8 p9 p10 p11 p12 p13 p14 p15 a w rs wd hw F hfn C c2 hcn l0 l1 l2 l3 l4 l5 l6 l7 l8 l9 l10 l11 l12 l13 l14 l15 m0 m1 m2 m3 m4 m5 d0 d1 d2 d3 d4 q0 q1 q2 t0 t1 t2 t3 sc ap rm sd U hun u2 R M A nr nm na
end Go.Proofs.YtcekfepgdfcinaaGreatDoor
