/- A context that is kept: read, reset, booted. -/
import Derived.Test.YtmeiemdnhjnpcaaRg
import Derived.Test.YtmeiemdnhjnpcaaCtxT
import Derived.Test.YtmeiemdnhjnpcaaGrdB
namespace Go.Proofs.Ytmeiemdnhjnpcaa
open Go.Ab
set_option linter.unusedSimpArgs false
set_option linter.unusedVariables false
set_option maxHeartbeats 4000000
/-- The bytes of a context. -/
def cby (f h r0 r1 r2 r3 r4 r5 k0 k1 k2 k3 k4 k5 mo rs ih : Int) (ex : Bool) : List Int := [f / 256, f % 256, h / 256, h % 256, r0, r1, r2, r3, r4, r5, k0 + 1, k1 + 1, k2 + 1, k3 + 1, k4 + 1, k5 + 1, mo, rs / 256, rs % 256, o1 ex, ih]
theorem cby_len (f h r0 r1 r2 r3 r4 r5 k0 k1 k2 k3 k4 k5 mo rs ih : Int) (ex : Bool) : (cby f h r0 r1 r2 r3 r4 r5 k0 k1 k2 k3 k4 k5 mo rs ih ex).length = 21 := rfl
theorem cby_bl (f h r0 r1 r2 r3 r4 r5 k0 k1 k2 k3 k4 k5 mo rs ih : Int) (ex : Bool) (hb : 0 ≤ f ∧ f < 65536 ∧ 0 ≤ h ∧ h < 65536 ∧ 0 ≤ r0 ∧ r0 < 256 ∧ 0 ≤ r1 ∧ r1 < 256 ∧ 0 ≤ r2 ∧ r2 < 256 ∧ 0 ≤ r3 ∧ r3 < 256 ∧ 0 ≤ r4 ∧ r4 < 256 ∧ 0 ≤ r5 ∧ r5 < 256 ∧ -128 ≤ k0 ∧ k0 < 128 ∧ -128 ≤ k1 ∧ k1 < 128 ∧ -128 ≤ k2 ∧ k2 < 128 ∧ -128 ≤ k3 ∧ k3 < 128 ∧ -128 ≤ k4 ∧ k4 < 128 ∧ -128 ≤ k5 ∧ k5 < 128 ∧ 0 ≤ mo ∧ mo < 256 ∧ 0 ≤ rs ∧ rs < 65536 ∧ 0 ≤ ih ∧ ih < 256) (hy : -1 ≤ k0 ∧ k0 ≤ 15 ∧ -1 ≤ k1 ∧ k1 ≤ 15 ∧ -1 ≤ k2 ∧ k2 ≤ 15 ∧ -1 ≤ k3 ∧ k3 ≤ 15 ∧ -1 ≤ k4 ∧ k4 ≤ 15 ∧ -1 ≤ k5 ∧ k5 ≤ 15 ∧ mo ≤ 3 ∧ ih ≤ 31) : BL (cby f h r0 r1 r2 r3 r4 r5 k0 k1 k2 k3 k4 k5 mo rs ih ex) := by
  have oe := o1_bd ex
  unfold cby
  simp only [BL, List.forall_mem_cons, List.not_mem_nil, false_implies, implies_true, and_true]
  omega
theorem con_cbytes (f h r0 r1 r2 r3 r4 r5 k0 k1 k2 k3 k4 k5 mo rs ih : Int) (ex : Bool) (hb : 0 ≤ f ∧ f < 65536 ∧ 0 ≤ h ∧ h < 65536 ∧ 0 ≤ r0 ∧ r0 < 256 ∧ 0 ≤ r1 ∧ r1 < 256 ∧ 0 ≤ r2 ∧ r2 < 256 ∧ 0 ≤ r3 ∧ r3 < 256 ∧ 0 ≤ r4 ∧ r4 < 256 ∧ 0 ≤ r5 ∧ r5 < 256 ∧ -128 ≤ k0 ∧ k0 < 128 ∧ -128 ≤ k1 ∧ k1 < 128 ∧ -128 ≤ k2 ∧ k2 < 128 ∧ -128 ≤ k3 ∧ k3 < 128 ∧ -128 ≤ k4 ∧ k4 < 128 ∧ -128 ≤ k5 ∧ k5 < 128 ∧ 0 ≤ mo ∧ mo < 256 ∧ 0 ≤ rs ∧ rs < 65536 ∧ 0 ≤ ih ∧ ih < 256) (hy : -1 ≤ k0 ∧ k0 ≤ 15 ∧ -1 ≤ k1 ∧ k1 ≤ 15 ∧ -1 ≤ k2 ∧ k2 ≤ 15 ∧ -1 ≤ k3 ∧ k3 ≤ 15 ∧ -1 ≤ k4 ∧ k4 ≤ 15 ∧ -1 ≤ k5 ∧ k5 ≤ 15 ∧ mo ≤ 3 ∧ ih ≤ 31) : Con Try.prog 19 [] [.agg true [u16 f, u16 h, u8 r0, u8 r1, u8 r2, u8 r3, u8 r4, u8 r5, i8 k0, i8 k1, i8 k2, i8 k3, i8 k4, i8 k5, u8 mo, u16 rs, vb ex, u8 ih]] [(23, ⟨u8s (cby f h r0 r1 r2 r3 r4 r5 k0 k1 k2 k3 k4 k5 mo rs ih ex), true, 0, some (5, 1)⟩)] (.sl 23 0 21) := con_bytes f h r0 r1 r2 r3 r4 r5 k0 k1 k2 k3 k4 k5 mo rs ih ex hb hy
theorem con_cpars (f h r0 r1 r2 r3 r4 r5 k0 k1 k2 k3 k4 k5 mo rs ih : Int) (ex : Bool) (hb : 0 ≤ f ∧ f < 65536 ∧ 0 ≤ h ∧ h < 65536 ∧ 0 ≤ r0 ∧ r0 < 256 ∧ 0 ≤ r1 ∧ r1 < 256 ∧ 0 ≤ r2 ∧ r2 < 256 ∧ 0 ≤ r3 ∧ r3 < 256 ∧ 0 ≤ r4 ∧ r4 < 256 ∧ 0 ≤ r5 ∧ r5 < 256 ∧ -128 ≤ k0 ∧ k0 < 128 ∧ -128 ≤ k1 ∧ k1 < 128 ∧ -128 ≤ k2 ∧ k2 < 128 ∧ -128 ≤ k3 ∧ k3 < 128 ∧ -128 ≤ k4 ∧ k4 < 128 ∧ -128 ≤ k5 ∧ k5 < 128 ∧ 0 ≤ mo ∧ mo < 256 ∧ 0 ≤ rs ∧ rs < 65536 ∧ 0 ≤ ih ∧ ih < 256) (hy : -1 ≤ k0 ∧ k0 ≤ 15 ∧ -1 ≤ k1 ∧ k1 ≤ 15 ∧ -1 ≤ k2 ∧ k2 ≤ 15 ∧ -1 ≤ k3 ∧ k3 ≤ 15 ∧ -1 ≤ k4 ∧ k4 ≤ 15 ∧ -1 ≤ k5 ∧ k5 ≤ 15 ∧ mo ≤ 3 ∧ ih ≤ 31) : Con Try.prog 26 [] [.vs (u8s (cby f h r0 r1 r2 r3 r4 r5 k0 k1 k2 k3 k4 k5 mo rs ih ex)) 21] [] (.tup [.agg true [u16 f, u16 h, u8 r0, u8 r1, u8 r2, u8 r3, u8 r4, u8 r5, i8 k0, i8 k1, i8 k2, i8 k3, i8 k4, i8 k5, u8 mo, u16 rs, vb ex, u8 ih], i64 0]) := by
  have oe := o1_bd ex
  have e := parse_y (f / 256) (f % 256) (h / 256) (h % 256) r0 r1 r2 r3 r4 r5 (k0 + 1) (k1 + 1) (k2 + 1) (k3 + 1) (k4 + 1) (k5 + 1) mo (rs / 256) (rs % 256) (o1 ex) ih (by omega) (by omega) (by omega)
  rw [show f / 256 * 256 + f % 256 = f by omega, show h / 256 * 256 + h % 256 = h by omega, show rs / 256 * 256 + rs % 256 = rs by omega, show k0 + 1 - 1 = k0 by omega, show k1 + 1 - 1 = k1 by omega, show k2 + 1 - 1 = k2 by omega, show k3 + 1 - 1 = k3 by omega, show k4 + 1 - 1 = k4 by omega, show k5 + 1 - 1 = k5 by omega, show (o1 ex == 1) = ex by cases ex <;> rfl] at e
  exact e
def rsn (rs : Int) : Int := if rs < 65535 then rs + 1 else rs
theorem con_creset (f h r0 r1 r2 r3 r4 r5 k0 k1 k2 k3 k4 k5 mo rs ih : Int) (ex : Bool) (hr : 0 ≤ rs ∧ rs < 65536) : Con Try.prog 60 [] [.agg true [u16 f, u16 h, u8 r0, u8 r1, u8 r2, u8 r3, u8 r4, u8 r5, i8 k0, i8 k1, i8 k2, i8 k3, i8 k4, i8 k5, u8 mo, u16 rs, vb ex, u8 ih]] [] (.agg true [u16 f, u16 h, u8 r0, u8 r1, u8 r2, u8 r3, u8 r4, u8 r5, i8 k0, i8 k1, i8 k2, i8 k3, i8 k4, i8 k5, u8 0, u16 (rsn rs), vb ex, u8 ih]) := by
  refine Con.of (C := ⟨Try.prog, tc, Try.f60.ntmps⟩) [] tcok Try.func60 rfl rfl (by kernel_rfl) (by kernel_rfl) ?_
  refine xe0 [1, 2] [1, 2] (by kernel_rfl) ?_
  refine AWP.seq ?_
  refine xe0 [1, 2, 5] [1, 2] (by kernel_rfl) ?_
  refine AWP.cond (b := decide (rs < 65535)) (by kernel_rfl) (fun hq0 => ?_) (fun hq0 => ?_)
  · simp only [decide_eq_true_eq] at hq0
    refine xg1 (os := [u16 (IntKind.wrap IntKind.u16 (rs + 1)) = u16 (rs + 1)]) [(2, ⟨some (u16 (rs + 1)), none⟩)] [1, 2] [1, 2] (by kernel_rfl) ⟨(wr_u16 (by omega) (by omega)), trivial⟩ ?_
    refine xe0 [1, 2] [1, 2] (by kernel_rfl) ?_
    refine xe0 [2] [2] (by kernel_rfl) ?_
    refine AWP.ret ?_
    refine ⟨Or.inr rfl, Eq.trans (b := some ([], V.agg true [u16 f, u16 h, u8 r0, u8 r1, u8 r2, u8 r3, u8 r4, u8 r5, i8 k0, i8 k1, i8 k2, i8 k3, i8 k4, i8 k5, u8 0, u16 (rs + 1), vb ex, u8 ih])) (by kernel_rfl) ?_⟩
    first | rfl | (unfold rsn; rw [if_pos (by assumption)]; done) | (unfold rsn; rw [if_neg (by assumption)]; done)
  simp only [decide_eq_false_iff_not] at hq0
  refine AWP.skip ?_
  refine xe0 [1, 2] [1, 2] (by kernel_rfl) ?_
  refine xe0 [2] [2] (by kernel_rfl) ?_
  refine AWP.ret ?_
  refine ⟨Or.inr rfl, Eq.trans (b := some ([], V.agg true [u16 f, u16 h, u8 r0, u8 r1, u8 r2, u8 r3, u8 r4, u8 r5, i8 k0, i8 k1, i8 k2, i8 k3, i8 k4, i8 k5, u8 0, u16 rs, vb ex, u8 ih])) (by kernel_rfl) ?_⟩
  first | rfl | (unfold rsn; rw [if_pos (by assumption)]; done) | (unfold rsn; rw [if_neg (by assumption)]; done)
theorem con_cread_y (f h r0 r1 r2 r3 r4 r5 k0 k1 k2 k3 k4 k5 mo rs ih : Int) (ex : Bool) (hb : 0 ≤ f ∧ f < 65536 ∧ 0 ≤ h ∧ h < 65536 ∧ 0 ≤ r0 ∧ r0 < 256 ∧ 0 ≤ r1 ∧ r1 < 256 ∧ 0 ≤ r2 ∧ r2 < 256 ∧ 0 ≤ r3 ∧ r3 < 256 ∧ 0 ≤ r4 ∧ r4 < 256 ∧ 0 ≤ r5 ∧ r5 < 256 ∧ -128 ≤ k0 ∧ k0 < 128 ∧ -128 ≤ k1 ∧ k1 < 128 ∧ -128 ≤ k2 ∧ k2 < 128 ∧ -128 ≤ k3 ∧ k3 < 128 ∧ -128 ≤ k4 ∧ k4 < 128 ∧ -128 ≤ k5 ∧ k5 < 128 ∧ 0 ≤ mo ∧ mo < 256 ∧ 0 ≤ rs ∧ rs < 65536 ∧ 0 ≤ ih ∧ ih < 256) (hy : -1 ≤ k0 ∧ k0 ≤ 15 ∧ -1 ≤ k1 ∧ k1 ≤ 15 ∧ -1 ≤ k2 ∧ k2 ≤ 15 ∧ -1 ≤ k3 ∧ k3 ≤ 15 ∧ -1 ≤ k4 ∧ k4 ≤ 15 ∧ -1 ≤ k5 ∧ k5 ≤ 15 ∧ mo ≤ 3 ∧ ih ≤ 31) (a b c : List Int) (ha : BL a) (hb1 : BL b) (hc : BL c) (hla : a.length ≤ 1000000) (hlb : b.length ≤ 1000000) (hlc : c.length ≤ 1000000) (nx : V) (m : List Int) (k : Nat) (hv : vst [a, b, c] = (k, m)) (hk : 2 ≤ k) (hm : cPo m = cby f h r0 r1 r2 r3 r4 r5 k0 k1 k2 k3 k4 k5 mo rs ih ex) : Con Try.prog 59 [] [.vp [B8 a, B8 b, B8 c, nx]] [] (.tup [.agg true [u16 f, u16 h, u8 r0, u8 r1, u8 r2, u8 r3, u8 r4, u8 r5, i8 k0, i8 k1, i8 k2, i8 k3, i8 k4, i8 k5, u8 mo, u16 rs, vb ex, u8 ih], vb true]) := by
  have hp := con_cpars f h r0 r1 r2 r3 r4 r5 k0 k1 k2 k3 k4 k5 mo rs ih ex hb hy
  obtain ⟨Q, hQ⟩ : ∃ Q, cby f h r0 r1 r2 r3 r4 r5 k0 k1 k2 k3 k4 k5 mo rs ih ex = Q := ⟨_, rfl⟩
  have hl : Q.length = 21 := by rw [← hQ]; rfl
  have g := con_gread_y a b c ha hb1 hc hla hlb hlc nx m k hv hk
  rw [hm, hQ, hl] at g
  rw [hQ] at hp
  refine Con.of (C := ⟨Try.prog, tc, Try.f59.ntmps⟩) [] tcok Try.func59 rfl rfl (by kernel_rfl) (by kernel_rfl) ?_
  refine xe0 [0, 2, 3] [2] (by kernel_rfl) ?_
  refine xe1 (os := [Con Try.prog 47 [] [V.vp [B8 a, B8 b, B8 c, nx]] [(1210005, Blk.mk (u8s Q) true 0 (some (5, 1)))] (V.tup [u32 (cNo m), V.sl 1210005 0 21, i64 0])]) [(1, ⟨none, some ⟨V.tup [u32 (cNo m), V.sl 1210005 0 21, i64 0], [(1210005, Blk.mk (u8s Q) true 0 (some (5, 1)))], []⟩⟩)] [2, 3, 5, 6] [2, 1320005] (by kernel_rfl) ⟨(g ), trivial⟩ ?_
  refine AWP.seq ?_
  refine xe0 [2, 3, 5, 6, 15] [2, 1320005] (by kernel_rfl) ?_
  refine AWP.condF (by kernel_rfl) ?_
  refine AWP.skip ?_
  refine xe1 (os := [VO (V.tup [V.agg true [u16 f, u16 h, u8 r0, u8 r1, u8 r2, u8 r3, u8 r4, u8 r5, i8 k0, i8 k1, i8 k2, i8 k3, i8 k4, i8 k5, u8 mo, u16 rs, vb ex, u8 ih], i64 (0 : Int)]), VOH [], Con Try.prog 26 [] [V.vs (u8s Q) 21] [] (V.tup [V.agg true [u16 f, u16 h, u8 r0, u8 r1, u8 r2, u8 r3, u8 r4, u8 r5, i8 k0, i8 k1, i8 k2, i8 k3, i8 k4, i8 k5, u8 mo, u16 rs, vb ex, u8 ih], i64 0]), (0 : Nat) = (0 : Nat), (21 : Nat) = List.length (u8s Q)]) [(1, ⟨none, some ⟨V.tup [V.agg true [u16 f, u16 h, u8 r0, u8 r1, u8 r2, u8 r3, u8 r4, u8 r5, i8 k0, i8 k1, i8 k2, i8 k3, i8 k4, i8 k5, u8 mo, u16 rs, vb ex, u8 ih], i64 0], [], [(1320005, true)]⟩⟩)] [2, 3, 6, 7] [2, 7] (by kernel_rfl) ⟨(VO.tup (VOL.cons (VO.agg (VOL.cons (VO.val _) (VOL.cons (VO.val _) (VOL.cons (VO.val _) (VOL.cons (VO.val _) (VOL.cons (VO.val _) (VOL.cons (VO.val _) (VOL.cons (VO.val _) (VOL.cons (VO.val _) (VOL.cons (VO.val _) (VOL.cons (VO.val _) (VOL.cons (VO.val _) (VOL.cons (VO.val _) (VOL.cons (VO.val _) (VOL.cons (VO.val _) (VOL.cons (VO.val _) (VOL.cons (VO.val _) (VOL.cons (VO.val _) (VOL.cons (VO.val _) VOL.nil))))))))))))))))))) (VOL.cons (VO.val _) VOL.nil))), trivial, (hp ), (by omega), (by (simp [len_u8s]; omega)), trivial⟩ ?_
  refine AWP.seq ?_
  refine xe0 [2, 3, 7, 23] [2, 7] (by kernel_rfl) ?_
  refine AWP.condF (by kernel_rfl) ?_
  refine AWP.skip ?_
  refine xe0 [2, 3] [2] (by kernel_rfl) ?_
  refine AWP.ret ?_
  refine ⟨Or.inr rfl, Eq.trans (b := some ([], V.tup [V.agg true [u16 f, u16 h, u8 r0, u8 r1, u8 r2, u8 r3, u8 r4, u8 r5, i8 k0, i8 k1, i8 k2, i8 k3, i8 k4, i8 k5, u8 mo, u16 rs, vb ex, u8 ih], vb true])) (by kernel_rfl) ?_⟩
  rfl
theorem con_cread_n (a b c : List Int) (ha : BL a) (hb1 : BL b) (hc : BL c) (hla : a.length ≤ 1000000) (hlb : b.length ≤ 1000000) (hlc : c.length ≤ 1000000) (nx : V) (hk : (vst [a, b, c]).1 < 2) : Con Try.prog 59 [] [.vp [B8 a, B8 b, B8 c, nx]] [] (.tup [.agg true [u16 0, u16 0, u8 0, u8 0, u8 0, u8 0, u8 0, u8 0, i8 (-1), i8 (-1), i8 (-1), i8 (-1), i8 (-1), i8 (-1), u8 0, u16 0, vb false, u8 0], vb false]) := by
  have g := con_gread_n a b c ha hb1 hc hla hlb hlc nx hk
  refine Con.of (C := ⟨Try.prog, tc, Try.f59.ntmps⟩) [] tcok Try.func59 rfl rfl (by kernel_rfl) (by kernel_rfl) ?_
  refine xe0 [0, 2, 3] [2] (by kernel_rfl) ?_
  refine xe1 (os := [Con Try.prog 47 [] [V.vp [B8 a, B8 b, B8 c, nx]] [(120003, Blk.mk [] true 0 (some (5, 1)))] (V.tup [u32 0, V.sl 120003 0 0, i64 3])]) [(1, ⟨none, some ⟨V.tup [u32 0, V.sl 120003 0 0, i64 3], [(120003, Blk.mk [] true 0 (some (5, 1)))], []⟩⟩)] [2, 3, 5, 6] [2, 230003] (by kernel_rfl) ⟨(g ), trivial⟩ ?_
  refine AWP.seq ?_
  refine xe0 [2, 3, 5, 6, 15] [2, 230003] (by kernel_rfl) ?_
  refine AWP.condT (by kernel_rfl) ?_
  refine xe1 [(0, ⟨none, some ⟨V.agg true [u16 0, u16 0, u8 0, u8 0, u8 0, u8 0, u8 0, u8 0, i8 (-1), i8 (-1), i8 (-1), i8 (-1), i8 (-1), i8 (-1), u8 0, u16 0, vb false, u8 0], [], []⟩⟩)] [2, 3, 5, 6] [2, 230003] (by kernel_rfl) (AllP.c (con_default ) AllP.n) ?_
  refine AWP.ret ?_
  refine ⟨Or.inr rfl, Eq.trans (b := some ([], V.tup [V.agg true [u16 0, u16 0, u8 0, u8 0, u8 0, u8 0, u8 0, u8 0, i8 (-1), i8 (-1), i8 (-1), i8 (-1), i8 (-1), i8 (-1), u8 0, u16 0, vb false, u8 0], vb false])) (by kernel_rfl) ?_⟩
  rfl
theorem con_boot (f h r0 r1 r2 r3 r4 r5 k0 k1 k2 k3 k4 k5 mo rs ih : Int) (ex : Bool) (hb : 0 ≤ f ∧ f < 65536 ∧ 0 ≤ h ∧ h < 65536 ∧ 0 ≤ r0 ∧ r0 < 256 ∧ 0 ≤ r1 ∧ r1 < 256 ∧ 0 ≤ r2 ∧ r2 < 256 ∧ 0 ≤ r3 ∧ r3 < 256 ∧ 0 ≤ r4 ∧ r4 < 256 ∧ 0 ≤ r5 ∧ r5 < 256 ∧ -128 ≤ k0 ∧ k0 < 128 ∧ -128 ≤ k1 ∧ k1 < 128 ∧ -128 ≤ k2 ∧ k2 < 128 ∧ -128 ≤ k3 ∧ k3 < 128 ∧ -128 ≤ k4 ∧ k4 < 128 ∧ -128 ≤ k5 ∧ k5 < 128 ∧ 0 ≤ mo ∧ mo < 256 ∧ 0 ≤ rs ∧ rs < 65536 ∧ 0 ≤ ih ∧ ih < 256) (hy : -1 ≤ k0 ∧ k0 ≤ 15 ∧ -1 ≤ k1 ∧ k1 ≤ 15 ∧ -1 ≤ k2 ∧ k2 ≤ 15 ∧ -1 ≤ k3 ∧ k3 ≤ 15 ∧ -1 ≤ k4 ∧ k4 ≤ 15 ∧ -1 ≤ k5 ∧ k5 ≤ 15 ∧ mo ≤ 3 ∧ ih ≤ 31) (a b c : List Int) (ha : BL a) (hb1 : BL b) (hc : BL c) (hla : a.length ≤ 1000000) (hlb : b.length ≤ 1000000) (hlc : c.length ≤ 1000000) (nx : V) (m : List Int) (k : Nat) (hv : vst [a, b, c] = (k, m)) (hk : 2 ≤ k) (hm : cPo m = cby f h r0 r1 r2 r3 r4 r5 k0 k1 k2 k3 k4 k5 mo rs ih ex) (ht : top3 a b c < 4294967295) (D : List Int) (hD : mk (top3 a b c + 1) (cby f h r0 r1 r2 r3 r4 r5 k0 k1 k2 k3 k4 k5 0 (rsn rs) ih ex) = D) : Con Try.prog 53 [(1000000000, ⟨[B8 a, B8 b, B8 c, nx], true, 4, none⟩)] [.ptr 1000000000 0] [(1000000000, ⟨[B8 D, B8 D, B8 D, nilS], true, 4, none⟩)] (.tup [.agg true [u16 f, u16 h, u8 r0, u8 r1, u8 r2, u8 r3, u8 r4, u8 r5, i8 k0, i8 k1, i8 k2, i8 k3, i8 k4, i8 k5, u8 0, u16 (rsn rs), vb ex, u8 ih], vb true]) := by
  have hb2 : 0 ≤ rsn rs ∧ rsn rs < 65536 := by unfold rsn; split <;> omega
  have rd := con_cread_y f h r0 r1 r2 r3 r4 r5 k0 k1 k2 k3 k4 k5 mo rs ih ex hb hy a b c ha hb1 hc hla hlb hlc nilS m k hv hk hm
  have re := con_creset f h r0 r1 r2 r3 r4 r5 k0 k1 k2 k3 k4 k5 mo rs ih ex (by omega)
  have by1 := (con_cbytes f h r0 r1 r2 r3 r4 r5 k0 k1 k2 k3 k4 k5 0 (rsn rs) ih ex (by omega) (by omega)).frz1
  have bb := cby_bl f h r0 r1 r2 r3 r4 r5 k0 k1 k2 k3 k4 k5 0 (rsn rs) ih ex (by omega) (by omega)
  have fy := con_gfill_n a b c ha hb1 hc hla hlb hlc (cby f h r0 r1 r2 r3 r4 r5 k0 k1 k2 k3 k4 k5 0 (rsn rs) ih ex) 21 bb rfl D hD (by omega) ht
  generalize rsn rs = R at re by1 fy
  generalize cby f h r0 r1 r2 r3 r4 r5 k0 k1 k2 k3 k4 k5 0 R ih ex = Q at by1 fy
  refine Con.of (C := ⟨Try.prog, tc, Try.f53.ntmps⟩) [1000000000] tcok Try.func53 rfl rfl (by kernel_rfl) (by kernel_rfl) ?_
  refine xe0 [0, 2, 3] [2, 1000000000] (by kernel_rfl) ?_
  refine xe1 [(1, ⟨some (V.tup [V.sl 1000000000 1000000000 0]), some ⟨V.tup [], [(1000000000, Blk.mk [B8 a, B8 b, B8 c, nilS] true 4 none)], []⟩⟩)] [0, 2, 3] [1000000000, 2] (by kernel_rfl) (AllP.c (con_greset (B8 a) (B8 b) (B8 c) (nx)) AllP.n) ?_
  refine xe1 (os := [VO (V.tup [V.agg true [u16 f, u16 h, u8 r0, u8 r1, u8 r2, u8 r3, u8 r4, u8 r5, i8 k0, i8 k1, i8 k2, i8 k3, i8 k4, i8 k5, u8 mo, u16 rs, vb ex, u8 ih], vb true]), VOH [], Con Try.prog 59 [] [V.vp [B8 a, B8 b, B8 c, V.val (Value.slice none 0 0)]] [] (V.tup [V.agg true [u16 f, u16 h, u8 r0, u8 r1, u8 r2, u8 r3, u8 r4, u8 r5, i8 k0, i8 k1, i8 k2, i8 k3, i8 k4, i8 k5, u8 mo, u16 rs, vb ex, u8 ih], vb true])]) [(1, ⟨none, some ⟨V.tup [V.agg true [u16 f, u16 h, u8 r0, u8 r1, u8 r2, u8 r3, u8 r4, u8 r5, i8 k0, i8 k1, i8 k2, i8 k3, i8 k4, i8 k5, u8 mo, u16 rs, vb ex, u8 ih], vb true], [], [(1000000000, true)]⟩⟩)] [0, 2, 3, 4, 5] [1000000000, 2, 4] (by kernel_rfl) ⟨(VO.tup (VOL.cons (VO.agg (VOL.cons (VO.val _) (VOL.cons (VO.val _) (VOL.cons (VO.val _) (VOL.cons (VO.val _) (VOL.cons (VO.val _) (VOL.cons (VO.val _) (VOL.cons (VO.val _) (VOL.cons (VO.val _) (VOL.cons (VO.val _) (VOL.cons (VO.val _) (VOL.cons (VO.val _) (VOL.cons (VO.val _) (VOL.cons (VO.val _) (VOL.cons (VO.val _) (VOL.cons (VO.val _) (VOL.cons (VO.val _) (VOL.cons (VO.val _) (VOL.cons (VO.val _) VOL.nil))))))))))))))))))) (VOL.cons (VO.val _) VOL.nil))), trivial, (rd ), trivial⟩ ?_
  refine xe1 (os := [Con Try.prog 60 [] [V.agg true [u16 f, u16 h, u8 r0, u8 r1, u8 r2, u8 r3, u8 r4, u8 r5, i8 k0, i8 k1, i8 k2, i8 k3, i8 k4, i8 k5, u8 mo, u16 rs, vb ex, u8 ih]] [] (V.agg true [u16 f, u16 h, u8 r0, u8 r1, u8 r2, u8 r3, u8 r4, u8 r5, i8 k0, i8 k1, i8 k2, i8 k3, i8 k4, i8 k5, u8 0, u16 R, vb ex, u8 ih])]) [(1, ⟨none, some ⟨V.agg true [u16 f, u16 h, u8 r0, u8 r1, u8 r2, u8 r3, u8 r4, u8 r5, i8 k0, i8 k1, i8 k2, i8 k3, i8 k4, i8 k5, u8 0, u16 R, vb ex, u8 ih], [], []⟩⟩)] [0, 2, 3, 4, 5] [1000000000, 2, 4] (by kernel_rfl) ⟨(re ), trivial⟩ ?_
  refine xe1 (os := [Con Try.prog 19 [] [V.agg true [u16 f, u16 h, u8 r0, u8 r1, u8 r2, u8 r3, u8 r4, u8 r5, i8 k0, i8 k1, i8 k2, i8 k3, i8 k4, i8 k5, u8 0, u16 R, vb ex, u8 ih]] [] (V.vs (u8s Q) 21), Con Try.prog 46 [(1000000000, Blk.mk [B8 a, B8 b, B8 c, V.val (Value.slice none 0 0)] true 4 none)] [V.ptr 1000000000 0, V.vs (u8s Q) 21] [(1000000000, Blk.mk [B8 D, B8 D, B8 D, V.val (Value.slice none 0 0)] true 4 none)] (i64 0)]) [(2, ⟨none, some ⟨V.vs (u8s Q) 21, [], []⟩⟩), (3, ⟨some (V.tup [V.sl 1000000000 1000000000 0]), some ⟨i64 0, [(1000000000, Blk.mk [B8 D, B8 D, B8 D, nilS] true 4 none)], []⟩⟩)] [2, 3, 4, 5] [1000000000, 2, 4] (by kernel_rfl) ⟨(by1 ), (fy ), trivial⟩ ?_
  refine xe0 [2, 3] [1000000000, 2] (by kernel_rfl) ?_
  refine AWP.ret ?_
  refine ⟨Or.inr rfl, Eq.trans (b := some ([(1000000000, Blk.mk [B8 D, B8 D, B8 D, V.val (Value.slice none 0 0)] true 4 none)], V.tup [V.agg true [u16 f, u16 h, u8 r0, u8 r1, u8 r2, u8 r3, u8 r4, u8 r5, i8 k0, i8 k1, i8 k2, i8 k3, i8 k4, i8 k5, u8 0, u16 R, vb ex, u8 ih], vb true])) (by kernel_rfl) ?_⟩
  rfl
end Go.Proofs.Ytmeiemdnhjnpcaa
