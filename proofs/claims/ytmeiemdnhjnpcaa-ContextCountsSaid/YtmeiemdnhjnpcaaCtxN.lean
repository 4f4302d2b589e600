/- Chapter 8: ContextCounts. -/
import Derived.Test.YtmeiemdnhjnpcaaCtxM
namespace Go.Proofs.Ytmeiemdnhjnpcaa
open Go.Ab
set_option linter.unusedSimpArgs false
set_option linter.unusedVariables false
set_option maxHeartbeats 4000000
theorem counts_n (f h r0 r1 r2 r3 r4 r5 k0 k1 k2 k3 k4 k5 mo rs ih : Int) (ex : Bool) (n : Int) (hn : ¬(-1 ≤ k0 ∧ k0 ≤ 15 ∧ -1 ≤ k1 ∧ k1 ≤ 15 ∧ -1 ≤ k2 ∧ k2 ≤ 15 ∧ -1 ≤ k3 ∧ k3 ≤ 15 ∧ -1 ≤ k4 ∧ k4 ≤ 15 ∧ -1 ≤ k5 ∧ k5 ≤ 15 ∧ mo ≤ 3 ∧ ih ≤ 31)) : Con Try.prog 12 [] [.agg true [u16 f, u16 h, u8 r0, u8 r1, u8 r2, u8 r3, u8 r4, u8 r5, i8 k0, i8 k1, i8 k2, i8 k3, i8 k4, i8 k5, u8 mo, u16 rs, vb ex, u8 ih], u8 n] [] (vb true) := by
  refine Con.of (C := ⟨Try.prog, tc, Try.f12.ntmps⟩) [] tcok Try.func12 rfl rfl (by kernel_rfl) (by kernel_rfl) ?_
  refine AWP.seq ?_
  refine AWP.regionT tcok hmix [] [1, 2, 4] [2] (os := []) (s' := St.mk [(1, tp (u8 n)), (2, tp (V.ptr 2 0)), (4, tp (vb false))] [(2, Blk.mk [u16 f, u16 h, u8 r0, u8 r1, u8 r2, u8 r3, u8 r4, u8 r5, i8 k0, i8 k1, i8 k2, i8 k3, i8 k4, i8 k5, u8 mo, u16 rs, vb ex, u8 ih] true 18 none)]) (by kernel_rfl) trivial ?_
  refine AWP.seq ?_
  refine AWP.seq ?_
  refine AWP.regionT tcok hmix [(0, ⟨none, some ⟨vb true, [], []⟩⟩)] [1, 2, 4, 11] [2] (os := [Con Try.prog 17 [] [] [] (vb true)]) (s' := St.mk [(1, tp (u8 n)), (2, tp (V.ptr 2 0)), (4, tp (vb false)), (11, tp (vb false))] [(2, Blk.mk [u16 f, u16 h, u8 r0, u8 r1, u8 r2, u8 r3, u8 r4, u8 r5, i8 k0, i8 k1, i8 k2, i8 k3, i8 k4, i8 k5, u8 mo, u16 rs, vb ex, u8 ih] true 18 none)]) (by kernel_rfl) ⟨(con_awake ), trivial⟩ ?_
  refine AWP.cond (b := false) (by kernel_rfl) (fun h => by cases h) (fun _ => ?_)
  refine AWP.skip ?_
  refine AWP.seq ?_
  refine AWP.seq ?_
  refine AWP.regionT tcok hmix [(1, ⟨none, some ⟨V.agg true [u16 f, u16 h, u8 r0, u8 r1, u8 r2, u8 r3, u8 r4, u8 r5, i8 k0, i8 k1, i8 k2, i8 k3, i8 k4, i8 k5, u8 mo, u16 rs, vb ex, u8 ih], [], []⟩⟩), (2, ⟨none, some ⟨vb false, [], []⟩⟩)] [1, 2, 4, 15] [2] (os := [Con Try.prog 21 [] [V.agg true [u16 f, u16 h, u8 r0, u8 r1, u8 r2, u8 r3, u8 r4, u8 r5, i8 k0, i8 k1, i8 k2, i8 k3, i8 k4, i8 k5, u8 mo, u16 rs, vb ex, u8 ih]] [] (V.agg true [u16 f, u16 h, u8 r0, u8 r1, u8 r2, u8 r3, u8 r4, u8 r5, i8 k0, i8 k1, i8 k2, i8 k3, i8 k4, i8 k5, u8 mo, u16 rs, vb ex, u8 ih]), Con Try.prog 20 [] [V.agg true [u16 f, u16 h, u8 r0, u8 r1, u8 r2, u8 r3, u8 r4, u8 r5, i8 k0, i8 k1, i8 k2, i8 k3, i8 k4, i8 k5, u8 mo, u16 rs, vb ex, u8 ih]] [] (vb false)]) (s' := St.mk [(1, tp (u8 n)), (2, tp (V.ptr 2 0)), (4, tp (vb false)), (15, tp (vb true))] [(2, Blk.mk [u16 f, u16 h, u8 r0, u8 r1, u8 r2, u8 r3, u8 r4, u8 r5, i8 k0, i8 k1, i8 k2, i8 k3, i8 k4, i8 k5, u8 mo, u16 rs, vb ex, u8 ih] true 18 none)]) (by kernel_rfl) ⟨(con_own (f) (h) (r0) (r1) (r2) (r3) (r4) (r5) (k0) (k1) (k2) (k3) (k4) (k5) (mo) (rs) (ih) (ex)), (con_rright_n (f) (h) (r0) (r1) (r2) (r3) (r4) (r5) (k0) (k1) (k2) (k3) (k4) (k5) (mo) (rs) (ih) (ex) (by assumption)), trivial⟩ ?_
  refine AWP.cond (b := true) (by kernel_rfl) (fun _ => ?_) (fun h => by cases h)
  refine AWP.seq ?_
  refine AWP.regionT tcok hmix [(1, ⟨none, some ⟨V.sl 2 0 0, [(2, Blk.mk [] true 0 (some (5, 1)))], []⟩⟩)] [1, 2, 4] [2] (os := [Con Try.prog 19 [] [V.agg true [u16 f, u16 h, u8 r0, u8 r1, u8 r2, u8 r3, u8 r4, u8 r5, i8 k0, i8 k1, i8 k2, i8 k3, i8 k4, i8 k5, u8 mo, u16 rs, vb ex, u8 ih]] [(2, Blk.mk [] true 0 (some (5, 1)))] (V.sl 2 0 0)]) (s' := St.mk [(1, tp (u8 n)), (2, tp (V.ptr 2 0)), (4, tp (vb true))] [(2, Blk.mk [u16 f, u16 h, u8 r0, u8 r1, u8 r2, u8 r3, u8 r4, u8 r5, i8 k0, i8 k1, i8 k2, i8 k3, i8 k4, i8 k5, u8 mo, u16 rs, vb ex, u8 ih] true 18 none)]) (by kernel_rfl) ⟨(con_bytes_n (f) (h) (r0) (r1) (r2) (r3) (r4) (r5) (k0) (k1) (k2) (k3) (k4) (k5) (mo) (rs) (ih) (ex) (by assumption)), trivial⟩ ?_
  refine AWP.ret ?_
  refine ⟨Or.inr rfl, Eq.trans (b := some ([], vb true)) (by kernel_rfl) ?_⟩
  first | rfl | (simp; done)
theorem counts_y (f h r0 r1 r2 r3 r4 r5 k0 k1 k2 k3 k4 k5 mo rs ih : Int) (ex : Bool) (n : Int) (hn : 0 ≤ n ∧ n < 256) (hb : 0 ≤ f ∧ f < 65536 ∧ 0 ≤ h ∧ h < 65536 ∧ 0 ≤ r0 ∧ r0 < 256 ∧ 0 ≤ r1 ∧ r1 < 256 ∧ 0 ≤ r2 ∧ r2 < 256 ∧ 0 ≤ r3 ∧ r3 < 256 ∧ 0 ≤ r4 ∧ r4 < 256 ∧ 0 ≤ r5 ∧ r5 < 256 ∧ -128 ≤ k0 ∧ k0 < 128 ∧ -128 ≤ k1 ∧ k1 < 128 ∧ -128 ≤ k2 ∧ k2 < 128 ∧ -128 ≤ k3 ∧ k3 < 128 ∧ -128 ≤ k4 ∧ k4 < 128 ∧ -128 ≤ k5 ∧ k5 < 128 ∧ 0 ≤ mo ∧ mo < 256 ∧ 0 ≤ rs ∧ rs < 65536 ∧ 0 ≤ ih ∧ ih < 256) (hy : -1 ≤ k0 ∧ k0 ≤ 15 ∧ -1 ≤ k1 ∧ k1 ≤ 15 ∧ -1 ≤ k2 ∧ k2 ≤ 15 ∧ -1 ≤ k3 ∧ k3 ≤ 15 ∧ -1 ≤ k4 ∧ k4 ≤ 15 ∧ -1 ≤ k5 ∧ k5 ≤ 15 ∧ mo ≤ 3 ∧ ih ≤ 31) : Con Try.prog 12 [] [.agg true [u16 f, u16 h, u8 r0, u8 r1, u8 r2, u8 r3, u8 r4, u8 r5, i8 k0, i8 k1, i8 k2, i8 k3, i8 k4, i8 k5, u8 mo, u16 rs, vb ex, u8 ih], u8 n] [] (vb true) := by
  have bb := cby_bl f h r0 r1 r2 r3 r4 r5 k0 k1 k2 k3 k4 k5 mo rs ih ex hb hy
  obtain ⟨C, hC⟩ : ∃ C, mk 1 (cby f h r0 r1 r2 r3 r4 r5 k0 k1 k2 k3 k4 k5 mo rs ih ex) = C := ⟨_, rfl⟩
  have by1 := (con_cbytes f h r0 r1 r2 r3 r4 r5 k0 k1 k2 k3 k4 k5 mo rs ih ex hb hy).frz1
  have f0 := con_gfill_0 (cby f h r0 r1 r2 r3 r4 r5 k0 k1 k2 k3 k4 k5 mo rs ih ex) 21 bb rfl (by omega) C hC
  obtain ⟨Q, hQ⟩ : ∃ Q, cby f h r0 r1 r2 r3 r4 r5 k0 k1 k2 k3 k4 k5 mo rs ih ex = Q := ⟨_, rfl⟩
  rw [hQ] at f0 by1
  refine Con.of (C := ⟨Try.prog, tc, Try.f12.ntmps⟩) [] tcok Try.func12 rfl rfl (by kernel_rfl) (by kernel_rfl) ?_
  refine AWP.seq ?_
  refine AWP.regionT tcok hmix [] [1, 2, 4] [2] (os := []) (s' := St.mk [(1, tp (u8 n)), (2, tp (V.ptr 2 0)), (4, tp (vb false))] [(2, Blk.mk [u16 f, u16 h, u8 r0, u8 r1, u8 r2, u8 r3, u8 r4, u8 r5, i8 k0, i8 k1, i8 k2, i8 k3, i8 k4, i8 k5, u8 mo, u16 rs, vb ex, u8 ih] true 18 none)]) (by kernel_rfl) trivial ?_
  refine AWP.seq ?_
  refine AWP.seq ?_
  refine AWP.regionT tcok hmix [(0, ⟨none, some ⟨vb true, [], []⟩⟩)] [1, 2, 4, 11] [2] (os := [Con Try.prog 17 [] [] [] (vb true)]) (s' := St.mk [(1, tp (u8 n)), (2, tp (V.ptr 2 0)), (4, tp (vb false)), (11, tp (vb false))] [(2, Blk.mk [u16 f, u16 h, u8 r0, u8 r1, u8 r2, u8 r3, u8 r4, u8 r5, i8 k0, i8 k1, i8 k2, i8 k3, i8 k4, i8 k5, u8 mo, u16 rs, vb ex, u8 ih] true 18 none)]) (by kernel_rfl) ⟨(con_awake ), trivial⟩ ?_
  refine AWP.cond (b := false) (by kernel_rfl) (fun h => by cases h) (fun _ => ?_)
  refine AWP.skip ?_
  refine AWP.seq ?_
  refine AWP.seq ?_
  refine AWP.regionT tcok hmix [(1, ⟨none, some ⟨V.agg true [u16 f, u16 h, u8 r0, u8 r1, u8 r2, u8 r3, u8 r4, u8 r5, i8 k0, i8 k1, i8 k2, i8 k3, i8 k4, i8 k5, u8 mo, u16 rs, vb ex, u8 ih], [], []⟩⟩), (2, ⟨none, some ⟨vb true, [], []⟩⟩)] [1, 2, 4, 15] [2] (os := [Con Try.prog 21 [] [V.agg true [u16 f, u16 h, u8 r0, u8 r1, u8 r2, u8 r3, u8 r4, u8 r5, i8 k0, i8 k1, i8 k2, i8 k3, i8 k4, i8 k5, u8 mo, u16 rs, vb ex, u8 ih]] [] (V.agg true [u16 f, u16 h, u8 r0, u8 r1, u8 r2, u8 r3, u8 r4, u8 r5, i8 k0, i8 k1, i8 k2, i8 k3, i8 k4, i8 k5, u8 mo, u16 rs, vb ex, u8 ih]), Con Try.prog 20 [] [V.agg true [u16 f, u16 h, u8 r0, u8 r1, u8 r2, u8 r3, u8 r4, u8 r5, i8 k0, i8 k1, i8 k2, i8 k3, i8 k4, i8 k5, u8 mo, u16 rs, vb ex, u8 ih]] [] (vb true)]) (s' := St.mk [(1, tp (u8 n)), (2, tp (V.ptr 2 0)), (4, tp (vb false)), (15, tp (vb false))] [(2, Blk.mk [u16 f, u16 h, u8 r0, u8 r1, u8 r2, u8 r3, u8 r4, u8 r5, i8 k0, i8 k1, i8 k2, i8 k3, i8 k4, i8 k5, u8 mo, u16 rs, vb ex, u8 ih] true 18 none)]) (by kernel_rfl) ⟨(con_own (f) (h) (r0) (r1) (r2) (r3) (r4) (r5) (k0) (k1) (k2) (k3) (k4) (k5) (mo) (rs) (ih) (ex)), (con_rright_y (f) (h) (r0) (r1) (r2) (r3) (r4) (r5) (k0) (k1) (k2) (k3) (k4) (k5) (mo) (rs) (ih) (ex) (by assumption)), trivial⟩ ?_
  refine AWP.cond (b := false) (by kernel_rfl) (fun h => by cases h) (fun _ => ?_)
  refine AWP.skip ?_
  refine AWP.seq ?_
  refine AWP.regionT tcok hmix [(0, ⟨none, some ⟨V.ptr 2 0, [(2, Blk.mk [nilS, nilS, nilS, nilS] true 4 none)], []⟩⟩)] [1, 2, 4, 5] [2, 210002] (os := [Con Try.prog 50 [] [] [(2, Blk.mk [V.val (Value.slice none 0 0), V.val (Value.slice none 0 0), V.val (Value.slice none 0 0), V.val (Value.slice none 0 0)] true 4 none)] (V.ptr 2 0)]) (s' := St.mk [(1, tp (u8 n)), (2, tp (V.ptr 2 0)), (4, tp (vb false)), (5, tp (V.ptr 210002 0))] [(2, Blk.mk [u16 f, u16 h, u8 r0, u8 r1, u8 r2, u8 r3, u8 r4, u8 r5, i8 k0, i8 k1, i8 k2, i8 k3, i8 k4, i8 k5, u8 mo, u16 rs, vb ex, u8 ih] true 18 none), (210002, Blk.mk [V.val (Value.slice none 0 0), V.val (Value.slice none 0 0), V.val (Value.slice none 0 0), V.val (Value.slice none 0 0)] true 4 none)]) (by kernel_rfl) ⟨(con_gnew ), trivial⟩ ?_
  refine AWP.seq ?_
  refine AWP.regionT tcok hmix [(2, ⟨none, some ⟨V.vs (u8s Q) 21, [], []⟩⟩), (3, ⟨some (V.tup [V.sl 1000000000 210002 0]), some ⟨i64 0, [(1000000000, Blk.mk [B8 C, B8 C, B8 C, nilS] true 4 none)], []⟩⟩)] [1, 2, 4, 5] [2, 210002] (os := [Con Try.prog 19 [] [V.agg true [u16 f, u16 h, u8 r0, u8 r1, u8 r2, u8 r3, u8 r4, u8 r5, i8 k0, i8 k1, i8 k2, i8 k3, i8 k4, i8 k5, u8 mo, u16 rs, vb ex, u8 ih]] [] (V.vs (u8s Q) 21), Con Try.prog 46 [(1000000000, Blk.mk [V.val (Value.slice none 0 0), V.val (Value.slice none 0 0), V.val (Value.slice none 0 0), V.val (Value.slice none 0 0)] true 4 none)] [V.ptr 1000000000 0, V.vs (u8s Q) 21] [(1000000000, Blk.mk [B8 C, B8 C, B8 C, V.val (Value.slice none 0 0)] true 4 none)] (i64 0)]) (s' := St.mk [(1, tp (u8 n)), (2, tp (V.ptr 2 0)), (4, tp (vb false)), (5, tp (V.ptr 210002 0))] [(2, Blk.mk [u16 f, u16 h, u8 r0, u8 r1, u8 r2, u8 r3, u8 r4, u8 r5, i8 k0, i8 k1, i8 k2, i8 k3, i8 k4, i8 k5, u8 mo, u16 rs, vb ex, u8 ih] true 18 none), (210002, Blk.mk [B8 C, B8 C, B8 C, V.val (Value.slice none 0 0)] true 4 none)]) (by kernel_rfl) ⟨(by1 ), (f0 ), trivial⟩ ?_
  refine AWP.seq ?_
  refine AWP.seq ?_
  refine AWP.regionT tcok hmix [] [1, 2, 4, 5, 6] [2, 210002] (os := []) (s' := St.mk [(1, tp (u8 n)), (2, tp (V.ptr 2 0)), (4, tp (vb false)), (5, tp (V.ptr 210002 0)), (6, tp (i64 1))] [(2, Blk.mk [u16 f, u16 h, u8 r0, u8 r1, u8 r2, u8 r3, u8 r4, u8 r5, i8 k0, i8 k1, i8 k2, i8 k3, i8 k4, i8 k5, u8 mo, u16 rs, vb ex, u8 ih] true 18 none), (210002, Blk.mk [B8 C, B8 C, B8 C, V.val (Value.slice none 0 0)] true 4 none)]) (by kernel_rfl) trivial ?_
  refine AWP.block ?_
  refine AWP.loopI [1, 2, 4, 5, 6] [2, 210002] (fun N s' => ∃ (i mm R : Int) (D : List Int), s' = St.mk [(1, tp (u8 n)), (2, tp (V.ptr 2 0)), (4, tp (vb false)), (5, tp (V.ptr 210002 0)), (6, tp (i64 i))] [(2, Blk.mk [u16 f, u16 h, u8 r0, u8 r1, u8 r2, u8 r3, u8 r4, u8 r5, i8 k0, i8 k1, i8 k2, i8 k3, i8 k4, i8 k5, u8 mo, u16 rs, vb ex, u8 ih] true 18 none), (210002, Blk.mk [B8 D, B8 D, B8 D, nilS] true 4 none)]
      ∧ D = mk i (cby f h r0 r1 r2 r3 r4 r5 k0 k1 k2 k3 k4 k5 mm R ih ex) ∧ 0 ≤ mm ∧ mm ≤ 3 ∧ (rs + i ≤ 65536 ∧ R = rs + i - 1 ∨ 65536 < rs + i ∧ R = 65535) ∧ 1 ≤ i ∧ i ≤ 21 ∧ (N : Int) = 21 - i) 20 (s0 := St.mk [(1, tp (u8 n)), (2, tp (V.ptr 2 0)), (4, tp (vb false)), (5, tp (V.ptr 210002 0)), (6, tp (i64 1))] [(2, Blk.mk [u16 f, u16 h, u8 r0, u8 r1, u8 r2, u8 r3, u8 r4, u8 r5, i8 k0, i8 k1, i8 k2, i8 k3, i8 k4, i8 k5, u8 mo, u16 rs, vb ex, u8 ih] true 18 none), (210002, Blk.mk [B8 C, B8 C, B8 C, nilS] true 4 none)]) (by kernel_rfl) ?_ ?_
  · exact ⟨1, mo, rs, C, rfl, by rw [← hC], by omega, by omega, by omega, by omega, by omega, by omega⟩
  rintro N s' ⟨i, mm, R, D, rfl, hD, hm0, hm3, hR, hi, hi2, hN⟩
  by_cases hx : i ≤ n % 20
  case neg =>
    refine AWP.seq ?_
    refine AWP.seq ?_
    refine AWP.regionT tcok hmix [(2, ⟨some (u8 (n % 20)), none⟩), (3, ⟨some (i64 (n % 20)), none⟩)] [1, 2, 4, 5, 6, 29] [2, 210002] (os := [(20 : Int) ≠ (0 : Int), u8 (Int.tmod n 20) = u8 (n % 20), i64 (IntKind.wrap IntKind.i64 (n % 20)) = i64 (n % 20)]) (s' := St.mk [(1, tp (u8 n)), (2, tp (V.ptr 2 0)), (4, tp (vb false)), (5, tp (V.ptr 210002 0)), (6, tp (i64 i)), (29, tp (vb (decide (i ≤ n % 20))))] [(2, Blk.mk [u16 f, u16 h, u8 r0, u8 r1, u8 r2, u8 r3, u8 r4, u8 r5, i8 k0, i8 k1, i8 k2, i8 k3, i8 k4, i8 k5, u8 mo, u16 rs, vb ex, u8 ih] true 18 none), (210002, Blk.mk [B8 D, B8 D, B8 D, V.val (Value.slice none 0 0)] true 4 none)]) (by kernel_rfl) ⟨(by omega), (tm_ (by omega)), (wr_i64 (by omega) (by omega)), trivial⟩ ?_
    refine AWP.cond (b := decide (i ≤ n % 20)) (by kernel_rfl) (fun hq4 => ?_) (fun hq4 => ?_)
    · simp only [decide_eq_true_eq] at hq4
      (exfalso; omega)
    simp only [decide_eq_false_iff_not] at hq4
    refine AWP.exit ?_
    refine AWP.seq ?_
    refine AWP.regionT tcok hmix [] [4] [] (os := []) (s' := St.mk [(4, tp (vb true))] []) (by kernel_rfl) trivial ?_
    refine AWP.ret ?_
    refine ⟨Or.inr rfl, Eq.trans (b := some ([], vb true)) (by kernel_rfl) ?_⟩
    first | rfl | (exfalso; omega)
  have hb2 : 0 ≤ f ∧ f < 65536 ∧ 0 ≤ h ∧ h < 65536 ∧ 0 ≤ r0 ∧ r0 < 256 ∧ 0 ≤ r1 ∧ r1 < 256 ∧ 0 ≤ r2 ∧ r2 < 256 ∧ 0 ≤ r3 ∧ r3 < 256 ∧ 0 ≤ r4 ∧ r4 < 256 ∧ 0 ≤ r5 ∧ r5 < 256 ∧ -128 ≤ k0 ∧ k0 < 128 ∧ -128 ≤ k1 ∧ k1 < 128 ∧ -128 ≤ k2 ∧ k2 < 128 ∧ -128 ≤ k3 ∧ k3 < 128 ∧ -128 ≤ k4 ∧ k4 < 128 ∧ -128 ≤ k5 ∧ k5 < 128 ∧ 0 ≤ mm ∧ mm < 256 ∧ 0 ≤ R ∧ R < 65536 ∧ 0 ≤ ih ∧ ih < 256 := by omega
  have hy2 : -1 ≤ k0 ∧ k0 ≤ 15 ∧ -1 ≤ k1 ∧ k1 ≤ 15 ∧ -1 ≤ k2 ∧ k2 ≤ 15 ∧ -1 ≤ k3 ∧ k3 ≤ 15 ∧ -1 ≤ k4 ∧ k4 ≤ 15 ∧ -1 ≤ k5 ∧ k5 ≤ 15 ∧ mm ≤ 3 ∧ ih ≤ 31 := by omega
  have hRb : 0 ≤ R ∧ R < 65536 := by omega
  have b2 := cby_bl f h r0 r1 r2 r3 r4 r5 k0 k1 k2 k3 k4 k5 mm R ih ex hb2 hy2
  have hE : cE D = 0 := by rw [hD]; exact mk_cE (by rw [cby_len]; omega)
  have hNo : cNo D = i := by rw [hD]; exact mk_cNo (by omega) (by rw [cby_len]; omega)
  have hPo : cPo D = cby f h r0 r1 r2 r3 r4 r5 k0 k1 k2 k3 k4 k5 mm R ih ex := by rw [hD]; exact mk_cPo (by rw [cby_len]; omega)
  have hL : D.length = 29 := by rw [hD]; exact mk_len
  have hB : BL D := by rw [hD]; exact mk_bl (by omega) b2 (by rw [cby_len]; omega)
  have hv : vst [D, D, D] = (3, D) := by simp [vst, vnx, newer, hE]
  have ht : top3 D D D = i := by simp [top3, imax, hNo]; omega
  have bt := con_boot f h r0 r1 r2 r3 r4 r5 k0 k1 k2 k3 k4 k5 mm R ih ex hb2 hy2 D D D hB hB hB (by omega) (by omega) (by omega) nilS D 3 hv (by omega) hPo (by omega) _ rfl
  rw [ht] at bt
  obtain ⟨S, hS⟩ : ∃ S, rsn R = S := ⟨_, rfl⟩
  have hS2 : rs + i ≤ 65535 ∧ S = rs + i ∨ 65535 < rs + i ∧ S = 65535 := by
    rw [← hS]
    unfold rsn
    split <;> omega
  rw [hS] at bt
  obtain ⟨E, hE2⟩ : ∃ E, mk (i + 1) (cby f h r0 r1 r2 r3 r4 r5 k0 k1 k2 k3 k4 k5 0 S ih ex) = E := ⟨_, rfl⟩
  rw [hE2] at bt
  have hSb : 0 ≤ S ∧ S < 65536 := by omega
  rcases hS2 with ⟨h1, h2⟩ | ⟨h1, h2⟩
  · subst h2
    have wfi : imin (rs + i) 65535 = rs + i := by unfold imin; split <;> omega
    refine AWP.seq ?_
    refine AWP.seq ?_
    refine AWP.regionT tcok hmix [(2, ⟨some (u8 (n % 20)), none⟩), (3, ⟨some (i64 (n % 20)), none⟩)] [1, 2, 4, 5, 6, 29] [2, 210002] (os := [(20 : Int) ≠ (0 : Int), u8 (Int.tmod n 20) = u8 (n % 20), i64 (IntKind.wrap IntKind.i64 (n % 20)) = i64 (n % 20)]) (s' := St.mk [(1, tp (u8 n)), (2, tp (V.ptr 2 0)), (4, tp (vb false)), (5, tp (V.ptr 210002 0)), (6, tp (i64 i)), (29, tp (vb (decide (i ≤ n % 20))))] [(2, Blk.mk [u16 f, u16 h, u8 r0, u8 r1, u8 r2, u8 r3, u8 r4, u8 r5, i8 k0, i8 k1, i8 k2, i8 k3, i8 k4, i8 k5, u8 mo, u16 rs, vb ex, u8 ih] true 18 none), (210002, Blk.mk [B8 D, B8 D, B8 D, V.val (Value.slice none 0 0)] true 4 none)]) (by kernel_rfl) ⟨(by omega), (tm_ (by omega)), (wr_i64 (by omega) (by omega)), trivial⟩ ?_
    refine AWP.cond (b := decide (i ≤ n % 20)) (by kernel_rfl) (fun hq5 => ?_) (fun hq5 => ?_)
    · simp only [decide_eq_true_eq] at hq5
      refine AWP.skip ?_
      refine AWP.seq ?_
      refine AWP.block ?_
      refine AWP.seq ?_
      refine AWP.regionT tcok hmix [(1, ⟨some (V.tup [V.sl 1000000000 210002 0]), some ⟨V.tup [V.agg true [u16 f, u16 h, u8 r0, u8 r1, u8 r2, u8 r3, u8 r4, u8 r5, i8 k0, i8 k1, i8 k2, i8 k3, i8 k4, i8 k5, u8 0, u16 (rs + i), vb ex, u8 ih], vb true], [(1000000000, Blk.mk [B8 E, B8 E, B8 E, nilS] true 4 none)], []⟩⟩)] [1, 2, 4, 5, 6, 7, 8] [2, 210002, 7] (os := [Con Try.prog 53 [(1000000000, Blk.mk [B8 D, B8 D, B8 D, V.val (Value.slice none 0 0)] true 4 none)] [V.ptr 1000000000 0] [(1000000000, Blk.mk [B8 E, B8 E, B8 E, V.val (Value.slice none 0 0)] true 4 none)] (V.tup [V.agg true [u16 f, u16 h, u8 r0, u8 r1, u8 r2, u8 r3, u8 r4, u8 r5, i8 k0, i8 k1, i8 k2, i8 k3, i8 k4, i8 k5, u8 0, u16 (rs + i), vb ex, u8 ih], vb true])]) (s' := St.mk [(1, tp (u8 n)), (2, tp (V.ptr 2 0)), (4, tp (vb false)), (5, tp (V.ptr 210002 0)), (6, tp (i64 i)), (7, tp (V.ptr 7 0)), (8, tp (vb true))] [(2, Blk.mk [u16 f, u16 h, u8 r0, u8 r1, u8 r2, u8 r3, u8 r4, u8 r5, i8 k0, i8 k1, i8 k2, i8 k3, i8 k4, i8 k5, u8 mo, u16 rs, vb ex, u8 ih] true 18 none), (7, Blk.mk [u16 f, u16 h, u8 r0, u8 r1, u8 r2, u8 r3, u8 r4, u8 r5, i8 k0, i8 k1, i8 k2, i8 k3, i8 k4, i8 k5, u8 0, u16 (rs + i), vb ex, u8 ih] true 18 none), (210002, Blk.mk [B8 E, B8 E, B8 E, V.val (Value.slice none 0 0)] true 4 none)]) (by kernel_rfl) ⟨(bt ), trivial⟩ ?_
      refine AWP.seq ?_
      refine AWP.regionT tcok hmix [] [1, 2, 4, 5, 6, 7, 8, 9] [2, 210002, 7, 9] (os := []) (s' := St.mk [(1, tp (u8 n)), (2, tp (V.ptr 2 0)), (4, tp (vb false)), (5, tp (V.ptr 210002 0)), (6, tp (i64 i)), (7, tp (V.ptr 7 0)), (8, tp (vb true)), (9, tp (V.ptr 9 0))] [(2, Blk.mk [u16 f, u16 h, u8 r0, u8 r1, u8 r2, u8 r3, u8 r4, u8 r5, i8 k0, i8 k1, i8 k2, i8 k3, i8 k4, i8 k5, u8 mo, u16 rs, vb ex, u8 ih] true 18 none), (7, Blk.mk [u16 f, u16 h, u8 r0, u8 r1, u8 r2, u8 r3, u8 r4, u8 r5, i8 k0, i8 k1, i8 k2, i8 k3, i8 k4, i8 k5, u8 0, u16 (rs + i), vb ex, u8 ih] true 18 none), (9, Blk.mk [u16 f, u16 h, u8 r0, u8 r1, u8 r2, u8 r3, u8 r4, u8 r5, i8 k0, i8 k1, i8 k2, i8 k3, i8 k4, i8 k5, u8 mo, u16 rs, vb ex, u8 ih] true 18 none), (210002, Blk.mk [B8 E, B8 E, B8 E, V.val (Value.slice none 0 0)] true 4 none)]) (by kernel_rfl) trivial ?_
      refine AWP.seq ?_
      refine AWP.regionT tcok hmix [] [1, 2, 4, 5, 6, 7, 8, 9] [2, 210002, 7, 9] (os := []) (s' := St.mk [(1, tp (u8 n)), (2, tp (V.ptr 2 0)), (4, tp (vb false)), (5, tp (V.ptr 210002 0)), (6, tp (i64 i)), (7, tp (V.ptr 7 0)), (8, tp (vb true)), (9, tp (V.ptr 9 0))] [(2, Blk.mk [u16 f, u16 h, u8 r0, u8 r1, u8 r2, u8 r3, u8 r4, u8 r5, i8 k0, i8 k1, i8 k2, i8 k3, i8 k4, i8 k5, u8 mo, u16 rs, vb ex, u8 ih] true 18 none), (7, Blk.mk [u16 f, u16 h, u8 r0, u8 r1, u8 r2, u8 r3, u8 r4, u8 r5, i8 k0, i8 k1, i8 k2, i8 k3, i8 k4, i8 k5, u8 0, u16 (rs + i), vb ex, u8 ih] true 18 none), (9, Blk.mk [u16 f, u16 h, u8 r0, u8 r1, u8 r2, u8 r3, u8 r4, u8 r5, i8 k0, i8 k1, i8 k2, i8 k3, i8 k4, i8 k5, u8 0, u16 rs, vb ex, u8 ih] true 18 none), (210002, Blk.mk [B8 E, B8 E, B8 E, V.val (Value.slice none 0 0)] true 4 none)]) (by kernel_rfl) trivial ?_
      refine AWP.seq ?_
      refine AWP.regionT tcok hmix [(2, ⟨some (i64 rs), none⟩), (4, ⟨some (i64 (rs + i)), none⟩), (5, ⟨some (i64 (rs + i)), none⟩), (6, ⟨some (u16 (rs + i)), none⟩)] [1, 2, 4, 5, 6, 7, 8, 9] [2, 210002, 7, 9] (os := [i64 (IntKind.wrap IntKind.i64 rs) = i64 rs, i64 (IntKind.wrap IntKind.i64 (rs + i)) = i64 (rs + i), i64 (imin (rs + i) 65535) = i64 (rs + i), u16 (IntKind.wrap IntKind.u16 (rs + i)) = u16 (rs + i)]) (s' := St.mk [(1, tp (u8 n)), (2, tp (V.ptr 2 0)), (4, tp (vb false)), (5, tp (V.ptr 210002 0)), (6, tp (i64 i)), (7, tp (V.ptr 7 0)), (8, tp (vb true)), (9, tp (V.ptr 9 0))] [(2, Blk.mk [u16 f, u16 h, u8 r0, u8 r1, u8 r2, u8 r3, u8 r4, u8 r5, i8 k0, i8 k1, i8 k2, i8 k3, i8 k4, i8 k5, u8 mo, u16 rs, vb ex, u8 ih] true 18 none), (7, Blk.mk [u16 f, u16 h, u8 r0, u8 r1, u8 r2, u8 r3, u8 r4, u8 r5, i8 k0, i8 k1, i8 k2, i8 k3, i8 k4, i8 k5, u8 0, u16 (rs + i), vb ex, u8 ih] true 18 none), (9, Blk.mk [u16 f, u16 h, u8 r0, u8 r1, u8 r2, u8 r3, u8 r4, u8 r5, i8 k0, i8 k1, i8 k2, i8 k3, i8 k4, i8 k5, u8 0, u16 (rs + i), vb ex, u8 ih] true 18 none), (210002, Blk.mk [B8 E, B8 E, B8 E, V.val (Value.slice none 0 0)] true 4 none)]) (by kernel_rfl) ⟨(wr_i64 (by omega) (by omega)), (wr_i64 (by omega) (by omega)), (in_eq wfi), (wr_u16 (by omega) (by omega)), trivial⟩ ?_
      refine AWP.seq ?_
      refine AWP.regionT tcok hmix [] [1, 2, 4, 5, 6, 53] [2, 210002] (os := []) (s' := St.mk [(1, tp (u8 n)), (2, tp (V.ptr 2 0)), (4, tp (vb false)), (5, tp (V.ptr 210002 0)), (6, tp (i64 i)), (53, tp (vb (false || bl false (f == f && (h == h && (r0 == r0 && (r1 == r1 && (r2 == r2 && (r3 == r3 && (r4 == r4 && (r5 == r5 && true))))) && (k0 == k0 && (k1 == k1 && (k2 == k2 && (k3 == k3 && (k4 == k4 && (k5 == k5 && true))))) && (0 == 0 && (rs + i == rs + i && (ex == ex && (ih == ih && true)))))))))))] [(2, Blk.mk [u16 f, u16 h, u8 r0, u8 r1, u8 r2, u8 r3, u8 r4, u8 r5, i8 k0, i8 k1, i8 k2, i8 k3, i8 k4, i8 k5, u8 mo, u16 rs, vb ex, u8 ih] true 18 none), (210002, Blk.mk [B8 E, B8 E, B8 E, V.val (Value.slice none 0 0)] true 4 none)]) (by kernel_rfl) trivial ?_
      refine AWP.cond (b := false || bl false (f == f && (h == h && (r0 == r0 && (r1 == r1 && (r2 == r2 && (r3 == r3 && (r4 == r4 && (r5 == r5 && true))))) && (k0 == k0 && (k1 == k1 && (k2 == k2 && (k3 == k3 && (k4 == k4 && (k5 == k5 && true))))) && (0 == 0 && (rs + i == rs + i && (ex == ex && (ih == ih && true))))))))) (by kernel_rfl) (fun hq6 => ?_) (fun hq6 => ?_)
      · simp only [Bool.false_or, Bool.and_true] at hq6
        (simp [bl] at hq6; done)
      simp only [Bool.false_or, Bool.and_true] at hq6
      refine AWP.skip ?_
      refine AWP.region tcok hmix [(1, ⟨some (i64 (i + 1)), none⟩)] (os := [i64 (IntKind.wrap IntKind.i64 (i + 1)) = i64 (i + 1)]) (sf := St.mk [(1, tp (u8 n)), (2, tp (V.ptr 2 0)), (4, tp (vb false)), (5, tp (V.ptr 210002 0)), (6, tp (i64 (i + 1))), (30, tp (i64 i)), (31, tp (i64 (i + 1))), (53, tp (vb (false || bl false (f == f && (h == h && (r0 == r0 && (r1 == r1 && (r2 == r2 && (r3 == r3 && (r4 == r4 && (r5 == r5 && true))))) && (k0 == k0 && (k1 == k1 && (k2 == k2 && (k3 == k3 && (k4 == k4 && (k5 == k5 && true))))) && (0 == 0 && (rs + i == rs + i && (ex == ex && (ih == ih && true)))))))))))] [(2, Blk.mk [u16 f, u16 h, u8 r0, u8 r1, u8 r2, u8 r3, u8 r4, u8 r5, i8 k0, i8 k1, i8 k2, i8 k3, i8 k4, i8 k5, u8 mo, u16 rs, vb ex, u8 ih] true 18 none), (210002, Blk.mk [B8 E, B8 E, B8 E, V.val (Value.slice none 0 0)] true 4 none)]) (by kernel_rfl) ⟨(wr_i64 (by omega) (by omega)), trivial⟩ ?_
      refine ⟨St.mk [(1, tp (u8 n)), (2, tp (V.ptr 2 0)), (4, tp (vb false)), (5, tp (V.ptr 210002 0)), (6, tp (i64 (i + 1)))] [(2, Blk.mk [u16 f, u16 h, u8 r0, u8 r1, u8 r2, u8 r3, u8 r4, u8 r5, i8 k0, i8 k1, i8 k2, i8 k3, i8 k4, i8 k5, u8 mo, u16 rs, vb ex, u8 ih] true 18 none), (210002, Blk.mk [B8 E, B8 E, B8 E, V.val (Value.slice none 0 0)] true 4 none)], by kernel_rfl, ?_⟩
      first | (exact ⟨(21 - (i + 1)).toNat, (by omega), i + 1, 0, rs + i, E, rfl, hE2.symm, (by omega), (by omega), (by omega), (by omega), (by omega), (by omega)⟩) | (exfalso; omega)
    simp only [decide_eq_false_iff_not] at hq5
    (exfalso; omega)
  · subst h2
    have wfi : imin (rs + i) 65535 = 65535 := by unfold imin; split <;> omega
    refine AWP.seq ?_
    refine AWP.seq ?_
    refine AWP.regionT tcok hmix [(2, ⟨some (u8 (n % 20)), none⟩), (3, ⟨some (i64 (n % 20)), none⟩)] [1, 2, 4, 5, 6, 29] [2, 210002] (os := [(20 : Int) ≠ (0 : Int), u8 (Int.tmod n 20) = u8 (n % 20), i64 (IntKind.wrap IntKind.i64 (n % 20)) = i64 (n % 20)]) (s' := St.mk [(1, tp (u8 n)), (2, tp (V.ptr 2 0)), (4, tp (vb false)), (5, tp (V.ptr 210002 0)), (6, tp (i64 i)), (29, tp (vb (decide (i ≤ n % 20))))] [(2, Blk.mk [u16 f, u16 h, u8 r0, u8 r1, u8 r2, u8 r3, u8 r4, u8 r5, i8 k0, i8 k1, i8 k2, i8 k3, i8 k4, i8 k5, u8 mo, u16 rs, vb ex, u8 ih] true 18 none), (210002, Blk.mk [B8 D, B8 D, B8 D, V.val (Value.slice none 0 0)] true 4 none)]) (by kernel_rfl) ⟨(by omega), (tm_ (by omega)), (wr_i64 (by omega) (by omega)), trivial⟩ ?_
    refine AWP.cond (b := decide (i ≤ n % 20)) (by kernel_rfl) (fun hq7 => ?_) (fun hq7 => ?_)
    · simp only [decide_eq_true_eq] at hq7
      refine AWP.skip ?_
      refine AWP.seq ?_
      refine AWP.block ?_
      refine AWP.seq ?_
      refine AWP.regionT tcok hmix [(1, ⟨some (V.tup [V.sl 1000000000 210002 0]), some ⟨V.tup [V.agg true [u16 f, u16 h, u8 r0, u8 r1, u8 r2, u8 r3, u8 r4, u8 r5, i8 k0, i8 k1, i8 k2, i8 k3, i8 k4, i8 k5, u8 0, u16 65535, vb ex, u8 ih], vb true], [(1000000000, Blk.mk [B8 E, B8 E, B8 E, nilS] true 4 none)], []⟩⟩)] [1, 2, 4, 5, 6, 7, 8] [2, 210002, 7] (os := [Con Try.prog 53 [(1000000000, Blk.mk [B8 D, B8 D, B8 D, V.val (Value.slice none 0 0)] true 4 none)] [V.ptr 1000000000 0] [(1000000000, Blk.mk [B8 E, B8 E, B8 E, V.val (Value.slice none 0 0)] true 4 none)] (V.tup [V.agg true [u16 f, u16 h, u8 r0, u8 r1, u8 r2, u8 r3, u8 r4, u8 r5, i8 k0, i8 k1, i8 k2, i8 k3, i8 k4, i8 k5, u8 0, u16 65535, vb ex, u8 ih], vb true])]) (s' := St.mk [(1, tp (u8 n)), (2, tp (V.ptr 2 0)), (4, tp (vb false)), (5, tp (V.ptr 210002 0)), (6, tp (i64 i)), (7, tp (V.ptr 7 0)), (8, tp (vb true))] [(2, Blk.mk [u16 f, u16 h, u8 r0, u8 r1, u8 r2, u8 r3, u8 r4, u8 r5, i8 k0, i8 k1, i8 k2, i8 k3, i8 k4, i8 k5, u8 mo, u16 rs, vb ex, u8 ih] true 18 none), (7, Blk.mk [u16 f, u16 h, u8 r0, u8 r1, u8 r2, u8 r3, u8 r4, u8 r5, i8 k0, i8 k1, i8 k2, i8 k3, i8 k4, i8 k5, u8 0, u16 65535, vb ex, u8 ih] true 18 none), (210002, Blk.mk [B8 E, B8 E, B8 E, V.val (Value.slice none 0 0)] true 4 none)]) (by kernel_rfl) ⟨(bt ), trivial⟩ ?_
      refine AWP.seq ?_
      refine AWP.regionT tcok hmix [] [1, 2, 4, 5, 6, 7, 8, 9] [2, 210002, 7, 9] (os := []) (s' := St.mk [(1, tp (u8 n)), (2, tp (V.ptr 2 0)), (4, tp (vb false)), (5, tp (V.ptr 210002 0)), (6, tp (i64 i)), (7, tp (V.ptr 7 0)), (8, tp (vb true)), (9, tp (V.ptr 9 0))] [(2, Blk.mk [u16 f, u16 h, u8 r0, u8 r1, u8 r2, u8 r3, u8 r4, u8 r5, i8 k0, i8 k1, i8 k2, i8 k3, i8 k4, i8 k5, u8 mo, u16 rs, vb ex, u8 ih] true 18 none), (7, Blk.mk [u16 f, u16 h, u8 r0, u8 r1, u8 r2, u8 r3, u8 r4, u8 r5, i8 k0, i8 k1, i8 k2, i8 k3, i8 k4, i8 k5, u8 0, u16 65535, vb ex, u8 ih] true 18 none), (9, Blk.mk [u16 f, u16 h, u8 r0, u8 r1, u8 r2, u8 r3, u8 r4, u8 r5, i8 k0, i8 k1, i8 k2, i8 k3, i8 k4, i8 k5, u8 mo, u16 rs, vb ex, u8 ih] true 18 none), (210002, Blk.mk [B8 E, B8 E, B8 E, V.val (Value.slice none 0 0)] true 4 none)]) (by kernel_rfl) trivial ?_
      refine AWP.seq ?_
      refine AWP.regionT tcok hmix [] [1, 2, 4, 5, 6, 7, 8, 9] [2, 210002, 7, 9] (os := []) (s' := St.mk [(1, tp (u8 n)), (2, tp (V.ptr 2 0)), (4, tp (vb false)), (5, tp (V.ptr 210002 0)), (6, tp (i64 i)), (7, tp (V.ptr 7 0)), (8, tp (vb true)), (9, tp (V.ptr 9 0))] [(2, Blk.mk [u16 f, u16 h, u8 r0, u8 r1, u8 r2, u8 r3, u8 r4, u8 r5, i8 k0, i8 k1, i8 k2, i8 k3, i8 k4, i8 k5, u8 mo, u16 rs, vb ex, u8 ih] true 18 none), (7, Blk.mk [u16 f, u16 h, u8 r0, u8 r1, u8 r2, u8 r3, u8 r4, u8 r5, i8 k0, i8 k1, i8 k2, i8 k3, i8 k4, i8 k5, u8 0, u16 65535, vb ex, u8 ih] true 18 none), (9, Blk.mk [u16 f, u16 h, u8 r0, u8 r1, u8 r2, u8 r3, u8 r4, u8 r5, i8 k0, i8 k1, i8 k2, i8 k3, i8 k4, i8 k5, u8 0, u16 rs, vb ex, u8 ih] true 18 none), (210002, Blk.mk [B8 E, B8 E, B8 E, V.val (Value.slice none 0 0)] true 4 none)]) (by kernel_rfl) trivial ?_
      refine AWP.seq ?_
      refine AWP.regionT tcok hmix [(2, ⟨some (i64 rs), none⟩), (4, ⟨some (i64 (rs + i)), none⟩), (5, ⟨some (i64 65535), none⟩)] [1, 2, 4, 5, 6, 7, 8, 9] [2, 210002, 7, 9] (os := [i64 (IntKind.wrap IntKind.i64 rs) = i64 rs, i64 (IntKind.wrap IntKind.i64 (rs + i)) = i64 (rs + i), i64 (imin (rs + i) 65535) = i64 65535]) (s' := St.mk [(1, tp (u8 n)), (2, tp (V.ptr 2 0)), (4, tp (vb false)), (5, tp (V.ptr 210002 0)), (6, tp (i64 i)), (7, tp (V.ptr 7 0)), (8, tp (vb true)), (9, tp (V.ptr 9 0))] [(2, Blk.mk [u16 f, u16 h, u8 r0, u8 r1, u8 r2, u8 r3, u8 r4, u8 r5, i8 k0, i8 k1, i8 k2, i8 k3, i8 k4, i8 k5, u8 mo, u16 rs, vb ex, u8 ih] true 18 none), (7, Blk.mk [u16 f, u16 h, u8 r0, u8 r1, u8 r2, u8 r3, u8 r4, u8 r5, i8 k0, i8 k1, i8 k2, i8 k3, i8 k4, i8 k5, u8 0, u16 65535, vb ex, u8 ih] true 18 none), (9, Blk.mk [u16 f, u16 h, u8 r0, u8 r1, u8 r2, u8 r3, u8 r4, u8 r5, i8 k0, i8 k1, i8 k2, i8 k3, i8 k4, i8 k5, u8 0, u16 65535, vb ex, u8 ih] true 18 none), (210002, Blk.mk [B8 E, B8 E, B8 E, V.val (Value.slice none 0 0)] true 4 none)]) (by kernel_rfl) ⟨(wr_i64 (by omega) (by omega)), (wr_i64 (by omega) (by omega)), (in_eq wfi), trivial⟩ ?_
      refine AWP.seq ?_
      refine AWP.regionT tcok hmix [] [1, 2, 4, 5, 6, 53] [2, 210002] (os := []) (s' := St.mk [(1, tp (u8 n)), (2, tp (V.ptr 2 0)), (4, tp (vb false)), (5, tp (V.ptr 210002 0)), (6, tp (i64 i)), (53, tp (vb (false || bl false (f == f && (h == h && (r0 == r0 && (r1 == r1 && (r2 == r2 && (r3 == r3 && (r4 == r4 && (r5 == r5 && true))))) && (k0 == k0 && (k1 == k1 && (k2 == k2 && (k3 == k3 && (k4 == k4 && (k5 == k5 && true))))) && (0 == 0 && (65535 == 65535 && (ex == ex && (ih == ih && true)))))))))))] [(2, Blk.mk [u16 f, u16 h, u8 r0, u8 r1, u8 r2, u8 r3, u8 r4, u8 r5, i8 k0, i8 k1, i8 k2, i8 k3, i8 k4, i8 k5, u8 mo, u16 rs, vb ex, u8 ih] true 18 none), (210002, Blk.mk [B8 E, B8 E, B8 E, V.val (Value.slice none 0 0)] true 4 none)]) (by kernel_rfl) trivial ?_
      refine AWP.cond (b := false || bl false (f == f && (h == h && (r0 == r0 && (r1 == r1 && (r2 == r2 && (r3 == r3 && (r4 == r4 && (r5 == r5 && true))))) && (k0 == k0 && (k1 == k1 && (k2 == k2 && (k3 == k3 && (k4 == k4 && (k5 == k5 && true))))) && (0 == 0 && (65535 == 65535 && (ex == ex && (ih == ih && true))))))))) (by kernel_rfl) (fun hq8 => ?_) (fun hq8 => ?_)
      · simp only [Bool.false_or, Bool.and_true] at hq8
        (simp [bl] at hq8; done)
      simp only [Bool.false_or, Bool.and_true] at hq8
      refine AWP.skip ?_
      refine AWP.region tcok hmix [(1, ⟨some (i64 (i + 1)), none⟩)] (os := [i64 (IntKind.wrap IntKind.i64 (i + 1)) = i64 (i + 1)]) (sf := St.mk [(1, tp (u8 n)), (2, tp (V.ptr 2 0)), (4, tp (vb false)), (5, tp (V.ptr 210002 0)), (6, tp (i64 (i + 1))), (30, tp (i64 i)), (31, tp (i64 (i + 1))), (53, tp (vb (false || bl false (f == f && (h == h && (r0 == r0 && (r1 == r1 && (r2 == r2 && (r3 == r3 && (r4 == r4 && (r5 == r5 && true))))) && (k0 == k0 && (k1 == k1 && (k2 == k2 && (k3 == k3 && (k4 == k4 && (k5 == k5 && true))))) && (0 == 0 && (65535 == 65535 && (ex == ex && (ih == ih && true)))))))))))] [(2, Blk.mk [u16 f, u16 h, u8 r0, u8 r1, u8 r2, u8 r3, u8 r4, u8 r5, i8 k0, i8 k1, i8 k2, i8 k3, i8 k4, i8 k5, u8 mo, u16 rs, vb ex, u8 ih] true 18 none), (210002, Blk.mk [B8 E, B8 E, B8 E, V.val (Value.slice none 0 0)] true 4 none)]) (by kernel_rfl) ⟨(wr_i64 (by omega) (by omega)), trivial⟩ ?_
      refine ⟨St.mk [(1, tp (u8 n)), (2, tp (V.ptr 2 0)), (4, tp (vb false)), (5, tp (V.ptr 210002 0)), (6, tp (i64 (i + 1)))] [(2, Blk.mk [u16 f, u16 h, u8 r0, u8 r1, u8 r2, u8 r3, u8 r4, u8 r5, i8 k0, i8 k1, i8 k2, i8 k3, i8 k4, i8 k5, u8 mo, u16 rs, vb ex, u8 ih] true 18 none), (210002, Blk.mk [B8 E, B8 E, B8 E, V.val (Value.slice none 0 0)] true 4 none)], by kernel_rfl, ?_⟩
      first | (exact ⟨(21 - (i + 1)).toNat, (by omega), i + 1, 0, 65535, E, rfl, hE2.symm, (by omega), (by omega), (by omega), (by omega), (by omega), (by omega)⟩) | (exfalso; omega)
    simp only [decide_eq_false_iff_not] at hq7
    (exfalso; omega)
theorem cf_of8 {v : V} (hv : TyV tc 9 28 v) : ∃ f h r0 r1 r2 r3 r4 r5 k0 k1 k2 k3 k4 k5 mo rs ih ex, v = .agg true [u16 f, u16 h, u8 r0, u8 r1, u8 r2, u8 r3, u8 r4, u8 r5, i8 k0, i8 k1, i8 k2, i8 k3, i8 k4, i8 k5, u8 mo, u16 rs, vb ex, u8 ih] ∧ (0 ≤ f ∧ f < 65536 ∧ 0 ≤ h ∧ h < 65536 ∧ 0 ≤ r0 ∧ r0 < 256 ∧ 0 ≤ r1 ∧ r1 < 256 ∧ 0 ≤ r2 ∧ r2 < 256 ∧ 0 ≤ r3 ∧ r3 < 256 ∧ 0 ≤ r4 ∧ r4 < 256 ∧ 0 ≤ r5 ∧ r5 < 256 ∧ -128 ≤ k0 ∧ k0 < 128 ∧ -128 ≤ k1 ∧ k1 < 128 ∧ -128 ≤ k2 ∧ k2 < 128 ∧ -128 ≤ k3 ∧ k3 < 128 ∧ -128 ≤ k4 ∧ k4 < 128 ∧ -128 ≤ k5 ∧ k5 < 128 ∧ 0 ≤ mo ∧ mo < 256 ∧ 0 ≤ rs ∧ rs < 65536 ∧ 0 ≤ ih ∧ ih < 256) := by
  obtain ⟨xs, rfl, _, _, rfl, ⟨f, rfl, f1, f2⟩, _, _, rfl, ⟨h, rfl, h1, h2⟩, _, _, rfl, hr, _, _, rfl, hk, _, _, rfl, ⟨mo, rfl, mo1, mo2⟩, _, _, rfl, ⟨rs, rfl, rs1, rs2⟩, _, _, rfl, ⟨ex, rfl⟩, _, _, rfl, ⟨ih, rfl, ih1, ih2⟩, rfl⟩ := hv
  obtain ⟨_, _, rfl, ⟨r0, rfl, r0a, r0b⟩, hr0⟩ := rows_cons hr
  obtain ⟨_, _, rfl, ⟨r1, rfl, r1a, r1b⟩, hr1⟩ := rows_cons hr0
  obtain ⟨_, _, rfl, ⟨r2, rfl, r2a, r2b⟩, hr2⟩ := rows_cons hr1
  obtain ⟨_, _, rfl, ⟨r3, rfl, r3a, r3b⟩, hr3⟩ := rows_cons hr2
  obtain ⟨_, _, rfl, ⟨r4, rfl, r4a, r4b⟩, hr4⟩ := rows_cons hr3
  obtain ⟨_, _, rfl, ⟨r5, rfl, r5a, r5b⟩, hr5⟩ := rows_cons hr4
  obtain rfl := rows_nil hr5
  obtain ⟨_, _, rfl, ⟨k0, rfl, k0a, k0b⟩, hk0⟩ := rows_cons hk
  obtain ⟨_, _, rfl, ⟨k1, rfl, k1a, k1b⟩, hk1⟩ := rows_cons hk0
  obtain ⟨_, _, rfl, ⟨k2, rfl, k2a, k2b⟩, hk2⟩ := rows_cons hk1
  obtain ⟨_, _, rfl, ⟨k3, rfl, k3a, k3b⟩, hk3⟩ := rows_cons hk2
  obtain ⟨_, _, rfl, ⟨k4, rfl, k4a, k4b⟩, hk4⟩ := rows_cons hk3
  obtain ⟨_, _, rfl, ⟨k5, rfl, k5a, k5b⟩, hk5⟩ := rows_cons hk4
  obtain rfl := rows_nil hk5
  exact ⟨f, h, r0, r1, r2, r3, r4, r5, k0, k1, k2, k3, k4, k5, mo, rs, ih, ex, rfl, f1, Int.lt_add_one_of_le f2, h1, Int.lt_add_one_of_le h2, r0a, Int.lt_add_one_of_le r0b, r1a, Int.lt_add_one_of_le r1b, r2a, Int.lt_add_one_of_le r2b, r3a, Int.lt_add_one_of_le r3b, r4a, Int.lt_add_one_of_le r4b, r5a, Int.lt_add_one_of_le r5b, k0a, Int.lt_add_one_of_le k0b, k1a, Int.lt_add_one_of_le k1b, k2a, Int.lt_add_one_of_le k2b, k3a, Int.lt_add_one_of_le k3b, k4a, Int.lt_add_one_of_le k4b, k5a, Int.lt_add_one_of_le k5b, mo1, Int.lt_add_one_of_le mo2, rs1, Int.lt_add_one_of_le rs2, ih1, Int.lt_add_one_of_le ih2⟩
theorem law_ContextCounts (c n : V) (hc : TyV tc 9 28 c) (hn : TyV tc 9 5 n) : Con Try.prog 12 [] [c, n] [] (vb true) := by
  obtain ⟨f, h, r0, r1, r2, r3, r4, r5, k0, k1, k2, k3, k4, k5, mo, rs, ih, ex, rfl, hb⟩ := cf_of8 hc
  obtain ⟨a, e2, a1, a2⟩ := hn
  cases e2
  by_cases hy : -1 ≤ k0 ∧ k0 ≤ 15 ∧ -1 ≤ k1 ∧ k1 ≤ 15 ∧ -1 ≤ k2 ∧ k2 ≤ 15 ∧ -1 ≤ k3 ∧ k3 ≤ 15 ∧ -1 ≤ k4 ∧ k4 ≤ 15 ∧ -1 ≤ k5 ∧ k5 ≤ 15 ∧ mo ≤ 3 ∧ ih ≤ 31
  · exact counts_y f h r0 r1 r2 r3 r4 r5 k0 k1 k2 k3 k4 k5 mo rs ih ex a ⟨a1, Int.lt_add_one_of_le a2⟩ hb hy
  · exact counts_n f h r0 r1 r2 r3 r4 r5 k0 k1 k2 k3 k4 k5 mo rs ih ex a hy
end Go.Proofs.Ytmeiemdnhjnpcaa
