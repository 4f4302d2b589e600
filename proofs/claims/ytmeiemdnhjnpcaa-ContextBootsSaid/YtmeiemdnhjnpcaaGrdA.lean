/- Memory that survives: its methods. -/
import Derived.Test.YtmeiemdnhjnpcaaRg
import Derived.Test.YtmeiemdnhjnpcaaCelY
namespace Go.Proofs.Ytmeiemdnhjnpcaa
open Go.Ab
set_option linter.unusedSimpArgs false
set_option linter.unusedVariables false
set_option maxHeartbeats 4000000
abbrev nilS : V := .val (.slice none 0 0)
theorem con_greset (a b c n : V) : Con Try.prog 54 [(1000000000, ⟨[a, b, c, n], true, 4, none⟩)] [.ptr 1000000000 0] [(1000000000, ⟨[a, b, c, nilS], true, 4, none⟩)] (.tup []) := by
  refine Con.of (C := ⟨Try.prog, tc, Try.f54.ntmps⟩) [1000000000] tcok Try.func54 rfl rfl (by kernel_rfl) (by kernel_rfl) ?_
  refine xe0 [0, 3] [1000000000] (by kernel_rfl) ?_
  refine AWP.condT (by kernel_rfl) ?_
  refine AWP.region tcok hmix [] (os := []) (sf := St.mk [(0, tp (V.ptr 1000000000 0)), (3, tp (vb true)), (4, tp (V.ptr 1000000000 0)), (5, tp (V.ptr 1000000000 0)), (6, tp (V.ptr 1000000000 3))] [(1000000000, Blk.mk [a, b, c, V.val (Value.slice none 0 0)] true 4 none)]) (by kernel_rfl) trivial ?_
  refine ⟨Or.inl rfl, Eq.trans (b := some ([(1000000000, Blk.mk [a, b, c, V.val (Value.slice none 0 0)] true 4 none)], V.tup [])) (by kernel_rfl) ?_⟩
  rfl
theorem con_gpend_n (a b c : V) : Con Try.prog 49 [] [.vp [a, b, c, nilS]] [] (vb false) := by
  refine Con.of (C := ⟨Try.prog, tc, Try.f49.ntmps⟩) [] tcok Try.func49 rfl rfl (by kernel_rfl) (by kernel_rfl) ?_
  refine xe0 [0, 2] [] (by kernel_rfl) ?_
  refine xe0 [2] [] (by kernel_rfl) ?_
  refine AWP.ret ?_
  refine ⟨Or.inr rfl, Eq.trans (b := some ([], vb false)) (by kernel_rfl) ?_⟩
  rfl
def top3 (a b c : List Int) : Int := imax (imax (imax 0 (cNo a)) (cNo b)) (cNo c)
theorem top3_bd {a b c : List Int} (ha : BL a) (hb : BL b) (hc : BL c) : 0 ≤ top3 a b c ∧ top3 a b c < 4294967296 := by
  have h1 := cNo_bd ha
  have h2 := cNo_bd hb
  have h3 := cNo_bd hc
  unfold top3 imax
  split <;> split <;> split <;> omega
theorem con_made_y (a b c : List Int) (ha : BL a) (hb : BL b) (hc : BL c) (hla : a.length ≤ 1000000) (hlb : b.length ≤ 1000000) (hlc : c.length ≤ 1000000) (p : List Int) (n : Nat) (hp : BL p) (hn : p.length = n) (nx : V) (hl : n ≤ 200) (ht : top3 a b c < 4294967295) : Con Try.prog 73 [] [.vp [B8 a, B8 b, B8 c, nx], .vs (u8s p) n] [(850005, ⟨u8s (mk (top3 a b c + 1) p), true, 0, some (5, 1)⟩)] (.tup [.sl 850005 0 (n + 8), i64 0]) := by
  have htb := top3_bd ha hb hc
  obtain ⟨tp, hT⟩ : ∃ tp, top3 a b c = tp := ⟨_, rfl⟩
  have wft : imax (imax (imax 0 (cNo a)) (cNo b)) (cNo c) = tp := hT
  rw [hT] at htb ht ⊢
  refine Con.of (C := ⟨Try.prog, tc, Try.f73.ntmps⟩) [850005] tcok Try.func73 rfl rfl (by kernel_rfl) (by kernel_rfl) ?_
  refine xe0 [0, 1, 4, 5] [4] (by kernel_rfl) ?_
  refine xe0 [0, 1, 4, 5, 6] [4] (by kernel_rfl) ?_
  refine AWP.seq ?_
  refine xe0 [1, 4, 5, 6, 15, 16] [4] (by kernel_rfl) ?_
  refine AWP.block ?_
  refine AWP.unroll 8 ?_
  refine xe0 [1, 4, 5, 6, 15, 16, 17] [4] (by kernel_rfl) ?_
  refine AWP.seq ?_
  refine AWP.condT (by kernel_rfl) ?_
  refine AWP.skip ?_
  refine AWP.seq ?_
  refine AWP.block ?_
  refine xe0 [1, 4, 5, 6, 8, 15, 16, 17, 18] [4] (by kernel_rfl) ?_
  refine xe1 [(1, ⟨none, some ⟨V.tup [u32 (cNo a), V.sl 680005 0 (List.length (cPo a)), i64 (cE a)], [(680005, Blk.mk (u8s (cPo a)) true 0 (some (5, 1)))], []⟩⟩)] [1, 4, 5, 6, 8, 9, 15, 16, 17, 18, 19, 20, 21, 22, 23, 24] [4, 900005] (by kernel_rfl) (AllP.c (con_cparse (a) (List.length a) (by omega) (by assumption) (by omega)) AllP.n) ?_
  refine AWP.region tcok hmix [] (os := []) (sf := St.mk [(1, Ab.tp (V.vs (u8s p) n)), (4, Ab.tp (V.sl 4 0 0)), (5, Ab.tp (i64 0)), (6, Ab.tp (u32 (imax 0 (cNo a)))), (8, Ab.tp (B8 a)), (9, Ab.tp (u32 (cNo a))), (15, Ab.tp (V.agg true [B8 a, B8 b, B8 c])), (16, Ab.tp (i64 0)), (17, Ab.tp (vb true)), (18, Ab.tp (B8 a)), (19, Ab.tp (V.tup [u32 (cNo a), V.sl 900005 0 (List.length (cPo a)), i64 (cE a)])), (20, Ab.tp (B8 a)), (21, Ab.tp (V.tup [u32 (cNo a), V.sl 900005 0 (List.length (cPo a)), i64 (cE a)])), (22, Ab.tp (u32 (cNo a))), (23, Ab.tp (V.sl 900005 0 (List.length (cPo a)))), (24, Ab.tp (i64 (cE a))), (25, Ab.tp (u32 0)), (26, Ab.tp (u32 (cNo a))), (27, Ab.tp (u32 (imax 0 (cNo a))))] [(4, Blk.mk [] true 0 (some (5, 1))), (900005, Blk.mk (u8s (cPo a)) true 0 (some (5, 1)))]) (by kernel_rfl) trivial ?_
  refine AWP.region tcok hmix [] (os := []) (sf := St.mk [(1, Ab.tp (V.vs (u8s p) n)), (4, Ab.tp (V.sl 4 0 0)), (5, Ab.tp (i64 0)), (6, Ab.tp (u32 (imax 0 (cNo a)))), (8, Ab.tp (B8 a)), (9, Ab.tp (u32 (cNo a))), (15, Ab.tp (V.agg true [B8 a, B8 b, B8 c])), (16, Ab.tp (i64 1)), (17, Ab.tp (vb true)), (18, Ab.tp (B8 a)), (19, Ab.tp (V.tup [u32 (cNo a), V.sl 900005 0 (List.length (cPo a)), i64 (cE a)])), (20, Ab.tp (B8 a)), (21, Ab.tp (V.tup [u32 (cNo a), V.sl 900005 0 (List.length (cPo a)), i64 (cE a)])), (22, Ab.tp (u32 (cNo a))), (23, Ab.tp (V.sl 900005 0 (List.length (cPo a)))), (24, Ab.tp (i64 (cE a))), (25, Ab.tp (u32 0)), (26, Ab.tp (u32 (cNo a))), (27, Ab.tp (u32 (imax 0 (cNo a)))), (28, Ab.tp (i64 1))] [(4, Blk.mk [] true 0 (some (5, 1))), (900005, Blk.mk (u8s (cPo a)) true 0 (some (5, 1)))]) (by kernel_rfl) trivial ?_
  refine xe0 [1, 4, 5, 6, 8, 9, 15, 16, 17, 18, 19, 20, 21, 22, 23, 24, 25, 26, 27, 28] [4, 900005] (by kernel_rfl) ?_
  refine AWP.seq ?_
  refine AWP.condT (by kernel_rfl) ?_
  refine AWP.skip ?_
  refine AWP.seq ?_
  refine AWP.block ?_
  refine xe0 [1, 4, 5, 6, 8, 9, 15, 16, 17, 18, 19, 20, 21, 22, 23, 24, 25, 26, 27, 28] [4, 900005] (by kernel_rfl) ?_
  refine AWP.seq ?_
  refine AWP.keep' [1, 4, 5, 6, 8, 15, 16, 17, 18, 25, 26, 27, 28] [4] (sf := St.mk [(1, Ab.tp (V.vs (u8s p) n)), (4, Ab.tp (V.sl 4 0 0)), (5, Ab.tp (i64 0)), (6, Ab.tp (u32 (imax 0 (cNo a)))), (8, Ab.tp (B8 b)), (15, Ab.tp (V.agg true [B8 a, B8 b, B8 c])), (16, Ab.tp (i64 1)), (17, Ab.tp (vb true)), (18, Ab.tp (B8 b)), (25, Ab.tp (u32 0)), (26, Ab.tp (u32 (cNo a))), (27, Ab.tp (u32 (imax 0 (cNo a)))), (28, Ab.tp (i64 1))] [(4, Blk.mk [] true 0 (some (5, 1)))]) (by kernel_rfl) ?_
  refine xg1 [(1, ⟨none, some ⟨V.tup [u32 (cNo b), V.sl 680005 0 (List.length (cPo b)), i64 (cE b)], [(680005, Blk.mk (u8s (cPo b)) true 0 (some (5, 1)))], []⟩⟩)] [1, 4, 5, 6, 8, 9, 15, 16, 17, 18, 19, 20, 21, 22, 23, 24, 25, 26, 27, 28] [4, 900005] (by kernel_rfl) (AllP.c (con_cparse (b) (List.length b) (by omega) (by assumption) (by omega)) AllP.n) ?_
  refine AWP.region tcok hmix [] (os := []) (sf := St.mk [(1, Ab.tp (V.vs (u8s p) n)), (4, Ab.tp (V.sl 4 0 0)), (5, Ab.tp (i64 0)), (6, Ab.tp (u32 (imax (imax 0 (cNo a)) (cNo b)))), (8, Ab.tp (B8 b)), (9, Ab.tp (u32 (cNo b))), (15, Ab.tp (V.agg true [B8 a, B8 b, B8 c])), (16, Ab.tp (i64 1)), (17, Ab.tp (vb true)), (18, Ab.tp (B8 b)), (19, Ab.tp (V.tup [u32 (cNo b), V.sl 900005 0 (List.length (cPo b)), i64 (cE b)])), (20, Ab.tp (B8 b)), (21, Ab.tp (V.tup [u32 (cNo b), V.sl 900005 0 (List.length (cPo b)), i64 (cE b)])), (22, Ab.tp (u32 (cNo b))), (23, Ab.tp (V.sl 900005 0 (List.length (cPo b)))), (24, Ab.tp (i64 (cE b))), (25, Ab.tp (u32 (imax 0 (cNo a)))), (26, Ab.tp (u32 (cNo b))), (27, Ab.tp (u32 (imax (imax 0 (cNo a)) (cNo b)))), (28, Ab.tp (i64 1))] [(4, Blk.mk [] true 0 (some (5, 1))), (900005, Blk.mk (u8s (cPo b)) true 0 (some (5, 1)))]) (by kernel_rfl) trivial ?_
  refine AWP.region tcok hmix [] (os := []) (sf := St.mk [(1, Ab.tp (V.vs (u8s p) n)), (4, Ab.tp (V.sl 4 0 0)), (5, Ab.tp (i64 0)), (6, Ab.tp (u32 (imax (imax 0 (cNo a)) (cNo b)))), (8, Ab.tp (B8 b)), (9, Ab.tp (u32 (cNo b))), (15, Ab.tp (V.agg true [B8 a, B8 b, B8 c])), (16, Ab.tp (i64 2)), (17, Ab.tp (vb true)), (18, Ab.tp (B8 b)), (19, Ab.tp (V.tup [u32 (cNo b), V.sl 900005 0 (List.length (cPo b)), i64 (cE b)])), (20, Ab.tp (B8 b)), (21, Ab.tp (V.tup [u32 (cNo b), V.sl 900005 0 (List.length (cPo b)), i64 (cE b)])), (22, Ab.tp (u32 (cNo b))), (23, Ab.tp (V.sl 900005 0 (List.length (cPo b)))), (24, Ab.tp (i64 (cE b))), (25, Ab.tp (u32 (imax 0 (cNo a)))), (26, Ab.tp (u32 (cNo b))), (27, Ab.tp (u32 (imax (imax 0 (cNo a)) (cNo b)))), (28, Ab.tp (i64 2))] [(4, Blk.mk [] true 0 (some (5, 1))), (900005, Blk.mk (u8s (cPo b)) true 0 (some (5, 1)))]) (by kernel_rfl) trivial ?_
  refine xe0 [1, 4, 5, 6, 8, 9, 15, 16, 17, 18, 19, 20, 21, 22, 23, 24, 25, 26, 27, 28] [4, 900005] (by kernel_rfl) ?_
  refine AWP.seq ?_
  refine AWP.condT (by kernel_rfl) ?_
  refine AWP.skip ?_
  refine AWP.seq ?_
  refine AWP.block ?_
  refine xe0 [1, 4, 5, 6, 8, 9, 15, 16, 17, 18, 19, 20, 21, 22, 23, 24, 25, 26, 27, 28] [4, 900005] (by kernel_rfl) ?_
  refine AWP.seq ?_
  refine AWP.keep' [1, 4, 5, 6, 8, 15, 16, 17, 18, 25, 26, 27, 28] [4] (sf := St.mk [(1, Ab.tp (V.vs (u8s p) n)), (4, Ab.tp (V.sl 4 0 0)), (5, Ab.tp (i64 0)), (6, Ab.tp (u32 (imax (imax 0 (cNo a)) (cNo b)))), (8, Ab.tp (B8 c)), (15, Ab.tp (V.agg true [B8 a, B8 b, B8 c])), (16, Ab.tp (i64 2)), (17, Ab.tp (vb true)), (18, Ab.tp (B8 c)), (25, Ab.tp (u32 (imax 0 (cNo a)))), (26, Ab.tp (u32 (cNo b))), (27, Ab.tp (u32 (imax (imax 0 (cNo a)) (cNo b)))), (28, Ab.tp (i64 2))] [(4, Blk.mk [] true 0 (some (5, 1)))]) (by kernel_rfl) ?_
  refine xg1 [(1, ⟨none, some ⟨V.tup [u32 (cNo c), V.sl 680005 0 (List.length (cPo c)), i64 (cE c)], [(680005, Blk.mk (u8s (cPo c)) true 0 (some (5, 1)))], []⟩⟩)] [1, 4, 5, 6, 8, 9, 15, 16, 17, 18, 19, 20, 21, 22, 23, 24, 25, 26, 27, 28] [4, 900005] (by kernel_rfl) (AllP.c (con_cparse (c) (List.length c) (by omega) (by assumption) (by omega)) AllP.n) ?_
  refine AWP.region tcok hmix [(2, ⟨some (u32 tp), none⟩)] (os := [u32 (imax (imax (imax 0 (cNo a)) (cNo b)) (cNo c)) = u32 tp]) (sf := St.mk [(1, Ab.tp (V.vs (u8s p) n)), (4, Ab.tp (V.sl 4 0 0)), (5, Ab.tp (i64 0)), (6, Ab.tp (u32 tp)), (8, Ab.tp (B8 c)), (9, Ab.tp (u32 (cNo c))), (15, Ab.tp (V.agg true [B8 a, B8 b, B8 c])), (16, Ab.tp (i64 2)), (17, Ab.tp (vb true)), (18, Ab.tp (B8 c)), (19, Ab.tp (V.tup [u32 (cNo c), V.sl 900005 0 (List.length (cPo c)), i64 (cE c)])), (20, Ab.tp (B8 c)), (21, Ab.tp (V.tup [u32 (cNo c), V.sl 900005 0 (List.length (cPo c)), i64 (cE c)])), (22, Ab.tp (u32 (cNo c))), (23, Ab.tp (V.sl 900005 0 (List.length (cPo c)))), (24, Ab.tp (i64 (cE c))), (25, Ab.tp (u32 (imax (imax 0 (cNo a)) (cNo b)))), (26, Ab.tp (u32 (cNo c))), (27, Ab.tp (u32 tp)), (28, Ab.tp (i64 2))] [(4, Blk.mk [] true 0 (some (5, 1))), (900005, Blk.mk (u8s (cPo c)) true 0 (some (5, 1)))]) (by kernel_rfl) ⟨(in_eq wft), trivial⟩ ?_
  refine AWP.region tcok hmix [] (os := []) (sf := St.mk [(1, Ab.tp (V.vs (u8s p) n)), (4, Ab.tp (V.sl 4 0 0)), (5, Ab.tp (i64 0)), (6, Ab.tp (u32 tp)), (8, Ab.tp (B8 c)), (9, Ab.tp (u32 (cNo c))), (15, Ab.tp (V.agg true [B8 a, B8 b, B8 c])), (16, Ab.tp (i64 3)), (17, Ab.tp (vb true)), (18, Ab.tp (B8 c)), (19, Ab.tp (V.tup [u32 (cNo c), V.sl 900005 0 (List.length (cPo c)), i64 (cE c)])), (20, Ab.tp (B8 c)), (21, Ab.tp (V.tup [u32 (cNo c), V.sl 900005 0 (List.length (cPo c)), i64 (cE c)])), (22, Ab.tp (u32 (cNo c))), (23, Ab.tp (V.sl 900005 0 (List.length (cPo c)))), (24, Ab.tp (i64 (cE c))), (25, Ab.tp (u32 (imax (imax 0 (cNo a)) (cNo b)))), (26, Ab.tp (u32 (cNo c))), (27, Ab.tp (u32 tp)), (28, Ab.tp (i64 3))] [(4, Blk.mk [] true 0 (some (5, 1))), (900005, Blk.mk (u8s (cPo c)) true 0 (some (5, 1)))]) (by kernel_rfl) trivial ?_
  refine xe0 [1, 4, 5, 6, 8, 9, 15, 16, 17, 18, 19, 20, 21, 22, 23, 24, 25, 26, 27, 28] [4, 900005] (by kernel_rfl) ?_
  refine AWP.seq ?_
  refine AWP.condF (by kernel_rfl) ?_
  refine AWP.exit ?_
  refine AWP.seq ?_
  refine xe0 [1, 4, 5, 6, 31] [4] (by kernel_rfl) ?_
  refine AWP.cond (b := decide ((↑n : Int) > 200)) (by kernel_rfl) (fun hq5 => ?_) (fun hq5 => ?_)
  · simp only [decide_eq_true_eq] at hq5
    (exfalso; omega)
  simp only [decide_eq_false_iff_not] at hq5
  refine AWP.skip ?_
  refine AWP.seq ?_
  refine xe0 [1, 4, 5, 6, 33] [4] (by kernel_rfl) ?_
  refine AWP.cond (b := tp == 4294967295) (by kernel_rfl) (fun hq6 => ?_) (fun hq6 => ?_)
  · simp only [beq_iff_eq] at hq6
    (exfalso; omega)
  simp only [beq_eq_false_iff_ne] at hq6
  refine AWP.skip ?_
  refine AWP.seq ?_
  refine AWP.keep' [1, 6] [] (sf := St.mk [(1, Ab.tp (V.vs (u8s p) n)), (6, Ab.tp (u32 tp))] []) (by kernel_rfl) ?_
  refine xg1 (os := [u32 (IntKind.wrap IntKind.u32 (tp + 1)) = u32 (tp + 1), Con Try.prog 32 [] [u32 (tp + 1), V.vs (u8s p) n] [(470005, Blk.mk (u8s (mk (tp + 1) p)) true 0 (some (5, 1)))] (V.tup [V.sl 470005 0 (n + 8), i64 0])]) [(1, ⟨some (u32 (tp + 1)), none⟩), (3, ⟨none, some ⟨V.tup [V.sl 470005 0 (n + 8), i64 0], [(470005, Blk.mk (u8s (mk (tp + 1) p)) true 0 (some (5, 1)))], []⟩⟩)] [4, 5] [850005] (by kernel_rfl) ⟨(wr_u32 (by omega) (by omega)), (con_cmake_y (tp + 1) (by omega) (p) (n) (by assumption) (by assumption) (by assumption)), trivial⟩ ?_
  refine AWP.ret ?_
  refine ⟨Or.inr rfl, Eq.trans (b := some ([(850005, Blk.mk (u8s (mk (tp + 1) p)) true 0 (some (5, 1)))], V.tup [V.sl 850005 0 (n + 8), i64 0])) (by kernel_rfl) ?_⟩
  rfl
theorem con_gbegin_y (a b c : List Int) (ha : BL a) (hb : BL b) (hc : BL c) (hla : a.length ≤ 1000000) (hlb : b.length ≤ 1000000) (hlc : c.length ≤ 1000000) (p : List Int) (n : Nat) (hp : BL p) (hn : p.length = n) (cs : List Int) (hcs : mk (top3 a b c + 1) p = cs) (hl : n ≤ 200) (ht : top3 a b c < 4294967295) : Con Try.prog 45 [(1000000000, ⟨[B8 a, B8 b, B8 c, nilS], true, 4, none⟩)] [.ptr 1000000000 0, .vs (u8s p) n] [(1000000000, ⟨[B8 cs, B8 b, B8 c, B8 cs], true, 4, none⟩)] (i64 0) := by
  have cm := con_made_y a b c ha hb hc hla hlb hlc p n hp hn nilS hl ht
  have hcl : n + 8 = cs.length := by rw [← hcs, mk_len, hn]
  rw [hcs, hcl] at cm
  refine Con.of (C := ⟨Try.prog, tc, Try.f45.ntmps⟩) [1000000000] tcok Try.func45 rfl rfl (by kernel_rfl) (by kernel_rfl) ?_
  refine xe0 [0, 1, 4] [1000000000] (by kernel_rfl) ?_
  refine AWP.seq ?_
  refine xe0 [0, 1, 4, 8] [1000000000] (by kernel_rfl) ?_
  refine AWP.condF (by kernel_rfl) ?_
  refine AWP.skip ?_
  refine xe1 (os := [VO (V.tup [V.sl (850005 : Nat) (0 : Nat) (List.length cs), i64 (0 : Int)]), VOH [((850005 : Nat), Blk.mk (u8s cs) true (0 : Nat) (some ((5 : Nat), (1 : Nat))))], Con Try.prog 73 [] [V.vp [B8 a, B8 b, B8 c, V.val (Value.slice none 0 0)], V.vs (u8s p) n] [(850005, Blk.mk (u8s cs) true 0 (some (5, 1)))] (V.tup [V.sl 850005 0 (List.length cs), i64 0])]) [(2, ⟨none, some ⟨V.tup [V.sl 850005 0 (List.length cs), i64 0], [(850005, Blk.mk (u8s cs) true 0 (some (5, 1)))], [(1000000000, true)]⟩⟩)] [0, 4, 5, 6] [1000000000, 980005] (by kernel_rfl) ⟨(VO.tup (VOL.cons (VO.sl _ _ _) (VOL.cons (VO.val _) VOL.nil))), ⟨(VOL.u8s _), trivial⟩, (cm ), trivial⟩ ?_
  refine AWP.seq ?_
  refine AWP.block ?_
  refine xe0 [0, 4, 5, 6, 15] [1000000000, 980005] (by kernel_rfl) ?_
  refine AWP.condF (by kernel_rfl) ?_
  refine xe1 (os := [VO (vb false), VOH [], Con Try.prog 49 [] [V.vp [B8 a, B8 b, B8 c, V.val (Value.slice none 0 0)]] [] (vb false)]) [(1, ⟨none, some ⟨vb false, [], [(1000000000, true)]⟩⟩)] [0, 4, 5, 6, 19] [1000000000, 980005] (by kernel_rfl) ⟨(VO.val _), trivial, (con_gpend_n (B8 a) (B8 b) (B8 c)), trivial⟩ ?_
  refine AWP.condF (by kernel_rfl) ?_
  refine xe0 [0, 4, 5, 6, 22] [1000000000, 980005] (by kernel_rfl) ?_
  refine AWP.condF (by kernel_rfl) ?_
  refine AWP.skip ?_
  refine xe0 [4] [1000000000, 980005] (by kernel_rfl) ?_
  refine xe0 [4] [980005, 1000000000] (by kernel_rfl) ?_
  refine AWP.frz 980005 (s' := St.mk [(4, tp (i64 0))] [(1000000000, Blk.mk [B8 cs, B8 b, B8 c, B8 cs] true 4 none)]) (by kernel_rfl) ?_
  refine AWP.ret ?_
  refine ⟨Or.inr rfl, Eq.trans (b := some ([(1000000000, Blk.mk [B8 cs, B8 b, B8 c, B8 cs] true 4 none)], i64 0)) (by kernel_rfl) ?_⟩
  rfl
theorem con_gfill_n (a b c : List Int) (ha : BL a) (hb : BL b) (hc : BL c) (hla : a.length ≤ 1000000) (hlb : b.length ≤ 1000000) (hlc : c.length ≤ 1000000) (p : List Int) (n : Nat) (hp : BL p) (hn : p.length = n) (cs : List Int) (hcs : mk (top3 a b c + 1) p = cs) (hl : n ≤ 200) (ht : top3 a b c < 4294967295) : Con Try.prog 46 [(1000000000, ⟨[B8 a, B8 b, B8 c, nilS], true, 4, none⟩)] [.ptr 1000000000 0, .vs (u8s p) n] [(1000000000, ⟨[B8 cs, B8 cs, B8 cs, nilS], true, 4, none⟩)] (i64 0) := by
  have cm := con_made_y a b c ha hb hc hla hlb hlc p n hp hn nilS hl ht
  have hcl : n + 8 = cs.length := by rw [← hcs, mk_len, hn]
  rw [hcs, hcl] at cm
  refine Con.of (C := ⟨Try.prog, tc, Try.f46.ntmps⟩) [1000000000] tcok Try.func46 rfl rfl (by kernel_rfl) (by kernel_rfl) ?_
  refine xe0 [0, 1, 4] [1000000000] (by kernel_rfl) ?_
  refine AWP.seq ?_
  refine xe0 [0, 1, 4, 9] [1000000000] (by kernel_rfl) ?_
  refine AWP.condF (by kernel_rfl) ?_
  refine AWP.skip ?_
  refine xe1 (os := [VO (V.tup [V.sl (850005 : Nat) (0 : Nat) (List.length cs), i64 (0 : Int)]), VOH [((850005 : Nat), Blk.mk (u8s cs) true (0 : Nat) (some ((5 : Nat), (1 : Nat))))], Con Try.prog 73 [] [V.vp [B8 a, B8 b, B8 c, V.val (Value.slice none 0 0)], V.vs (u8s p) n] [(850005, Blk.mk (u8s cs) true 0 (some (5, 1)))] (V.tup [V.sl 850005 0 (List.length cs), i64 0])]) [(2, ⟨none, some ⟨V.tup [V.sl 850005 0 (List.length cs), i64 0], [(850005, Blk.mk (u8s cs) true 0 (some (5, 1)))], [(1000000000, true)]⟩⟩)] [0, 4, 5, 6] [1000000000, 990005] (by kernel_rfl) ⟨(VO.tup (VOL.cons (VO.sl _ _ _) (VOL.cons (VO.val _) VOL.nil))), ⟨(VOL.u8s _), trivial⟩, (cm ), trivial⟩ ?_
  refine AWP.seq ?_
  refine xe0 [0, 4, 5, 6, 17] [1000000000, 990005] (by kernel_rfl) ?_
  refine AWP.condF (by kernel_rfl) ?_
  refine AWP.skip ?_
  refine AWP.seq ?_
  refine xe0 [0, 4, 5, 19] [1000000000, 990005] (by kernel_rfl) ?_
  refine AWP.block ?_
  refine AWP.unroll 8 ?_
  refine xe0 [0, 4, 5, 19, 20] [990005, 1000000000] (by kernel_rfl) ?_
  refine AWP.seq ?_
  refine AWP.condT (by kernel_rfl) ?_
  refine AWP.skip ?_
  refine AWP.seq ?_
  refine AWP.block ?_
  refine xe0 [0, 4, 5, 7, 19, 20, 21] [990005, 1000000000] (by kernel_rfl) ?_
  refine AWP.region tcok hmix [(3, ⟨none, some ⟨V.sl 5 0 (List.length cs), [(5, Blk.mk (u8s cs) true 0 (some (5, 1)))], [(990005, true)]⟩⟩)] (os := [VO (V.sl (5 : Nat) (0 : Nat) (List.length cs)), VOH [((5 : Nat), Blk.mk (u8s cs) true (0 : Nat) (some ((5 : Nat), (1 : Nat))))], Con Try.prog 68 [] [B8 cs] [(5, Blk.mk (u8s cs) true 0 (some (5, 1)))] (V.sl 5 0 (List.length cs)), (0 : Nat) = (0 : Nat), List.length cs * (1 : Nat) = List.length (u8s cs)]) (sf := St.mk [(0, tp (V.ptr 1000000000 0)), (4, tp (i64 0)), (5, tp (V.sl 990005 0 (List.length cs))), (7, tp (i64 0)), (19, tp (i64 0)), (20, tp (vb true)), (21, tp (i64 0)), (22, tp (V.ptr 1000000000 0)), (23, tp (i64 0)), (24, tp (V.sl 990005 0 (List.length cs))), (25, tp (V.sl 260005 0 (List.length cs))), (26, tp (V.ptr 1000000000 0)), (27, tp (V.ptr 1000000000 0)), (28, tp (V.ptr 1000000000 0))] [(260005, Blk.mk (u8s cs) true 0 (some (5, 1))), (990005, Blk.mk (u8s cs) true 0 (some (5, 1))), (1000000000, Blk.mk [V.sl 260005 0 (List.length cs), B8 b, B8 c, V.val (Value.slice none 0 0)] false 4 none)]) (by kernel_rfl) ⟨(VO.sl _ _ _), ⟨(VOL.u8s _), trivial⟩, (con_clone (cs) (List.length cs) (by omega) (by omega)), (by omega), (by (simp [len_u8s]; done)), trivial⟩ ?_
  refine AWP.region tcok hmix [] (os := []) (sf := St.mk [(0, tp (V.ptr 1000000000 0)), (4, tp (i64 0)), (5, tp (V.sl 990005 0 (List.length cs))), (7, tp (i64 0)), (19, tp (i64 1)), (20, tp (vb true)), (21, tp (i64 0)), (22, tp (V.ptr 1000000000 0)), (23, tp (i64 0)), (24, tp (V.sl 990005 0 (List.length cs))), (25, tp (V.sl 260005 0 (List.length cs))), (26, tp (V.ptr 1000000000 0)), (27, tp (V.ptr 1000000000 0)), (28, tp (V.ptr 1000000000 0)), (29, tp (i64 1))] [(260005, Blk.mk (u8s cs) true 0 (some (5, 1))), (990005, Blk.mk (u8s cs) true 0 (some (5, 1))), (1000000000, Blk.mk [V.sl 260005 0 (List.length cs), B8 b, B8 c, V.val (Value.slice none 0 0)] false 4 none)]) (by kernel_rfl) trivial ?_
  refine xe0 [0, 4, 5, 7, 19, 20, 21, 22, 23, 24, 25, 26, 27, 28, 29] [260005, 990005, 1000000000] (by kernel_rfl) ?_
  refine AWP.seq ?_
  refine AWP.condT (by kernel_rfl) ?_
  refine AWP.skip ?_
  refine AWP.seq ?_
  refine AWP.block ?_
  refine xe0 [0, 4, 5, 7, 19, 20, 21, 22, 23, 24, 25, 26, 27, 28, 29] [260005, 990005, 1000000000] (by kernel_rfl) ?_
  refine AWP.keep' [0, 4, 5, 7, 19, 20, 21, 29] [1000000000, 990005, 260005] (sf := St.mk [(0, tp (V.ptr 1000000000 0)), (4, tp (i64 0)), (5, tp (V.sl 990005 0 (List.length cs))), (7, tp (i64 1)), (19, tp (i64 1)), (20, tp (vb true)), (21, tp (i64 1)), (29, tp (i64 1))] [(260005, Blk.mk (u8s cs) true 0 (some (5, 1))), (990005, Blk.mk (u8s cs) true 0 (some (5, 1))), (1000000000, Blk.mk [V.sl 260005 0 (List.length cs), B8 b, B8 c, V.val (Value.slice none 0 0)] false 4 none)]) (by kernel_rfl) ?_
  refine AWP.frz 260005 (s' := St.mk [(0, tp (V.ptr 1000000000 0)), (4, tp (i64 0)), (5, tp (V.sl 990005 0 (List.length cs))), (7, tp (i64 1)), (19, tp (i64 1)), (20, tp (vb true)), (21, tp (i64 1)), (29, tp (i64 1))] [(990005, Blk.mk (u8s cs) true 0 (some (5, 1))), (1000000000, Blk.mk [B8 cs, B8 b, B8 c, V.val (Value.slice none 0 0)] true 4 none)]) (by kernel_rfl) ?_
  refine AWP.region tcok hmix [(3, ⟨none, some ⟨V.sl 5 0 (List.length cs), [(5, Blk.mk (u8s cs) true 0 (some (5, 1)))], [(990005, true)]⟩⟩)] (os := [VO (V.sl (5 : Nat) (0 : Nat) (List.length cs)), VOH [((5 : Nat), Blk.mk (u8s cs) true (0 : Nat) (some ((5 : Nat), (1 : Nat))))], Con Try.prog 68 [] [B8 cs] [(5, Blk.mk (u8s cs) true 0 (some (5, 1)))] (V.sl 5 0 (List.length cs)), (0 : Nat) = (0 : Nat), List.length cs * (1 : Nat) = List.length (u8s cs)]) (sf := St.mk [(0, tp (V.ptr 1000000000 0)), (4, tp (i64 0)), (5, tp (V.sl 990005 0 (List.length cs))), (7, tp (i64 1)), (19, tp (i64 1)), (20, tp (vb true)), (21, tp (i64 1)), (22, tp (V.ptr 1000000000 0)), (23, tp (i64 1)), (24, tp (V.sl 990005 0 (List.length cs))), (25, tp (V.sl 260005 0 (List.length cs))), (26, tp (V.ptr 1000000000 0)), (27, tp (V.ptr 1000000000 0)), (28, tp (V.ptr 1000000000 1)), (29, tp (i64 1))] [(260005, Blk.mk (u8s cs) true 0 (some (5, 1))), (990005, Blk.mk (u8s cs) true 0 (some (5, 1))), (1000000000, Blk.mk [B8 cs, V.sl 260005 0 (List.length cs), B8 c, V.val (Value.slice none 0 0)] false 4 none)]) (by kernel_rfl) ⟨(VO.sl _ _ _), ⟨(VOL.u8s _), trivial⟩, (con_clone (cs) (List.length cs) (by omega) (by omega)), (by omega), (by (simp [len_u8s]; done)), trivial⟩ ?_
  refine AWP.region tcok hmix [] (os := []) (sf := St.mk [(0, tp (V.ptr 1000000000 0)), (4, tp (i64 0)), (5, tp (V.sl 990005 0 (List.length cs))), (7, tp (i64 1)), (19, tp (i64 2)), (20, tp (vb true)), (21, tp (i64 1)), (22, tp (V.ptr 1000000000 0)), (23, tp (i64 1)), (24, tp (V.sl 990005 0 (List.length cs))), (25, tp (V.sl 260005 0 (List.length cs))), (26, tp (V.ptr 1000000000 0)), (27, tp (V.ptr 1000000000 0)), (28, tp (V.ptr 1000000000 1)), (29, tp (i64 2))] [(260005, Blk.mk (u8s cs) true 0 (some (5, 1))), (990005, Blk.mk (u8s cs) true 0 (some (5, 1))), (1000000000, Blk.mk [B8 cs, V.sl 260005 0 (List.length cs), B8 c, V.val (Value.slice none 0 0)] false 4 none)]) (by kernel_rfl) trivial ?_
  refine xe0 [0, 4, 5, 7, 19, 20, 21, 22, 23, 24, 25, 26, 27, 28, 29] [260005, 990005, 1000000000] (by kernel_rfl) ?_
  refine AWP.seq ?_
  refine AWP.condT (by kernel_rfl) ?_
  refine AWP.skip ?_
  refine AWP.seq ?_
  refine AWP.block ?_
  refine xe0 [0, 4, 5, 7, 19, 20, 21, 22, 23, 24, 25, 26, 27, 28, 29] [260005, 990005, 1000000000] (by kernel_rfl) ?_
  refine AWP.keep' [0, 4, 5, 7, 19, 20, 21, 29] [1000000000, 990005, 260005] (sf := St.mk [(0, tp (V.ptr 1000000000 0)), (4, tp (i64 0)), (5, tp (V.sl 990005 0 (List.length cs))), (7, tp (i64 2)), (19, tp (i64 2)), (20, tp (vb true)), (21, tp (i64 2)), (29, tp (i64 2))] [(260005, Blk.mk (u8s cs) true 0 (some (5, 1))), (990005, Blk.mk (u8s cs) true 0 (some (5, 1))), (1000000000, Blk.mk [B8 cs, V.sl 260005 0 (List.length cs), B8 c, V.val (Value.slice none 0 0)] false 4 none)]) (by kernel_rfl) ?_
  refine AWP.frz 260005 (s' := St.mk [(0, tp (V.ptr 1000000000 0)), (4, tp (i64 0)), (5, tp (V.sl 990005 0 (List.length cs))), (7, tp (i64 2)), (19, tp (i64 2)), (20, tp (vb true)), (21, tp (i64 2)), (29, tp (i64 2))] [(990005, Blk.mk (u8s cs) true 0 (some (5, 1))), (1000000000, Blk.mk [B8 cs, B8 cs, B8 c, V.val (Value.slice none 0 0)] true 4 none)]) (by kernel_rfl) ?_
  refine AWP.region tcok hmix [(3, ⟨none, some ⟨V.sl 5 0 (List.length cs), [(5, Blk.mk (u8s cs) true 0 (some (5, 1)))], [(990005, true)]⟩⟩)] (os := [VO (V.sl (5 : Nat) (0 : Nat) (List.length cs)), VOH [((5 : Nat), Blk.mk (u8s cs) true (0 : Nat) (some ((5 : Nat), (1 : Nat))))], Con Try.prog 68 [] [B8 cs] [(5, Blk.mk (u8s cs) true 0 (some (5, 1)))] (V.sl 5 0 (List.length cs)), (0 : Nat) = (0 : Nat), List.length cs * (1 : Nat) = List.length (u8s cs)]) (sf := St.mk [(0, tp (V.ptr 1000000000 0)), (4, tp (i64 0)), (5, tp (V.sl 990005 0 (List.length cs))), (7, tp (i64 2)), (19, tp (i64 2)), (20, tp (vb true)), (21, tp (i64 2)), (22, tp (V.ptr 1000000000 0)), (23, tp (i64 2)), (24, tp (V.sl 990005 0 (List.length cs))), (25, tp (V.sl 260005 0 (List.length cs))), (26, tp (V.ptr 1000000000 0)), (27, tp (V.ptr 1000000000 0)), (28, tp (V.ptr 1000000000 2)), (29, tp (i64 2))] [(260005, Blk.mk (u8s cs) true 0 (some (5, 1))), (990005, Blk.mk (u8s cs) true 0 (some (5, 1))), (1000000000, Blk.mk [B8 cs, B8 cs, V.sl 260005 0 (List.length cs), V.val (Value.slice none 0 0)] false 4 none)]) (by kernel_rfl) ⟨(VO.sl _ _ _), ⟨(VOL.u8s _), trivial⟩, (con_clone (cs) (List.length cs) (by omega) (by omega)), (by omega), (by (simp [len_u8s]; done)), trivial⟩ ?_
  refine AWP.region tcok hmix [] (os := []) (sf := St.mk [(0, tp (V.ptr 1000000000 0)), (4, tp (i64 0)), (5, tp (V.sl 990005 0 (List.length cs))), (7, tp (i64 2)), (19, tp (i64 3)), (20, tp (vb true)), (21, tp (i64 2)), (22, tp (V.ptr 1000000000 0)), (23, tp (i64 2)), (24, tp (V.sl 990005 0 (List.length cs))), (25, tp (V.sl 260005 0 (List.length cs))), (26, tp (V.ptr 1000000000 0)), (27, tp (V.ptr 1000000000 0)), (28, tp (V.ptr 1000000000 2)), (29, tp (i64 3))] [(260005, Blk.mk (u8s cs) true 0 (some (5, 1))), (990005, Blk.mk (u8s cs) true 0 (some (5, 1))), (1000000000, Blk.mk [B8 cs, B8 cs, V.sl 260005 0 (List.length cs), V.val (Value.slice none 0 0)] false 4 none)]) (by kernel_rfl) trivial ?_
  refine xe0 [0, 4, 5, 7, 19, 20, 21, 22, 23, 24, 25, 26, 27, 28, 29] [260005, 990005, 1000000000] (by kernel_rfl) ?_
  refine AWP.seq ?_
  refine AWP.condF (by kernel_rfl) ?_
  refine AWP.exit ?_
  refine xe0 [4] [1000000000, 260005] (by kernel_rfl) ?_
  refine xe0 [4] [260005, 1000000000] (by kernel_rfl) ?_
  refine AWP.frz 260005 (s' := St.mk [(4, tp (i64 0))] [(1000000000, Blk.mk [B8 cs, B8 cs, B8 cs, V.val (Value.slice none 0 0)] true 4 none)]) (by kernel_rfl) ?_
  refine AWP.ret ?_
  refine ⟨Or.inr rfl, Eq.trans (b := some ([(1000000000, Blk.mk [B8 cs, B8 cs, B8 cs, V.val (Value.slice none 0 0)] true 4 none)], i64 0)) (by kernel_rfl) ?_⟩
  rfl
end Go.Proofs.Ytmeiemdnhjnpcaa
