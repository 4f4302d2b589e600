/- Cells: read, in one contract; the document's. -/
import Derived.Test.YtmeiemdnhjnpcaaRg
import Derived.Test.YtmeiemdnhjnpcaaCelB
namespace Go.Proofs.Ytmeiemdnhjnpcaa
open Go.Ab
set_option linter.unusedSimpArgs false
set_option linter.unusedVariables false
def cOk (l : List Int) : Bool := cF l && (iright l && decide (l.length ≤ 208))
def cE (l : List Int) : Int := if cF l = true then (if iright l = true then (if l.length ≤ 208 then 0 else 4) else 5) else 2
def cNo (l : List Int) : Int := if cOk l = true then cN l else 0
def cPo (l : List Int) : List Int := if cOk l = true then cP l else []
theorem cP_len {l : List Int} (h : 8 ≤ l.length) : (cP l).length = l.length - 8 := by
  unfold cP
  rw [List.length_drop, List.length_take]
  omega
theorem con_cparse (l : List Int) (n : Nat) (hn : l.length = n) (hl : BL l) (hlen : n ≤ 100000000) : Con Try.prog 33 [] [.vs (u8s l) n] [(680005, ⟨u8s (cPo l), true, 0, some (5, 1)⟩)] (.tup [u32 (cNo l), .sl 680005 0 (cPo l).length, i64 (cE l)]) := by
  subst hn
  cases hF : cF l with
  | false =>
    simp only [cPo, cNo, cE, cOk, hF, Bool.false_and, Bool.false_eq_true, if_false]
    exact (con_cparse_f l hl hlen hF).shift 680002 rfl rfl
  | true =>
    have h8 := cF_len hF
    cases hR : iright l with
    | false =>
      simp only [cPo, cNo, cE, cOk, hF, hR, Bool.false_and, Bool.true_and, Bool.false_eq_true, if_false, if_true]
      exact (con_cparse_c l hl hlen hF hR).shift 680002 rfl rfl
    | true =>
      by_cases hg : l.length ≤ 208
      · simp only [cPo, cNo, cE, cOk, hF, hR, decide_eq_true hg, Bool.true_and, if_true, if_pos hg]
        rw [cP_len h8]
        by_cases h9 : 8 < l.length
        · exact con_cparse_9 l hl hg h9 hF hR
        · have e8 : l.length = 8 := by omega
          have hp : cP l = [] := List.eq_nil_of_length_eq_zero (by rw [cP_len h8, e8])
          rw [hp, show l.length - 8 = 0 by omega]
          exact con_cparse_8 l hl e8 hF hR
      · simp only [cPo, cNo, cE, cOk, hF, hR, decide_eq_false hg, Bool.true_and, Bool.false_eq_true, if_false, if_true, if_neg hg]
        exact (con_cparse_l l hl hlen hF hR (by omega)).shift 680002 rfl rfl
theorem con_val4d (l : List Int) (n : Nat) (hn : n = 4) (hl : l.length = n) (hb : BL l) : Con Try.prog 64 [] [.vs (u8s l) n] [] (u64 (l.getD 0 0 * 16777216 + l.getD 1 0 * 65536 + l.getD 2 0 * 256 + l.getD 3 0)) := by
  subst hn
  match l, hl with
  | [a, b, c, d], _ =>
    simp only [BL, List.forall_mem_cons, List.not_mem_nil, false_implies, implies_true, and_true] at hb
    refine Con.of (C := ⟨Try.prog, tc, Try.f64.ntmps⟩) [] tcok Try.func64 rfl rfl (by kernel_rfl) (by kernel_rfl) ?_
    refine xe0 [0, 2] [] (by kernel_rfl) ?_
    refine xe0 [0, 2, 3] [] (by kernel_rfl) ?_
    refine AWP.seq ?_
    refine xe0 [2, 3, 6, 7, 8] [] (by kernel_rfl) ?_
    refine AWP.block ?_
    refine AWP.unroll 8 ?_
    refine xe0 [2, 3, 6, 7, 8, 9] [] (by kernel_rfl) ?_
    refine AWP.seq ?_
    refine AWP.condT (by kernel_rfl) ?_
    refine AWP.skip ?_
    refine AWP.seq ?_
    refine AWP.block ?_
    refine xe0 [2, 3, 5, 6, 7, 8, 9, 10, 11] [] (by kernel_rfl) ?_
    refine AWP.region tcok hmix [(3, ⟨some (u64 a), none⟩), (4, ⟨some (u64 (0 + a)), none⟩)] (os := [u64 (IntKind.wrap IntKind.u64 a) = u64 a, u64 (IntKind.wrap IntKind.u64 (0 + a)) = u64 (0 + a)]) (sf := St.mk [(2, tp (u64 0)), (3, tp (u64 (0 + a))), (5, tp (u8 a)), (6, tp (V.vs [u8 a, u8 b, u8 c, u8 d] 4)), (7, tp (i64 4)), (8, tp (i64 0)), (9, tp (vb true)), (10, tp (V.vp [u8 a, u8 b, u8 c, u8 d])), (11, tp (u8 a)), (12, tp (u64 0)), (13, tp (u64 0)), (14, tp (u8 a)), (15, tp (u64 a)), (16, tp (u64 (0 + a)))] []) (by kernel_rfl) ⟨(wr_u64 (by omega) (by omega)), (wr_u64 (by omega) (by omega)), trivial⟩ ?_
    refine AWP.region tcok hmix [] (os := []) (sf := St.mk [(2, tp (u64 0)), (3, tp (u64 (0 + a))), (5, tp (u8 a)), (6, tp (V.vs [u8 a, u8 b, u8 c, u8 d] 4)), (7, tp (i64 4)), (8, tp (i64 1)), (9, tp (vb true)), (10, tp (V.vp [u8 a, u8 b, u8 c, u8 d])), (11, tp (u8 a)), (12, tp (u64 0)), (13, tp (u64 0)), (14, tp (u8 a)), (15, tp (u64 a)), (16, tp (u64 (0 + a))), (17, tp (i64 1))] []) (by kernel_rfl) trivial ?_
    refine xe0 [2, 3, 5, 6, 7, 8, 9, 10, 11, 12, 13, 14, 15, 16, 17] [] (by kernel_rfl) ?_
    refine AWP.seq ?_
    refine AWP.condT (by kernel_rfl) ?_
    refine AWP.skip ?_
    refine AWP.seq ?_
    refine AWP.block ?_
    refine xe0 [2, 3, 5, 6, 7, 8, 9, 10, 11, 12, 13, 14, 15, 16, 17] [] (by kernel_rfl) ?_
    refine AWP.region tcok hmix [(1, ⟨some (u64 (256 * (0 + a))), none⟩), (3, ⟨some (u64 b), none⟩), (4, ⟨some (u64 (256 * (0 + a) + b)), none⟩)] (os := [u64 (IntKind.wrap IntKind.u64 (256 * (0 + a))) = u64 (256 * (0 + a)), u64 (IntKind.wrap IntKind.u64 b) = u64 b, u64 (IntKind.wrap IntKind.u64 (256 * (0 + a) + b)) = u64 (256 * (0 + a) + b)]) (sf := St.mk [(2, tp (u64 0)), (3, tp (u64 (256 * (0 + a) + b))), (5, tp (u8 b)), (6, tp (V.vs [u8 a, u8 b, u8 c, u8 d] 4)), (7, tp (i64 4)), (8, tp (i64 1)), (9, tp (vb true)), (10, tp (V.vp [u8 b, u8 c, u8 d])), (11, tp (u8 b)), (12, tp (u64 (0 + a))), (13, tp (u64 (256 * (0 + a)))), (14, tp (u8 b)), (15, tp (u64 b)), (16, tp (u64 (256 * (0 + a) + b))), (17, tp (i64 1))] []) (by kernel_rfl) ⟨(wr_u64 (by omega) (by omega)), (wr_u64 (by omega) (by omega)), (wr_u64 (by omega) (by omega)), trivial⟩ ?_
    refine AWP.region tcok hmix [] (os := []) (sf := St.mk [(2, tp (u64 0)), (3, tp (u64 (256 * (0 + a) + b))), (5, tp (u8 b)), (6, tp (V.vs [u8 a, u8 b, u8 c, u8 d] 4)), (7, tp (i64 4)), (8, tp (i64 2)), (9, tp (vb true)), (10, tp (V.vp [u8 b, u8 c, u8 d])), (11, tp (u8 b)), (12, tp (u64 (0 + a))), (13, tp (u64 (256 * (0 + a)))), (14, tp (u8 b)), (15, tp (u64 b)), (16, tp (u64 (256 * (0 + a) + b))), (17, tp (i64 2))] []) (by kernel_rfl) trivial ?_
    refine xe0 [2, 3, 5, 6, 7, 8, 9, 10, 11, 12, 13, 14, 15, 16, 17] [] (by kernel_rfl) ?_
    refine AWP.seq ?_
    refine AWP.condT (by kernel_rfl) ?_
    refine AWP.skip ?_
    refine AWP.seq ?_
    refine AWP.block ?_
    refine xe0 [2, 3, 5, 6, 7, 8, 9, 10, 11, 12, 13, 14, 15, 16, 17] [] (by kernel_rfl) ?_
    refine AWP.region tcok hmix [(1, ⟨some (u64 (256 * (256 * (0 + a) + b))), none⟩), (3, ⟨some (u64 c), none⟩), (4, ⟨some (u64 (256 * (256 * (0 + a) + b) + c)), none⟩)] (os := [u64 (IntKind.wrap IntKind.u64 (256 * (256 * (0 + a) + b))) = u64 (256 * (256 * (0 + a) + b)), u64 (IntKind.wrap IntKind.u64 c) = u64 c, u64 (IntKind.wrap IntKind.u64 (256 * (256 * (0 + a) + b) + c)) = u64 (256 * (256 * (0 + a) + b) + c)]) (sf := St.mk [(2, tp (u64 0)), (3, tp (u64 (256 * (256 * (0 + a) + b) + c))), (5, tp (u8 c)), (6, tp (V.vs [u8 a, u8 b, u8 c, u8 d] 4)), (7, tp (i64 4)), (8, tp (i64 2)), (9, tp (vb true)), (10, tp (V.vp [u8 c, u8 d])), (11, tp (u8 c)), (12, tp (u64 (256 * (0 + a) + b))), (13, tp (u64 (256 * (256 * (0 + a) + b)))), (14, tp (u8 c)), (15, tp (u64 c)), (16, tp (u64 (256 * (256 * (0 + a) + b) + c))), (17, tp (i64 2))] []) (by kernel_rfl) ⟨(wr_u64 (by omega) (by omega)), (wr_u64 (by omega) (by omega)), (wr_u64 (by omega) (by omega)), trivial⟩ ?_
    refine AWP.region tcok hmix [] (os := []) (sf := St.mk [(2, tp (u64 0)), (3, tp (u64 (256 * (256 * (0 + a) + b) + c))), (5, tp (u8 c)), (6, tp (V.vs [u8 a, u8 b, u8 c, u8 d] 4)), (7, tp (i64 4)), (8, tp (i64 3)), (9, tp (vb true)), (10, tp (V.vp [u8 c, u8 d])), (11, tp (u8 c)), (12, tp (u64 (256 * (0 + a) + b))), (13, tp (u64 (256 * (256 * (0 + a) + b)))), (14, tp (u8 c)), (15, tp (u64 c)), (16, tp (u64 (256 * (256 * (0 + a) + b) + c))), (17, tp (i64 3))] []) (by kernel_rfl) trivial ?_
    refine xe0 [2, 3, 5, 6, 7, 8, 9, 10, 11, 12, 13, 14, 15, 16, 17] [] (by kernel_rfl) ?_
    refine AWP.seq ?_
    refine AWP.condT (by kernel_rfl) ?_
    refine AWP.skip ?_
    refine AWP.seq ?_
    refine AWP.block ?_
    refine xe0 [2, 3, 5, 6, 7, 8, 9, 10, 11, 12, 13, 14, 15, 16, 17] [] (by kernel_rfl) ?_
    refine AWP.region tcok hmix [(1, ⟨some (u64 (256 * (256 * (256 * (0 + a) + b) + c))), none⟩), (3, ⟨some (u64 d), none⟩), (4, ⟨some (u64 (256 * (256 * (256 * (0 + a) + b) + c) + d)), none⟩)] (os := [u64 (IntKind.wrap IntKind.u64 (256 * (256 * (256 * (0 + a) + b) + c))) = u64 (256 * (256 * (256 * (0 + a) + b) + c)), u64 (IntKind.wrap IntKind.u64 d) = u64 d, u64 (IntKind.wrap IntKind.u64 (256 * (256 * (256 * (0 + a) + b) + c) + d)) = u64 (256 * (256 * (256 * (0 + a) + b) + c) + d)]) (sf := St.mk [(2, tp (u64 0)), (3, tp (u64 (256 * (256 * (256 * (0 + a) + b) + c) + d))), (5, tp (u8 d)), (6, tp (V.vs [u8 a, u8 b, u8 c, u8 d] 4)), (7, tp (i64 4)), (8, tp (i64 3)), (9, tp (vb true)), (10, tp (V.vp [u8 d])), (11, tp (u8 d)), (12, tp (u64 (256 * (256 * (0 + a) + b) + c))), (13, tp (u64 (256 * (256 * (256 * (0 + a) + b) + c)))), (14, tp (u8 d)), (15, tp (u64 d)), (16, tp (u64 (256 * (256 * (256 * (0 + a) + b) + c) + d))), (17, tp (i64 3))] []) (by kernel_rfl) ⟨(wr_u64 (by omega) (by omega)), (wr_u64 (by omega) (by omega)), (wr_u64 (by omega) (by omega)), trivial⟩ ?_
    refine AWP.region tcok hmix [] (os := []) (sf := St.mk [(2, tp (u64 0)), (3, tp (u64 (256 * (256 * (256 * (0 + a) + b) + c) + d))), (5, tp (u8 d)), (6, tp (V.vs [u8 a, u8 b, u8 c, u8 d] 4)), (7, tp (i64 4)), (8, tp (i64 4)), (9, tp (vb true)), (10, tp (V.vp [u8 d])), (11, tp (u8 d)), (12, tp (u64 (256 * (256 * (0 + a) + b) + c))), (13, tp (u64 (256 * (256 * (256 * (0 + a) + b) + c)))), (14, tp (u8 d)), (15, tp (u64 d)), (16, tp (u64 (256 * (256 * (256 * (0 + a) + b) + c) + d))), (17, tp (i64 4))] []) (by kernel_rfl) trivial ?_
    refine xe0 [2, 3, 5, 6, 7, 8, 9, 10, 11, 12, 13, 14, 15, 16, 17] [] (by kernel_rfl) ?_
    refine AWP.seq ?_
    refine AWP.condF (by kernel_rfl) ?_
    refine AWP.exit ?_
    refine xe0 [2] [] (by kernel_rfl) ?_
    refine AWP.ret ?_
    refine ⟨Or.inr rfl, Eq.trans (b := some ([], u64 (256 * (256 * (256 * (0 + a) + b) + c) + d))) (by kernel_rfl) ?_⟩
    first | rfl | (show some ([], u64 _) = some ([], u64 (a * 16777216 + b * 65536 + c * 256 + d)); congr 4; omega) | (show some ([], u64 _) = some ([], u64 (a * 16777216 + b * 65536 + c * 256 + d)); congr 3; congr 1; congr 1; omega)
theorem con_cutn (l : List Int) (n : Nat) (hn : l.length = n) (m : Int) (hm : 0 ≤ m) (hm2 : m ≤ 1000000) (hl : n ≤ 9223372036854775807) : Con Try.prog 18 [] [.vs (u8s l) n, i64 m] [(5, ⟨u8s (l.take m.toNat), true, 0, some (5, 1)⟩)] (.sl 5 0 (l.take m.toNat).length) := by
  subst hn
  exact con_cut l m hm hm2 hl
theorem con_rparse_f (l : List Int) (hl : BL l) (hlen : l.length ≤ 1000000) (h : cF l = false) : Con Try.prog 34 [] [.vs (u8s l) l.length] [(3, ⟨[], true, 0, some (5, 1)⟩)] (.tup [u32 0, .sl 3 0 0, i64 2]) := by
  have e := cF_no h
  have g1 : ((l.drop 4).take 2).getD 0 0 = (l.drop 4).getD 0 0 := take_getD (by omega)
  have g2 : ((l.drop 4).take 2).getD 1 0 = (l.drop 5).getD 0 0 := by rw [take_getD (by omega), drop_getD, drop_getD]
  have q4 := (BL.take (BL.drop hl 4) 2).at_ 0
  have q5 := (BL.take (BL.drop hl 4) 2).at_ 1
  have q0 := (BL.take hl 4).at_ 0
  have q1 := (BL.take hl 4).at_ 1
  have q2 := (BL.take hl 4).at_ 2
  have q3 := (BL.take hl 4).at_ 3
  refine Con.of (C := ⟨Try.prog, tc, Try.f34.ntmps⟩) [3] tcok Try.func34 rfl rfl (by kernel_rfl) (by kernel_rfl) ?_
  refine xe0 [0, 2, 3, 4] [3] (by kernel_rfl) ?_
  refine AWP.seq ?_
  refine xe1 (os := [decide ((↑(List.length l) : Int) < (8 : Int)) = false → ((0 : Int) ≤ (4 : Int) ∧ (4 : Int) ≤ (6 : Int) ∧ (6 : Int) ≤ (↑(List.length l) : Int)) ∧ V.vs (subV (u8s l) (some (i64 (4 : Int))) (some (i64 (6 : Int))) (Int.toNat (4 : Int) * (1 : Nat)) (Int.toNat (6 : Int) * (1 : Nat)) ((Int.toNat (6 : Int) - Int.toNat (4 : Int)) * (1 : Nat))) (2 : Nat) = V.vs (u8s (List.take (2 : Nat) (List.drop (4 : Nat) l))) (2 : Nat) ∧ True, decide ((↑(List.length l) : Int) < (8 : Int)) = false → Con Try.prog (64 : Nat) [] [V.vs (u8s (List.take (2 : Nat) (List.drop (4 : Nat) l))) (2 : Nat)] [] (u64 (List.getD (List.take (2 : Nat) (List.drop (4 : Nat) l)) (0 : Nat) (0 : Int) * (256 : Int) + List.getD (List.take (2 : Nat) (List.drop (4 : Nat) l)) (1 : Nat) (0 : Int))) ∧ True, decide ((↑(List.length l) : Int) < (8 : Int)) = false → i64 (IntKind.wrap IntKind.i64 ((↑(List.length l) : Int) - (8 : Int))) = i64 ((↑(List.length l) : Int) - (8 : Int)) ∧ True, decide ((↑(List.length l) : Int) < (8 : Int)) = false → u64 (IntKind.wrap IntKind.u64 ((↑(List.length l) : Int) - (8 : Int))) = u64 (((↑(List.length l) : Int) - (8 : Int)) % (18446744073709551616 : Int)) ∧ True]) [(5, ⟨some (V.vs (u8s (List.take 2 (List.drop 4 l))) 2), none⟩), (6, ⟨none, some ⟨u64 (List.getD (List.take 2 (List.drop 4 l)) 0 0 * 256 + List.getD (List.take 2 (List.drop 4 l)) 1 0), [], []⟩⟩), (9, ⟨some (i64 ((↑(List.length l) : Int) - 8)), none⟩), (10, ⟨some (u64 (((↑(List.length l) : Int) - 8) % 18446744073709551616)), none⟩)] [0, 2, 3, 4, 17] [3] (by kernel_rfl) ⟨(by intro hc0; first | (cases hc0; done) | (try simp only [Bool.or_false, Bool.false_or, Bool.true_and, Bool.and_true, decide_eq_true_eq, decide_eq_false_iff_not, Bool.and_eq_true, Bool.or_eq_true, Bool.or_eq_false_iff, Bool.not_eq_true', Bool.and_eq_false_iff, beq_iff_eq, bne_iff_ne, bne_eq_false_iff_eq, beq_eq_false_iff_ne, Bool.not_eq_false'] at hc0; exact ⟨(by first | omega | exact BL.take (BL.drop hl _) _ | exact BL.take hl _ | exact BL.drop hl _ | (simp [len_u8s]; omega) | (simp [len_u8s]; done)), (by first | rfl | (simp only [subV, u8s_drop, u8s_take, List.drop_zero, Nat.mul_one, Nat.one_mul, Nat.sub_zero, Nat.zero_add, Int.toNat_zero, Int.toNat_natCast]; first | done | rfl | (rw [List.take_of_length_le (by first | omega | (simp; done) | (simp; omega))]; first | done | rfl)) | (simp [subV, u8s_drop, u8s_take]; done)), trivial⟩)), (by intro hc0; first | (cases hc0; done) | (try simp only [Bool.or_false, Bool.false_or, Bool.true_and, Bool.and_true, decide_eq_true_eq, decide_eq_false_iff_not, Bool.and_eq_true, Bool.or_eq_true, Bool.or_eq_false_iff, Bool.not_eq_true', Bool.and_eq_false_iff, beq_iff_eq, bne_iff_ne, bne_eq_false_iff_eq, beq_eq_false_iff_ne, Bool.not_eq_false'] at hc0; exact ⟨(con_val2d (List.take 2 (List.drop 4 l)) (2) (by omega) (by (first | assumption | omega | exact BL.take (BL.drop hl _) _ | exact BL.take hl _ | exact BL.drop hl _ | (simp [len_u8s]; done) | (simp [len_u8s]; omega))) (by exact BL.take (BL.drop hl _) _)), trivial⟩)), (by intro hc0; first | (cases hc0; done) | (try simp only [Bool.or_false, Bool.false_or, Bool.true_and, Bool.and_true, decide_eq_true_eq, decide_eq_false_iff_not, Bool.and_eq_true, Bool.or_eq_true, Bool.or_eq_false_iff, Bool.not_eq_true', Bool.and_eq_false_iff, beq_iff_eq, bne_iff_ne, bne_eq_false_iff_eq, beq_eq_false_iff_ne, Bool.not_eq_false'] at hc0; exact ⟨(wr_i64 (by omega) (by omega)), trivial⟩)), (fun _ => ⟨wm_u64, trivial⟩), trivial⟩ ?_
  refine AWP.cond (b := decide ((↑(List.length l) : Int) < 8) || List.getD (List.take 2 (List.drop 4 l)) 0 0 * 256 + List.getD (List.take 2 (List.drop 4 l)) 1 0 != ((↑(List.length l) : Int) - 8) % 18446744073709551616) (by kernel_rfl) (fun hq5 => ?_) (fun hq5 => ?_)
  · simp only [decide_eq_true_eq, Bool.or_eq_true, bne_iff_ne] at hq5
    refine AWP.seq ?_
    refine AWP.keep' [0] [] (sf := St.mk [(0, tp (B8 l))] []) (by kernel_rfl) ?_
    refine xg0 [0, 2, 3, 4] [3] (by kernel_rfl) ?_
    refine AWP.ret ?_
    refine ⟨Or.inr rfl, Eq.trans (b := some ([(3, Blk.mk [] true 0 (some (5, 1)))], V.tup [u32 0, V.sl 3 0 0, i64 2])) (by kernel_rfl) ?_⟩
    rfl
  simp only [decide_eq_false_iff_not, Bool.or_eq_false_iff, bne_eq_false_iff_eq] at hq5
  (exfalso; omega)
theorem con_rparse_c (l : List Int) (hl : BL l) (hlen : l.length ≤ 1000000) (h : cF l = true) (hr : iright l = false) : Con Try.prog 34 [] [.vs (u8s l) l.length] [(3, ⟨[], true, 0, some (5, 1)⟩)] (.tup [u32 0, .sl 3 0 0, i64 5]) := by
  have e := cF_yes h
  have h8 := cF_len h
  have g1 : ((l.drop 4).take 2).getD 0 0 = (l.drop 4).getD 0 0 := take_getD (by omega)
  have g2 : ((l.drop 4).take 2).getD 1 0 = (l.drop 5).getD 0 0 := by rw [take_getD (by omega), drop_getD, drop_getD]
  have q4 := (BL.take (BL.drop hl 4) 2).at_ 0
  have q5 := (BL.take (BL.drop hl 4) 2).at_ 1
  have q0 := (BL.take hl 4).at_ 0
  have q1 := (BL.take hl 4).at_ 1
  have q2 := (BL.take hl 4).at_ 2
  have q3 := (BL.take hl 4).at_ 3
  refine Con.of (C := ⟨Try.prog, tc, Try.f34.ntmps⟩) [3] tcok Try.func34 rfl rfl (by kernel_rfl) (by kernel_rfl) ?_
  refine xe0 [0, 2, 3, 4] [3] (by kernel_rfl) ?_
  refine AWP.seq ?_
  refine xe1 (os := [decide ((↑(List.length l) : Int) < (8 : Int)) = false → ((0 : Int) ≤ (4 : Int) ∧ (4 : Int) ≤ (6 : Int) ∧ (6 : Int) ≤ (↑(List.length l) : Int)) ∧ V.vs (subV (u8s l) (some (i64 (4 : Int))) (some (i64 (6 : Int))) (Int.toNat (4 : Int) * (1 : Nat)) (Int.toNat (6 : Int) * (1 : Nat)) ((Int.toNat (6 : Int) - Int.toNat (4 : Int)) * (1 : Nat))) (2 : Nat) = V.vs (u8s (List.take (2 : Nat) (List.drop (4 : Nat) l))) (2 : Nat) ∧ True, decide ((↑(List.length l) : Int) < (8 : Int)) = false → Con Try.prog (64 : Nat) [] [V.vs (u8s (List.take (2 : Nat) (List.drop (4 : Nat) l))) (2 : Nat)] [] (u64 (List.getD (List.take (2 : Nat) (List.drop (4 : Nat) l)) (0 : Nat) (0 : Int) * (256 : Int) + List.getD (List.take (2 : Nat) (List.drop (4 : Nat) l)) (1 : Nat) (0 : Int))) ∧ True, decide ((↑(List.length l) : Int) < (8 : Int)) = false → i64 (IntKind.wrap IntKind.i64 ((↑(List.length l) : Int) - (8 : Int))) = i64 ((↑(List.length l) : Int) - (8 : Int)) ∧ True, decide ((↑(List.length l) : Int) < (8 : Int)) = false → u64 (IntKind.wrap IntKind.u64 ((↑(List.length l) : Int) - (8 : Int))) = u64 ((↑(List.length l) : Int) - (8 : Int)) ∧ True]) [(5, ⟨some (V.vs (u8s (List.take 2 (List.drop 4 l))) 2), none⟩), (6, ⟨none, some ⟨u64 (List.getD (List.take 2 (List.drop 4 l)) 0 0 * 256 + List.getD (List.take 2 (List.drop 4 l)) 1 0), [], []⟩⟩), (9, ⟨some (i64 ((↑(List.length l) : Int) - 8)), none⟩), (10, ⟨some (u64 ((↑(List.length l) : Int) - 8)), none⟩)] [0, 2, 3, 4, 17] [3] (by kernel_rfl) ⟨(by intro hc0; first | (cases hc0; done) | (try simp only [Bool.or_false, Bool.false_or, Bool.true_and, Bool.and_true, decide_eq_true_eq, decide_eq_false_iff_not, Bool.and_eq_true, Bool.or_eq_true, Bool.or_eq_false_iff, Bool.not_eq_true', Bool.and_eq_false_iff, beq_iff_eq, bne_iff_ne, bne_eq_false_iff_eq, beq_eq_false_iff_ne, Bool.not_eq_false'] at hc0; exact ⟨(by omega), (by first | rfl | (simp only [subV, u8s_drop, u8s_take, List.drop_zero, Nat.mul_one, Nat.one_mul, Nat.sub_zero, Nat.zero_add, Int.toNat_zero, Int.toNat_natCast]; first | done | rfl | (rw [List.take_of_length_le (by first | omega | (simp; done) | (simp; omega))]; first | done | rfl)) | (simp [subV, u8s_drop, u8s_take]; done)), trivial⟩)), (by intro hc0; first | (cases hc0; done) | (try simp only [Bool.or_false, Bool.false_or, Bool.true_and, Bool.and_true, decide_eq_true_eq, decide_eq_false_iff_not, Bool.and_eq_true, Bool.or_eq_true, Bool.or_eq_false_iff, Bool.not_eq_true', Bool.and_eq_false_iff, beq_iff_eq, bne_iff_ne, bne_eq_false_iff_eq, beq_eq_false_iff_ne, Bool.not_eq_false'] at hc0; exact ⟨(con_val2d (List.take 2 (List.drop 4 l)) (2) (by omega) (by (simp [len_u8s]; omega)) (by exact BL.take (BL.drop hl _) _)), trivial⟩)), (by intro hc0; first | (cases hc0; done) | (try simp only [Bool.or_false, Bool.false_or, Bool.true_and, Bool.and_true, decide_eq_true_eq, decide_eq_false_iff_not, Bool.and_eq_true, Bool.or_eq_true, Bool.or_eq_false_iff, Bool.not_eq_true', Bool.and_eq_false_iff, beq_iff_eq, bne_iff_ne, bne_eq_false_iff_eq, beq_eq_false_iff_ne, Bool.not_eq_false'] at hc0; exact ⟨(wr_i64 (by omega) (by omega)), trivial⟩)), (by intro hc0; first | (cases hc0; done) | (try simp only [Bool.or_false, Bool.false_or, Bool.true_and, Bool.and_true, decide_eq_true_eq, decide_eq_false_iff_not, Bool.and_eq_true, Bool.or_eq_true, Bool.or_eq_false_iff, Bool.not_eq_true', Bool.and_eq_false_iff, beq_iff_eq, bne_iff_ne, bne_eq_false_iff_eq, beq_eq_false_iff_ne, Bool.not_eq_false'] at hc0; exact ⟨(wr_u64 (by omega) (by omega)), trivial⟩)), trivial⟩ ?_
  refine AWP.cond (b := decide ((↑(List.length l) : Int) < 8) || List.getD (List.take 2 (List.drop 4 l)) 0 0 * 256 + List.getD (List.take 2 (List.drop 4 l)) 1 0 != (↑(List.length l) : Int) - 8) (by kernel_rfl) (fun hq6 => ?_) (fun hq6 => ?_)
  · simp only [decide_eq_true_eq, Bool.or_eq_true, bne_iff_ne] at hq6
    (exfalso; omega)
  simp only [decide_eq_false_iff_not, Bool.or_eq_false_iff, bne_eq_false_iff_eq] at hq6
  refine AWP.skip ?_
  refine AWP.seq ?_
  refine xe1 [(1, ⟨none, some ⟨vb (iright l), [], []⟩⟩)] [0, 2, 3, 4, 20] [3] (by kernel_rfl) (AllP.c (con_rright (l) (by assumption) (by omega)) AllP.n) ?_
  refine AWP.cond (b := !iright l) (by kernel_rfl) (fun hq7 => ?_) (fun hq7 => ?_)
  · simp only [Bool.not_eq_true'] at hq7
    refine AWP.seq ?_
    refine AWP.keep' [0] [] (sf := St.mk [(0, tp (B8 l))] []) (by kernel_rfl) ?_
    refine xg0 [0, 2, 3, 4] [3] (by kernel_rfl) ?_
    refine AWP.ret ?_
    refine ⟨Or.inr rfl, Eq.trans (b := some ([(3, Blk.mk [] true 0 (some (5, 1)))], V.tup [u32 0, V.sl 3 0 0, i64 5])) (by kernel_rfl) ?_⟩
    rfl
  simp only [Bool.not_eq_false'] at hq7
  (simp [hr] at hq7; done)
theorem con_rparse_l (l : List Int) (hl : BL l) (hlen : l.length ≤ 1000000) (h : cF l = true) (hr : iright l = true) (hg : 208 < l.length) : Con Try.prog 34 [] [.vs (u8s l) l.length] [(3, ⟨[], true, 0, some (5, 1)⟩)] (.tup [u32 0, .sl 3 0 0, i64 4]) := by
  have e := cF_yes h
  have h8 := cF_len h
  have g1 : ((l.drop 4).take 2).getD 0 0 = (l.drop 4).getD 0 0 := take_getD (by omega)
  have g2 : ((l.drop 4).take 2).getD 1 0 = (l.drop 5).getD 0 0 := by rw [take_getD (by omega), drop_getD, drop_getD]
  have q4 := (BL.take (BL.drop hl 4) 2).at_ 0
  have q5 := (BL.take (BL.drop hl 4) 2).at_ 1
  have q0 := (BL.take hl 4).at_ 0
  have q1 := (BL.take hl 4).at_ 1
  have q2 := (BL.take hl 4).at_ 2
  have q3 := (BL.take hl 4).at_ 3
  refine Con.of (C := ⟨Try.prog, tc, Try.f34.ntmps⟩) [3] tcok Try.func34 rfl rfl (by kernel_rfl) (by kernel_rfl) ?_
  refine xe0 [0, 2, 3, 4] [3] (by kernel_rfl) ?_
  refine AWP.seq ?_
  refine xe1 (os := [decide ((↑(List.length l) : Int) < (8 : Int)) = false → ((0 : Int) ≤ (4 : Int) ∧ (4 : Int) ≤ (6 : Int) ∧ (6 : Int) ≤ (↑(List.length l) : Int)) ∧ V.vs (subV (u8s l) (some (i64 (4 : Int))) (some (i64 (6 : Int))) (Int.toNat (4 : Int) * (1 : Nat)) (Int.toNat (6 : Int) * (1 : Nat)) ((Int.toNat (6 : Int) - Int.toNat (4 : Int)) * (1 : Nat))) (2 : Nat) = V.vs (u8s (List.take (2 : Nat) (List.drop (4 : Nat) l))) (2 : Nat) ∧ True, decide ((↑(List.length l) : Int) < (8 : Int)) = false → Con Try.prog (64 : Nat) [] [V.vs (u8s (List.take (2 : Nat) (List.drop (4 : Nat) l))) (2 : Nat)] [] (u64 (List.getD (List.take (2 : Nat) (List.drop (4 : Nat) l)) (0 : Nat) (0 : Int) * (256 : Int) + List.getD (List.take (2 : Nat) (List.drop (4 : Nat) l)) (1 : Nat) (0 : Int))) ∧ True, decide ((↑(List.length l) : Int) < (8 : Int)) = false → i64 (IntKind.wrap IntKind.i64 ((↑(List.length l) : Int) - (8 : Int))) = i64 ((↑(List.length l) : Int) - (8 : Int)) ∧ True, decide ((↑(List.length l) : Int) < (8 : Int)) = false → u64 (IntKind.wrap IntKind.u64 ((↑(List.length l) : Int) - (8 : Int))) = u64 ((↑(List.length l) : Int) - (8 : Int)) ∧ True]) [(5, ⟨some (V.vs (u8s (List.take 2 (List.drop 4 l))) 2), none⟩), (6, ⟨none, some ⟨u64 (List.getD (List.take 2 (List.drop 4 l)) 0 0 * 256 + List.getD (List.take 2 (List.drop 4 l)) 1 0), [], []⟩⟩), (9, ⟨some (i64 ((↑(List.length l) : Int) - 8)), none⟩), (10, ⟨some (u64 ((↑(List.length l) : Int) - 8)), none⟩)] [0, 2, 3, 4, 17] [3] (by kernel_rfl) ⟨(by intro hc0; first | (cases hc0; done) | (try simp only [Bool.or_false, Bool.false_or, Bool.true_and, Bool.and_true, decide_eq_true_eq, decide_eq_false_iff_not, Bool.and_eq_true, Bool.or_eq_true, Bool.or_eq_false_iff, Bool.not_eq_true', Bool.and_eq_false_iff, beq_iff_eq, bne_iff_ne, bne_eq_false_iff_eq, beq_eq_false_iff_ne, Bool.not_eq_false'] at hc0; exact ⟨(by omega), (by first | rfl | (simp only [subV, u8s_drop, u8s_take, List.drop_zero, Nat.mul_one, Nat.one_mul, Nat.sub_zero, Nat.zero_add, Int.toNat_zero, Int.toNat_natCast]; first | done | rfl | (rw [List.take_of_length_le (by first | omega | (simp; done) | (simp; omega))]; first | done | rfl)) | (simp [subV, u8s_drop, u8s_take]; done)), trivial⟩)), (by intro hc0; first | (cases hc0; done) | (try simp only [Bool.or_false, Bool.false_or, Bool.true_and, Bool.and_true, decide_eq_true_eq, decide_eq_false_iff_not, Bool.and_eq_true, Bool.or_eq_true, Bool.or_eq_false_iff, Bool.not_eq_true', Bool.and_eq_false_iff, beq_iff_eq, bne_iff_ne, bne_eq_false_iff_eq, beq_eq_false_iff_ne, Bool.not_eq_false'] at hc0; exact ⟨(con_val2d (List.take 2 (List.drop 4 l)) (2) (by omega) (by (simp [len_u8s]; omega)) (by exact BL.take (BL.drop hl _) _)), trivial⟩)), (by intro hc0; first | (cases hc0; done) | (try simp only [Bool.or_false, Bool.false_or, Bool.true_and, Bool.and_true, decide_eq_true_eq, decide_eq_false_iff_not, Bool.and_eq_true, Bool.or_eq_true, Bool.or_eq_false_iff, Bool.not_eq_true', Bool.and_eq_false_iff, beq_iff_eq, bne_iff_ne, bne_eq_false_iff_eq, beq_eq_false_iff_ne, Bool.not_eq_false'] at hc0; exact ⟨(wr_i64 (by omega) (by omega)), trivial⟩)), (by intro hc0; first | (cases hc0; done) | (try simp only [Bool.or_false, Bool.false_or, Bool.true_and, Bool.and_true, decide_eq_true_eq, decide_eq_false_iff_not, Bool.and_eq_true, Bool.or_eq_true, Bool.or_eq_false_iff, Bool.not_eq_true', Bool.and_eq_false_iff, beq_iff_eq, bne_iff_ne, bne_eq_false_iff_eq, beq_eq_false_iff_ne, Bool.not_eq_false'] at hc0; exact ⟨(wr_u64 (by omega) (by omega)), trivial⟩)), trivial⟩ ?_
  refine AWP.cond (b := decide ((↑(List.length l) : Int) < 8) || List.getD (List.take 2 (List.drop 4 l)) 0 0 * 256 + List.getD (List.take 2 (List.drop 4 l)) 1 0 != (↑(List.length l) : Int) - 8) (by kernel_rfl) (fun hq8 => ?_) (fun hq8 => ?_)
  · simp only [decide_eq_true_eq, Bool.or_eq_true, bne_iff_ne] at hq8
    (exfalso; omega)
  simp only [decide_eq_false_iff_not, Bool.or_eq_false_iff, bne_eq_false_iff_eq] at hq8
  refine AWP.skip ?_
  refine AWP.seq ?_
  refine xe1 [(1, ⟨none, some ⟨vb (iright l), [], []⟩⟩)] [0, 2, 3, 4, 20] [3] (by kernel_rfl) (AllP.c (con_rright (l) (by assumption) (by omega)) AllP.n) ?_
  refine AWP.cond (b := !iright l) (by kernel_rfl) (fun hq9 => ?_) (fun hq9 => ?_)
  · simp only [Bool.not_eq_true'] at hq9
    (simp [hr] at hq9; done)
  simp only [Bool.not_eq_false'] at hq9
  refine AWP.skip ?_
  refine AWP.seq ?_
  refine xe0 [0, 2, 3, 4, 23] [3] (by kernel_rfl) ?_
  refine AWP.cond (b := decide ((↑(List.length l) : Int) > 208)) (by kernel_rfl) (fun hq10 => ?_) (fun hq10 => ?_)
  · simp only [decide_eq_true_eq] at hq10
    refine AWP.seq ?_
    refine AWP.keep' [0] [] (sf := St.mk [(0, tp (B8 l))] []) (by kernel_rfl) ?_
    refine xg0 [0, 2, 3, 4] [3] (by kernel_rfl) ?_
    refine AWP.ret ?_
    refine ⟨Or.inr rfl, Eq.trans (b := some ([(3, Blk.mk [] true 0 (some (5, 1)))], V.tup [u32 0, V.sl 3 0 0, i64 4])) (by kernel_rfl) ?_⟩
    rfl
  simp only [decide_eq_false_iff_not] at hq10
  (exfalso; omega)
theorem cP_eq {l : List Int} (h : 8 ≤ l.length) : (l.drop 6).take (Int.toNat ((l.length : Int) - 8)) = cP l := by
  unfold cP
  rw [List.drop_take, show Int.toNat ((l.length : Int) - 8) = l.length - 2 - 6 by omega]
theorem cN_eq2 (l : List Int) : (l.take 4).getD 0 0 * 16777216 + (l.take 4).getD 1 0 * 65536 + (l.take 4).getD 2 0 * 256 + (l.take 4).getD 3 0 = cN l := by
  rw [take_getD (by omega), take_getD (by omega), take_getD (by omega), take_getD (by omega)]
  rfl
theorem con_rparse_y (l : List Int) (hl : BL l) (hlen : l.length ≤ 1000000) (h : cF l = true) (hr : iright l = true) (hg : l.length ≤ 208) : Con Try.prog 34 [] [.vs (u8s l) l.length] [(340005, ⟨u8s (cP l), true, 0, some (5, 1)⟩)] (.tup [u32 (cN l), .sl 340005 0 (l.length - 8), i64 0]) := by
  have e := cF_yes h
  have h8 := cF_len h
  have g1 : ((l.drop 4).take 2).getD 0 0 = (l.drop 4).getD 0 0 := take_getD (by omega)
  have g2 : ((l.drop 4).take 2).getD 1 0 = (l.drop 5).getD 0 0 := by rw [take_getD (by omega), drop_getD, drop_getD]
  have q4 := (BL.take (BL.drop hl 4) 2).at_ 0
  have q5 := (BL.take (BL.drop hl 4) 2).at_ 1
  have q0 := (BL.take hl 4).at_ 0
  have q1 := (BL.take hl 4).at_ 1
  have q2 := (BL.take hl 4).at_ 2
  have q3 := (BL.take hl 4).at_ 3
  refine Con.of (C := ⟨Try.prog, tc, Try.f34.ntmps⟩) [340005] tcok Try.func34 rfl rfl (by kernel_rfl) (by kernel_rfl) ?_
  refine xe0 [0, 2, 3, 4] [3] (by kernel_rfl) ?_
  refine AWP.seq ?_
  refine xe1 (os := [decide ((↑(List.length l) : Int) < (8 : Int)) = false → ((0 : Int) ≤ (4 : Int) ∧ (4 : Int) ≤ (6 : Int) ∧ (6 : Int) ≤ (↑(List.length l) : Int)) ∧ V.vs (subV (u8s l) (some (i64 (4 : Int))) (some (i64 (6 : Int))) (Int.toNat (4 : Int) * (1 : Nat)) (Int.toNat (6 : Int) * (1 : Nat)) ((Int.toNat (6 : Int) - Int.toNat (4 : Int)) * (1 : Nat))) (2 : Nat) = V.vs (u8s (List.take (2 : Nat) (List.drop (4 : Nat) l))) (2 : Nat) ∧ True, decide ((↑(List.length l) : Int) < (8 : Int)) = false → Con Try.prog (64 : Nat) [] [V.vs (u8s (List.take (2 : Nat) (List.drop (4 : Nat) l))) (2 : Nat)] [] (u64 (List.getD (List.take (2 : Nat) (List.drop (4 : Nat) l)) (0 : Nat) (0 : Int) * (256 : Int) + List.getD (List.take (2 : Nat) (List.drop (4 : Nat) l)) (1 : Nat) (0 : Int))) ∧ True, decide ((↑(List.length l) : Int) < (8 : Int)) = false → i64 (IntKind.wrap IntKind.i64 ((↑(List.length l) : Int) - (8 : Int))) = i64 ((↑(List.length l) : Int) - (8 : Int)) ∧ True, decide ((↑(List.length l) : Int) < (8 : Int)) = false → u64 (IntKind.wrap IntKind.u64 ((↑(List.length l) : Int) - (8 : Int))) = u64 ((↑(List.length l) : Int) - (8 : Int)) ∧ True]) [(5, ⟨some (V.vs (u8s (List.take 2 (List.drop 4 l))) 2), none⟩), (6, ⟨none, some ⟨u64 (List.getD (List.take 2 (List.drop 4 l)) 0 0 * 256 + List.getD (List.take 2 (List.drop 4 l)) 1 0), [], []⟩⟩), (9, ⟨some (i64 ((↑(List.length l) : Int) - 8)), none⟩), (10, ⟨some (u64 ((↑(List.length l) : Int) - 8)), none⟩)] [0, 2, 3, 4, 17] [3] (by kernel_rfl) ⟨(by intro hc0; first | (cases hc0; done) | (try simp only [Bool.or_false, Bool.false_or, Bool.true_and, Bool.and_true, decide_eq_true_eq, decide_eq_false_iff_not, Bool.and_eq_true, Bool.or_eq_true, Bool.or_eq_false_iff, Bool.not_eq_true', Bool.and_eq_false_iff, beq_iff_eq, bne_iff_ne, bne_eq_false_iff_eq, beq_eq_false_iff_ne, Bool.not_eq_false'] at hc0; exact ⟨(by omega), (by first | rfl | (simp only [subV, u8s_drop, u8s_take, List.drop_zero, Nat.mul_one, Nat.one_mul, Nat.sub_zero, Nat.zero_add, Int.toNat_zero, Int.toNat_natCast]; first | done | rfl | (rw [List.take_of_length_le (by first | omega | (simp; done) | (simp; omega))]; first | done | rfl)) | (simp [subV, u8s_drop, u8s_take]; done)), trivial⟩)), (by intro hc0; first | (cases hc0; done) | (try simp only [Bool.or_false, Bool.false_or, Bool.true_and, Bool.and_true, decide_eq_true_eq, decide_eq_false_iff_not, Bool.and_eq_true, Bool.or_eq_true, Bool.or_eq_false_iff, Bool.not_eq_true', Bool.and_eq_false_iff, beq_iff_eq, bne_iff_ne, bne_eq_false_iff_eq, beq_eq_false_iff_ne, Bool.not_eq_false'] at hc0; exact ⟨(con_val2d (List.take 2 (List.drop 4 l)) (2) (by omega) (by (simp [len_u8s]; omega)) (by exact BL.take (BL.drop hl _) _)), trivial⟩)), (by intro hc0; first | (cases hc0; done) | (try simp only [Bool.or_false, Bool.false_or, Bool.true_and, Bool.and_true, decide_eq_true_eq, decide_eq_false_iff_not, Bool.and_eq_true, Bool.or_eq_true, Bool.or_eq_false_iff, Bool.not_eq_true', Bool.and_eq_false_iff, beq_iff_eq, bne_iff_ne, bne_eq_false_iff_eq, beq_eq_false_iff_ne, Bool.not_eq_false'] at hc0; exact ⟨(wr_i64 (by omega) (by omega)), trivial⟩)), (by intro hc0; first | (cases hc0; done) | (try simp only [Bool.or_false, Bool.false_or, Bool.true_and, Bool.and_true, decide_eq_true_eq, decide_eq_false_iff_not, Bool.and_eq_true, Bool.or_eq_true, Bool.or_eq_false_iff, Bool.not_eq_true', Bool.and_eq_false_iff, beq_iff_eq, bne_iff_ne, bne_eq_false_iff_eq, beq_eq_false_iff_ne, Bool.not_eq_false'] at hc0; exact ⟨(wr_u64 (by omega) (by omega)), trivial⟩)), trivial⟩ ?_
  refine AWP.cond (b := decide ((↑(List.length l) : Int) < 8) || List.getD (List.take 2 (List.drop 4 l)) 0 0 * 256 + List.getD (List.take 2 (List.drop 4 l)) 1 0 != (↑(List.length l) : Int) - 8) (by kernel_rfl) (fun hq11 => ?_) (fun hq11 => ?_)
  · simp only [decide_eq_true_eq, Bool.or_eq_true, bne_iff_ne] at hq11
    (exfalso; omega)
  simp only [decide_eq_false_iff_not, Bool.or_eq_false_iff, bne_eq_false_iff_eq] at hq11
  refine AWP.skip ?_
  refine AWP.seq ?_
  refine xe1 [(1, ⟨none, some ⟨vb (iright l), [], []⟩⟩)] [0, 2, 3, 4, 20] [3] (by kernel_rfl) (AllP.c (con_rright (l) (by assumption) (by omega)) AllP.n) ?_
  refine AWP.cond (b := !iright l) (by kernel_rfl) (fun hq12 => ?_) (fun hq12 => ?_)
  · simp only [Bool.not_eq_true'] at hq12
    (simp [hr] at hq12; done)
  simp only [Bool.not_eq_false'] at hq12
  refine AWP.skip ?_
  refine AWP.seq ?_
  refine xe0 [0, 2, 3, 4, 23] [3] (by kernel_rfl) ?_
  refine AWP.cond (b := decide ((↑(List.length l) : Int) > 208)) (by kernel_rfl) (fun hq13 => ?_) (fun hq13 => ?_)
  · simp only [decide_eq_true_eq] at hq13
    (exfalso; omega)
  simp only [decide_eq_false_iff_not] at hq13
  refine AWP.skip ?_
  refine AWP.seq ?_
  refine AWP.keep' [0] [] (sf := St.mk [(0, tp (B8 l))] []) (by kernel_rfl) ?_
  refine xg1 (os := [(0 : Int) ≤ (↑(0 : Nat) : Int) ∧ (↑(0 : Nat) : Int) ≤ (4 : Int) ∧ (4 : Int) ≤ (↑(List.length l) : Int), V.vs (subV (u8s l) none (some (i64 4)) (Int.toNat (↑0 : Int) * 1) (Int.toNat 4 * 1) ((Int.toNat 4 - Int.toNat (↑0 : Int)) * 1)) 4 = V.vs (u8s (List.take 4 l)) 4, Con Try.prog 64 [] [V.vs (u8s (List.take 4 l)) 4] [] (u64 (List.getD (List.take 4 l) 0 0 * 16777216 + List.getD (List.take 4 l) 1 0 * 65536 + List.getD (List.take 4 l) 2 0 * 256 + List.getD (List.take 4 l) 3 0)), u32 (IntKind.wrap IntKind.u32 (List.getD (List.take 4 l) 0 0 * 16777216 + List.getD (List.take 4 l) 1 0 * 65536 + List.getD (List.take 4 l) 2 0 * 256 + List.getD (List.take 4 l) 3 0)) = u32 (List.getD (List.take 4 l) 0 0 * 16777216 + List.getD (List.take 4 l) 1 0 * 65536 + List.getD (List.take 4 l) 2 0 * 256 + List.getD (List.take 4 l) 3 0), (0 : Int) ≤ (6 : Int) ∧ (6 : Int) ≤ (↑(List.length l) : Int) ∧ (↑(List.length l) : Int) ≤ (↑(List.length l) : Int), V.vs (subV (u8s l) (some (i64 6)) none (Int.toNat 6 * 1) (Int.toNat (↑(List.length l) : Int) * 1) ((Int.toNat (↑(List.length l) : Int) - Int.toNat 6) * 1)) (Int.toNat (↑(List.length l) : Int) - 6) = V.vs (u8s (List.drop 6 l)) (List.length l - 6), i64 (IntKind.wrap IntKind.i64 ((↑(List.length l) : Int) - 8)) = i64 ((↑(List.length l) : Int) - 8), Con Try.prog 18 [] [V.vs (u8s (List.drop 6 l)) (List.length l - 6), i64 ((↑(List.length l) : Int) - 8)] [(5, Blk.mk (u8s (List.take (Int.toNat ((↑(List.length l) : Int) - 8)) (List.drop 6 l))) true 0 (some (5, 1)))] (V.sl 5 0 (List.length (List.take (Int.toNat ((↑(List.length l) : Int) - 8)) (List.drop 6 l))))]) [(1, ⟨some (V.vs (u8s (List.take 4 l)) 4), none⟩), (2, ⟨none, some ⟨u64 (List.getD (List.take 4 l) 0 0 * 16777216 + List.getD (List.take 4 l) 1 0 * 65536 + List.getD (List.take 4 l) 2 0 * 256 + List.getD (List.take 4 l) 3 0), [], []⟩⟩), (3, ⟨some (u32 (List.getD (List.take 4 l) 0 0 * 16777216 + List.getD (List.take 4 l) 1 0 * 65536 + List.getD (List.take 4 l) 2 0 * 256 + List.getD (List.take 4 l) 3 0)), none⟩), (5, ⟨some (V.vs (u8s (List.drop 6 l)) (List.length l - 6)), none⟩), (8, ⟨some (i64 ((↑(List.length l) : Int) - 8)), none⟩), (9, ⟨none, some ⟨V.sl 5 0 (List.length (List.take (Int.toNat ((↑(List.length l) : Int) - 8)) (List.drop 6 l))), [(5, Blk.mk (u8s (List.take (Int.toNat ((↑(List.length l) : Int) - 8)) (List.drop 6 l))) true 0 (some (5, 1)))], []⟩⟩)] [2, 3, 4] [340005] (by kernel_rfl) ⟨(by omega), (by first | rfl | (simp only [subV, u8s_drop, u8s_take, List.drop_zero, Nat.mul_one, Nat.one_mul, Nat.sub_zero, Nat.zero_add, Int.toNat_zero, Int.toNat_natCast]; first | done | rfl | (rw [List.take_of_length_le (by first | omega | (simp; done) | (simp; omega))]; first | done | rfl)) | (simp [subV, u8s_drop, u8s_take]; done)), (con_val4d (List.take 4 l) (4) (by omega) (by (simp [len_u8s]; omega)) (by exact BL.take hl _)), (wr_u32 (by omega) (by omega)), (by omega), (by first | rfl | (simp only [subV, u8s_drop, u8s_take, List.drop_zero, Nat.mul_one, Nat.one_mul, Nat.sub_zero, Nat.zero_add, Int.toNat_zero, Int.toNat_natCast]; first | done | rfl | (rw [List.take_of_length_le (by first | omega | (simp; done) | (simp; omega))]; first | done | rfl)) | (simp [subV, u8s_drop, u8s_take]; done)), (wr_i64 (by omega) (by omega)), (con_cutn (List.drop 6 l) (List.length l - 6) (by (simp [len_u8s]; done)) ((↑(List.length l) : Int) - 8) (by omega) (by omega) (by omega)), trivial⟩ ?_
  refine AWP.ret ?_
  refine ⟨Or.inr rfl, Eq.trans (b := some ([(340005, Blk.mk (u8s (List.take (Int.toNat ((↑(List.length l) : Int) - 8)) (List.drop 6 l))) true 0 (some (5, 1)))], V.tup [u32 (List.getD (List.take 4 l) 0 0 * 16777216 + List.getD (List.take 4 l) 1 0 * 65536 + List.getD (List.take 4 l) 2 0 * 256 + List.getD (List.take 4 l) 3 0), V.sl 340005 0 (List.length (List.take (Int.toNat ((↑(List.length l) : Int) - 8)) (List.drop 6 l))), i64 0])) (by kernel_rfl) ?_⟩
  (rw [cP_eq h8, cN_eq2, cP_len h8])
theorem con_rparse (l : List Int) (n : Nat) (hn : l.length = n) (hl : BL l) (hlen : n ≤ 1000000) : Con Try.prog 34 [] [.vs (u8s l) n] [(340005, ⟨u8s (cPo l), true, 0, some (5, 1)⟩)] (.tup [u32 (cNo l), .sl 340005 0 (cPo l).length, i64 (cE l)]) := by
  subst hn
  cases hF : cF l with
  | false =>
    simp only [cPo, cNo, cE, cOk, hF, Bool.false_and, Bool.false_eq_true, if_false]
    exact (con_rparse_f l hl hlen hF).shift 340002 rfl rfl
  | true =>
    have h8 := cF_len hF
    cases hR : iright l with
    | false =>
      simp only [cPo, cNo, cE, cOk, hF, hR, Bool.false_and, Bool.true_and, Bool.false_eq_true, if_false, if_true]
      exact (con_rparse_c l hl hlen hF hR).shift 340002 rfl rfl
    | true =>
      by_cases hg : l.length ≤ 208
      · simp only [cPo, cNo, cE, cOk, hF, hR, decide_eq_true hg, Bool.true_and, if_true, if_pos hg]
        rw [cP_len h8]
        exact con_rparse_y l hl hlen hF hR hg
      · simp only [cPo, cNo, cE, cOk, hF, hR, decide_eq_false hg, Bool.true_and, Bool.false_eq_true, if_false, if_true, if_neg hg]
        exact (con_rparse_l l hl hlen hF hR (by omega)).shift 340002 rfl rfl
end Go.Proofs.Ytmeiemdnhjnpcaa
