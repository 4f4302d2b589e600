/- Packets of commands: the program's bytes. -/
import Derived.Test.YtieoaeidlcdggaaGreatDoorRg
import Derived.Test.YtieoaeidlcdggaaGreatDoorGtA
namespace Go.Proofs.YtieoaeidlcdggaaGreatDoor
open Go Go.Ab
set_option linter.unusedSimpArgs false
set_option linter.unusedVariables false
set_option maxRecDepth 100000
theorem con_two (n : Int) (h : 0 ≤ n ∧ n < 65536) : Con Tryz.prog 62 [] [u16 n] [(8, ⟨u8s [n / 256, n % 256], true, 0, some (5, 1)⟩)] (.sl 8 0 2) := by
  refine Con.of (C := ⟨Tryz.prog, tc, Tryz.f62.ntmps⟩) [8] tcok Tryz.func62 rfl rfl (by kernel_rfl) (by kernel_rfl) ?_
  refine AWP.seq ?_
  refine AWP.regionT tcok hmix [] [0, 2] [2] (os := []) (s' := St.mk [(0, tp (u16 n)), (2, tp (V.sl 2 0 0))] [(2, Blk.mk [] true 0 (some (5, 1)))]) (by kernel_rfl) trivial ?_
  refine AWP.seq ?_
  refine AWP.keep' [0] [] (sf := St.mk [(0, tp (u16 n))] []) (by kernel_rfl) ?_
  refine xg1 (os := [(0 : Int) ≤ (8 : Int), u16 (ishr IntKind.u16 n 8) = u16 (n / 256), u8 (IntKind.wrap IntKind.u8 (n / 256)) = u8 (n / 256), u8 (IntKind.wrap IntKind.u8 n) = u8 (n % 256)]) [(1, ⟨some (u16 (n / 256)), none⟩), (2, ⟨some (u8 (n / 256)), none⟩), (4, ⟨some (u8 (n % 256)), none⟩)] [2] [8] (by kernel_rfl) ⟨(by omega), (shr_eq rfl (by decide)), (wr_u8 (by omega) (by omega)), wm_u8, trivial⟩ ?_
  refine AWP.ret ?_
  refine ⟨Or.inr rfl, Eq.trans (b := some ([(8, Blk.mk [u8 (n / 256), u8 (n % 256)] true 0 (some (5, 1)))], V.sl 8 0 2)) (by kernel_rfl) ?_⟩
  rfl
theorem con_within (l : List Int) (n : Nat) (hn : l.length = n) (h : n ≤ 200) : Con Tryz.prog 44 [(1000000000, ⟨u8s l, true, 0, some (5, 1)⟩)] [.sl 1000000000 0 n] [(1000000000, ⟨u8s l, true, 0, some (5, 1)⟩)] (.tup [.sl 1000000000 0 n, i64 0]) := by
  subst hn
  refine Con.of (C := ⟨Tryz.prog, tc, Tryz.f44.ntmps⟩) [1000000000] tcok Tryz.func44 rfl rfl (by kernel_rfl) (by kernel_rfl) ?_
  refine AWP.seq ?_
  refine AWP.regionT tcok hmix [] [0, 2, 3] [2, 1000000000] (os := []) (s' := St.mk [(0, tp (V.sl 1000000000 0 (List.length l))), (2, tp (V.sl 2 0 0)), (3, tp (i64 0))] [(2, Blk.mk [] true 0 (some (5, 1))), (1000000000, Blk.mk (u8s l) true 0 (some (5, 1)))]) (by kernel_rfl) trivial ?_
  refine AWP.seq ?_
  refine xe0 [0, 2, 3, 6] [1000000000, 2] (by kernel_rfl) ?_
  refine AWP.cond (b := decide ((↑(List.length l) : Int) > 200)) (by kernel_rfl) (fun hq0 => ?_) (fun hq0 => ?_)
  · simp only [decide_eq_true_eq] at hq0
    (exfalso; omega)
  simp only [decide_eq_false_iff_not] at hq0
  refine AWP.skip ?_
  refine AWP.seq ?_
  refine AWP.keep' [0] [1000000000] (sf := St.mk [(0, tp (V.sl 1000000000 0 (List.length l)))] [(1000000000, Blk.mk (u8s l) true 0 (some (5, 1)))]) (by kernel_rfl) ?_
  refine AWP.regionT tcok hmix [] [2, 3] [1000000000] (os := []) (s' := St.mk [(2, tp (V.sl 1000000000 0 (List.length l))), (3, tp (i64 0))] [(1000000000, Blk.mk (u8s l) true 0 (some (5, 1)))]) (by kernel_rfl) trivial ?_
  refine AWP.ret ?_
  refine ⟨Or.inr rfl, Eq.trans (b := some ([(1000000000, Blk.mk (u8s l) true 0 (some (5, 1)))], V.tup [V.sl 1000000000 0 (List.length l), i64 0])) (by kernel_rfl) ?_⟩
  rfl
/-- A command's bytes. -/
def cmdB (a b : Int) (ds : List Int) : List Int := [41, a, b, 0, 0] ++ ds
theorem con_cbytes (a b : Int) (ds : List Int) (m : Nat) (hm : ds.length = m) (hl : m ≤ 100) : Con Tryz.prog 33 [] [.agg true [u8 9, u8 a, u8 b, u16 0, .vs (u8s ds) m]] [(22, ⟨u8s (cmdB a b ds), true, 0, some (5, 1)⟩)] (.tup [.sl 22 0 (5 + m), i64 0]) := by
  subst hm
  refine Con.of (C := ⟨Tryz.prog, tc, Tryz.f33.ntmps⟩) [22] tcok Tryz.func33 rfl rfl (by kernel_rfl) (by kernel_rfl) ?_
  refine AWP.seq ?_
  refine AWP.regionT tcok hmix [] [1, 2, 3] [1, 2] (os := []) (s' := St.mk [(1, tp (V.ptr 1 0)), (2, tp (V.sl 2 0 0)), (3, tp (i64 0))] [(1, Blk.mk [u8 9, u8 a, u8 b, u16 0, B8 ds] true 5 none), (2, Blk.mk [] true 0 (some (5, 1)))]) (by kernel_rfl) trivial ?_
  refine AWP.seq ?_
  refine xe0 [1, 2, 3, 7] [1, 2] (by kernel_rfl) ?_
  refine AWP.condF (by kernel_rfl) ?_
  refine AWP.skip ?_
  refine xe0 [1, 2, 3, 4] [1, 2, 22] (by kernel_rfl) ?_
  refine AWP.seq ?_
  refine AWP.keep' [1, 4] [1, 22] (sf := St.mk [(1, tp (V.ptr 1 0)), (4, tp (V.sl 22 0 5))] [(1, Blk.mk [u8 9, u8 a, u8 b, u16 0, B8 ds] true 5 none), (22, Blk.mk [u8 41, u8 a, u8 b, u8 0, u8 0] true 0 (some (5, 1)))]) (by kernel_rfl) ?_
  refine xg1 (os := [List.length ds * (1 : Nat) ≤ List.length (u8s ds), (5 : Nat) = (5 : Nat), (5 : Nat) + List.length ds ≤ (9223372036854775807 : Nat), ((5 : Nat) + List.length ds) * (1 : Nat) ≤ (140737488355328 : Nat), [u8 (41 : Int), u8 a, u8 b, u8 (0 : Int), u8 (0 : Int)] ++ List.take (List.length ds * (1 : Nat)) (u8s ds) = u8s ([(41 : Int), a, b, (0 : Int), (0 : Int)] ++ ds), (5 : Nat) + List.length ds = List.length ([(41 : Int), a, b, (0 : Int), (0 : Int)] ++ ds), Con Tryz.prog 44 [(1000000000, Blk.mk (u8s ([41, a, b, 0, 0] ++ ds)) true 0 (some (5, 1)))] [V.sl 1000000000 0 (List.length ([41, a, b, 0, 0] ++ ds))] [(1000000000, Blk.mk (u8s ([41, a, b, 0, 0] ++ ds)) true 0 (some (5, 1)))] (V.tup [V.sl 1000000000 0 (List.length ([41, a, b, 0, 0] ++ ds)), i64 0])]) [(3, ⟨some (V.tup [V.agg true (u8s ([41, a, b, 0, 0] ++ ds)), V.sl 0 0 (List.length ([41, a, b, 0, 0] ++ ds))]), none⟩), (4, ⟨some (V.tup [V.sl 1000000000 22 0]), some ⟨V.tup [V.sl 1000000000 0 (List.length ([41, a, b, 0, 0] ++ ds)), i64 0], [(1000000000, Blk.mk (u8s ([41, a, b, 0, 0] ++ ds)) true 0 (some (5, 1)))], []⟩⟩)] [2, 3] [22] (by kernel_rfl) ⟨(by (simp [len_u8s]; done)), (by omega), (by omega), (by omega), (by first | rfl | (show u8s ([41, a, b, 0, 0]) ++ _ = _; simp only [u8s_drop, u8s_take, List.drop_zero, Nat.mul_one, Nat.one_mul, u8s_app, List.take_length, List.nil_append, List.append_nil]; done) | (simp [u8s]; done) | (simp [u8s]; omega)), (by (simp [len_u8s]; omega)), (con_within ([41, a, b, 0, 0] ++ ds) (List.length ([41, a, b, 0, 0] ++ ds)) (by omega) (by (simp [len_u8s]; omega))), trivial⟩ ?_
  refine AWP.ret ?_
  refine ⟨Or.inr rfl, Eq.trans (b := some ([(22, Blk.mk (u8s ([41, a, b, 0, 0] ++ ds)) true 0 (some (5, 1)))], V.tup [V.sl 22 0 (List.length ([41, a, b, 0, 0] ++ ds)), i64 0])) (by kernel_rfl) ?_⟩
  (rw [List.length_append]; rfl)
theorem wrap16 (x : BitVec 16) : IntKind.wrap .u16 (x.toNat : Int) = (x.toNat : Int) := by
  have hb := x.isLt
  show (x.toNat : Int) % 65536 = _
  omega
theorem ior16 (a b : Int) : ior .u16 a b = ((BitVec.ofInt 16 a ||| BitVec.ofInt 16 b).toNat : Int) := wrap16 _
theorem ior_hi {a : Int} (n j q : Nat) (m : Int) (ha : 0 ≤ a ∧ a < m) (hm : m = ((2 ^ n : Nat) : Int)) (hq : q = 2 ^ n * j) (hq2 : q < 65536) (h16 : m ≤ 65536) : ior .u16 a (q : Int) = a + (q : Int) := by
  obtain ⟨k, rfl⟩ : ∃ k : Nat, a = k := ⟨a.toNat, by omega⟩
  subst hm
  have hk : k < 2 ^ n := by have := ha.2; omega
  rw [ior16, BitVec.toNat_or, BitVec.toNat_ofInt, BitVec.toNat_ofInt]
  have e1 : ((k : Int) % ((2 ^ 16 : Nat) : Int)).toNat = k := by
    rw [show ((2 ^ 16 : Nat) : Int) = 65536 from rfl]
    omega
  have e2 : ((q : Int) % ((2 ^ 16 : Nat) : Int)).toNat = q := by
    rw [show ((2 ^ 16 : Nat) : Int) = 65536 from rfl]
    omega
  rw [e1, e2, Nat.or_comm, hq, ← Nat.two_pow_add_eq_or_of_lt hk]
  omega
theorem ior_a {ap : Int} (h : 0 ≤ ap ∧ ap < 2048) : ior .u16 (ior .u16 ap 2048) 4096 = ap + 6144 := by
  have e1 : ior .u16 ap 2048 = ap + 2048 := ior_hi 11 1 2048 2048 h rfl rfl (by decide) (by decide)
  have e2 : ior .u16 (ap + 2048) 4096 = ap + 2048 + 4096 := ior_hi 12 1 4096 4096 ⟨by omega, by omega⟩ rfl rfl (by decide) (by decide)
  rw [e1, e2]
  omega
theorem ior_c {c : Int} (h : 0 ≤ c ∧ c < 16384) : ior .u16 c 49152 = c + 49152 := ior_hi 14 3 49152 16384 h rfl rfl (by decide) (by decide)
/-- A packet's bytes, ahead of the sum. -/
def pkX (ap c : Int) (l : List Int) : List Int := [(ap + 6144) / 256, (ap + 6144) % 256] ++ [(c + 49152) / 256, (c + 49152) % 256] ++ [((l.length : Int) + 1) / 256, ((l.length : Int) + 1) % 256] ++ l
def pkB (ap c : Int) (l : List Int) : List Int := pkX ap c l ++ sumB (pkX ap c l)
theorem pkX_len (ap c : Int) (l : List Int) : (pkX ap c l).length = 2 + 2 + 2 + l.length := by simp [pkX]; omega
theorem pkX_bl {ap c : Int} (hap : 0 ≤ ap ∧ ap < 2048) (hc : 0 ≤ c ∧ c < 16384) {l : List Int} (hb : BL l) (hl : l.length ≤ 200) : BL (pkX ap c l) := by
  have two : ∀ n : Int, 0 ≤ n → n < 65536 → BL [n / 256, n % 256] := fun n h1 h2 => BL.cons ⟨by omega, by omega⟩ (BL.cons ⟨by omega, by omega⟩ BL.nil)
  exact (((two _ (by omega) (by omega)).app (two _ (by omega) (by omega))).app (two _ (by omega) (by omega))).app hb
theorem con_pbytes (ap c : Int) (hap : 0 ≤ ap ∧ ap < 2048) (hc : 0 ≤ c ∧ c < 16384) (l : List Int) (hb : BL l) (m : Nat) (hm : l.length = m) (hl : m ≤ 200) : Con Tryz.prog 45 [] [.agg true [vb true, u16 ap, u16 c, .vs (u8s l) m]] [(590005, ⟨u8s (pkB ap c l), true, 0, some (5, 1)⟩)] (.tup [.sl 590005 0 (m + 8), i64 0]) := by
  subst hm
  obtain ⟨tv, htv, cmk⟩ := con_make
  have wf1 := ior_a hap
  have wf2 := ior_c hc
  have hjn : ConN Tryz.prog 61 [.vs [.vs (u8s [(ap + 6144) / 256, (ap + 6144) % 256]) 2, .vs (u8s [(c + 49152) / 256, (c + 49152) % 256]) 2, .vs (u8s [((l.length : Int) + 2 - 1) / 256, ((l.length : Int) + 2 - 1) % 256]) 2, .vs (u8s l) l.length] 4, .val (.slice none 0 0)] (.vs (u8s (pkX ap c l)) (2 + 2 + 2 + l.length)) := by
    rw [show (l.length : Int) + 2 - 1 = l.length + 1 by omega]
    exact con_join4 [(ap + 6144) / 256, (ap + 6144) % 256] [(c + 49152) / 256, (c + 49152) % 256] [((l.length : Int) + 1) / 256, ((l.length : Int) + 1) % 256] l 2 2 2 l.length rfl rfl rfl rfl
      (BL.cons ⟨by omega, by omega⟩ (BL.cons ⟨by omega, by omega⟩ BL.nil)) (BL.cons ⟨by omega, by omega⟩ (BL.cons ⟨by omega, by omega⟩ BL.nil)) (BL.cons ⟨by omega, by omega⟩ (BL.cons ⟨by omega, by omega⟩ BL.nil)) hb (by omega)
  have hj := ConN.con hjn
  have ca := con_append tv htv (pkX ap c l) (2 + 2 + 2 + l.length) (pkX_len ap c l) (pkX_bl hap hc hb hl) (by omega)
  have hl0 := htv.1
  refine Con.of (C := ⟨Tryz.prog, tc, Tryz.f45.ntmps⟩) [590005] tcok Tryz.func45 rfl rfl (by kernel_rfl) (by kernel_rfl) ?_
  refine AWP.seq ?_
  refine AWP.regionT tcok hmix [] [1, 2, 3] [1, 2] (os := []) (s' := St.mk [(1, tp (V.ptr 1 0)), (2, tp (V.sl 2 0 0)), (3, tp (i64 0))] [(1, Blk.mk [vb true, u16 ap, u16 c, B8 l] true 4 none), (2, Blk.mk [] true 0 (some (5, 1)))]) (by kernel_rfl) trivial ?_
  refine AWP.seq ?_
  refine AWP.block ?_
  refine xe0 [1, 2, 3, 6] [1, 2] (by kernel_rfl) ?_
  refine AWP.cond (b := decide (ap > 2047) || decide (c > 16383)) (by kernel_rfl) (fun hq2 => ?_) (fun hq2 => ?_)
  · simp only [decide_eq_true_eq, Bool.or_eq_true] at hq2
    (exfalso; omega)
  simp only [decide_eq_false_iff_not, Bool.or_eq_false_iff] at hq2
  refine AWP.seq ?_
  refine AWP.regionT tcok hmix [] [1, 2, 3, 15] [1, 2] (os := []) (s' := St.mk [(1, tp (V.ptr 1 0)), (2, tp (V.sl 2 0 0)), (3, tp (i64 0)), (15, tp (vb (decide ((↑(List.length l) : Int) > 200))))] [(1, Blk.mk [vb true, u16 ap, u16 c, B8 l] true 4 none), (2, Blk.mk [] true 0 (some (5, 1)))]) (by kernel_rfl) trivial ?_
  refine AWP.cond (b := decide ((↑(List.length l) : Int) > 200)) (by kernel_rfl) (fun hq3 => ?_) (fun hq3 => ?_)
  · simp only [decide_eq_true_eq] at hq3
    (exfalso; omega)
  simp only [decide_eq_false_iff_not] at hq3
  refine AWP.skip ?_
  refine AWP.seq ?_
  refine AWP.regionT tcok hmix [] [1, 2, 3, 4] [1, 2] (os := []) (s' := St.mk [(1, tp (V.ptr 1 0)), (2, tp (V.sl 2 0 0)), (3, tp (i64 0)), (4, tp (u16 (ior IntKind.u16 ap 2048)))] [(1, Blk.mk [vb true, u16 ap, u16 c, B8 l] true 4 none), (2, Blk.mk [] true 0 (some (5, 1)))]) (by kernel_rfl) trivial ?_
  refine AWP.seq ?_
  refine xe0 [1, 2, 3, 4, 24] [1, 2] (by kernel_rfl) ?_
  refine AWP.condT (by kernel_rfl) ?_
  refine xg1 (os := [u16 (ior IntKind.u16 (ior IntKind.u16 ap 2048) 4096) = u16 (ap + 6144)]) [(1, ⟨some (u16 (ap + 6144)), none⟩)] [1, 2, 3, 4] [1, 2] (by kernel_rfl) ⟨(in_eq wf1), trivial⟩ ?_
  refine xe1 (os := [Con Tryz.prog 62 [] [u16 (ap + 6144)] [(8, Blk.mk [u8 ((ap + 6144) / 256), u8 ((ap + 6144) % 256)] true 0 (some (5, 1)))] (V.sl 8 0 2), u16 (ior IntKind.u16 c 49152) = u16 (c + 49152), Con Tryz.prog 62 [] [u16 (c + 49152)] [(8, Blk.mk [u8 ((c + 49152) / 256), u8 ((c + 49152) % 256)] true 0 (some (5, 1)))] (V.sl 8 0 2), i64 (IntKind.wrap IntKind.i64 ((↑(List.length l) : Int) + 2)) = i64 ((↑(List.length l) : Int) + 2), i64 (IntKind.wrap IntKind.i64 ((↑(List.length l) : Int) + 2 - 1)) = i64 ((↑(List.length l) : Int) + 2 - 1), u16 (IntKind.wrap IntKind.u16 ((↑(List.length l) : Int) + 2 - 1)) = u16 ((↑(List.length l) : Int) + 2 - 1), Con Tryz.prog 62 [] [u16 ((↑(List.length l) : Int) + 2 - 1)] [(8, Blk.mk [u8 (((↑(List.length l) : Int) + 2 - 1) / 256), u8 (((↑(List.length l) : Int) + 2 - 1) % 256)] true 0 (some (5, 1)))] (V.sl 8 0 2), VOr Tryz.prog (61 : Nat) [V.vs [V.vs [u8 ((ap + (6144 : Int)) / (256 : Int)), u8 ((ap + (6144 : Int)) % (256 : Int))] (2 : Nat), V.vs [u8 ((c + (49152 : Int)) / (256 : Int)), u8 ((c + (49152 : Int)) % (256 : Int))] (2 : Nat), V.vs [u8 (((↑(List.length l) : Int) + (2 : Int) - (1 : Int)) / (256 : Int)), u8 (((↑(List.length l) : Int) + (2 : Int) - (1 : Int)) % (256 : Int))] (2 : Nat), B8 l] (4 : Nat), V.val (Value.slice none (0 : Nat) (0 : Nat))] [] (V.vs (u8s (pkX ap c l)) ((6 : Nat) + List.length l)), VOH [], Con Tryz.prog 61 [] [V.vs [V.vs [u8 ((ap + 6144) / 256), u8 ((ap + 6144) % 256)] 2, V.vs [u8 ((c + 49152) / 256), u8 ((c + 49152) % 256)] 2, V.vs [u8 (((↑(List.length l) : Int) + 2 - 1) / 256), u8 (((↑(List.length l) : Int) + 2 - 1) % 256)] 2, B8 l] 4, V.val (Value.slice none 0 0)] [] (V.vs (u8s (pkX ap c l)) (6 + List.length l)), (0 : Nat) = (0 : Nat), (0 : Nat) = (0 : Nat), (0 : Nat) = (0 : Nat), (0 : Nat) = (0 : Nat)]) [(1, ⟨none, some ⟨V.sl 8 0 2, [(8, Blk.mk (u8s [(ap + 6144) / 256, (ap + 6144) % 256]) true 0 (some (5, 1)))], []⟩⟩), (4, ⟨some (u16 (c + 49152)), none⟩), (5, ⟨none, some ⟨V.sl 8 0 2, [(8, Blk.mk (u8s [(c + 49152) / 256, (c + 49152) % 256]) true 0 (some (5, 1)))], []⟩⟩), (9, ⟨some (i64 ((↑(List.length l) : Int) + 2)), none⟩), (10, ⟨some (i64 ((↑(List.length l) : Int) + 2 - 1)), none⟩), (11, ⟨some (u16 ((↑(List.length l) : Int) + 2 - 1)), none⟩), (12, ⟨none, some ⟨V.sl 8 0 2, [(8, Blk.mk (u8s [((↑(List.length l) : Int) + 2 - 1) / 256, ((↑(List.length l) : Int) + 2 - 1) % 256]) true 0 (some (5, 1)))], []⟩⟩), (16, ⟨none, some ⟨V.vs (u8s (pkX ap c l)) (2 + 2 + 2 + List.length l), [], [(400008, true), (330008, true), (290008, true), (42, true)]⟩⟩)] [2, 3, 5] [2] (by kernel_rfl) ⟨(con_two (ap + 6144) (by omega)), (in_eq wf2), (con_two (c + 49152) (by omega)), (wr_i64 (by omega) (by omega)), (wr_i64 (by omega) (by omega)), (wr_u16 (by omega) (by omega)), (con_two ((↑(List.length l) : Int) + 2 - 1) (by omega)), (by first | exact Or.inl (VO.vs_nil _) | exact Or.inr ⟨rfl, by assumption⟩), trivial, (hj ), (by omega), (by omega), (by omega), (by omega), trivial⟩ ?_
  refine AWP.seq ?_
  refine AWP.keep' [5] [] (sf := St.mk [(5, tp (V.vs (u8s (pkX ap c l)) (6 + List.length l)))] []) (by kernel_rfl) ?_
  refine xg1 (os := [Con Tryz.prog 63 [] [] [] (V.agg true tv), Con Tryz.prog 64 [] [V.agg true tv, V.vs (u8s (pkX ap c l)) (6 + List.length l)] [(120005, Blk.mk (u8s (pkX ap c l ++ sumB (pkX ap c l))) true 0 (some (5, 1)))] (V.sl 120005 0 (6 + List.length l + 2))]) [(0, ⟨none, some ⟨V.agg true tv, [], []⟩⟩), (2, ⟨none, some ⟨V.sl 120005 0 (2 + 2 + 2 + List.length l + 2), [(120005, Blk.mk (u8s (pkX ap c l ++ sumB (pkX ap c l))) true 0 (some (5, 1)))], []⟩⟩)] [2, 3] [590005] (by kernel_rfl) ⟨(cmk ), (ca ), trivial⟩ ?_
  refine AWP.ret ?_
  refine ⟨Or.inr rfl, Eq.trans (b := some ([(590005, Blk.mk (u8s (pkX ap c l ++ sumB (pkX ap c l))) true 0 (some (5, 1)))], V.tup [V.sl 590005 0 (6 + List.length l + 2), i64 0])) (by kernel_rfl) ?_⟩
  (rw [show 6 + l.length + 2 = l.length + 8 by omega]; rfl)
end Go.Proofs.YtieoaeidlcdggaaGreatDoor
