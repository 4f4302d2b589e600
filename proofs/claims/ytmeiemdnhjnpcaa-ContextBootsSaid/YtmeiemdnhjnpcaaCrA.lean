/- Sums, on whole numbers. -/
import Derived.Test.YtmeiemdnhjnpcaaRg
import Derived.Test.YtmeiemdnhjnpcaaByA
import Derived.Test.YtmeiemdnhjnpcaaCrcP
namespace Go.Proofs.Ytmeiemdnhjnpcaa
open Go.Ab
set_option linter.unusedSimpArgs false
set_option linter.unusedVariables false
theorem ixor_u16_n {a b : Int} (ha : 0 ≤ a ∧ a < 65536) (hb : 0 ≤ b ∧ b < 65536) : ixor .u16 a b = ((a.toNat ^^^ b.toNat : Nat) : Int) := by
  have hx : a.toNat ^^^ b.toNat < 65536 := Nat.xor_lt_two_pow (n := 16) (by omega) (by omega)
  unfold ixor
  rw [BitVec.toNat_xor, ofInt_nat ha.1 (by show a < 2 ^ 16; omega), ofInt_nat hb.1 (by show b < 2 ^ 16; omega), IntWalk.u16_in _ ⟨by omega, by omega⟩]
theorem ixor_u8_n {a b : Int} (ha : 0 ≤ a ∧ a < 256) (hb : 0 ≤ b ∧ b < 256) : ixor .u8 a b = ((a.toNat ^^^ b.toNat : Nat) : Int) := by
  have hx : a.toNat ^^^ b.toNat < 256 := Nat.xor_lt_two_pow (n := 8) (by omega) (by omega)
  unfold ixor
  rw [BitVec.toNat_xor, ofInt_nat ha.1 (by show a < 2 ^ 8; omega), ofInt_nat hb.1 (by show b < 2 ^ 8; omega), IntWalk.u8_in _ ⟨by omega, by omega⟩]
def istep (s b : Int) : Int := (Crc.step s.toNat b.toNat : Nat)
theorem istep_bd (s b : Int) : 0 ≤ istep s b ∧ istep s b < 65536 := by
  have := Crc.step_lt s.toNat b.toNat
  unfold istep
  omega
def irun (s : Int) (l : List Int) : Int := l.foldl istep s
theorem irun_bd {s : Int} (l : List Int) (h : 0 ≤ s ∧ s < 65536) : 0 ≤ irun s l ∧ irun s l < 65536 := by
  induction l generalizing s with
  | nil => exact h
  | cons b l ih => exact ih (istep_bd _ _)
theorem irun_app (s : Int) (l m : List Int) : irun s (l ++ m) = irun (irun s l) m := by simp [irun]
theorem irun_take {s : Int} {l : List Int} {i : Nat} (h : i < l.length) : irun s (l.take (i + 1)) = istep (irun s (l.take i)) (l.getD i 0) := by
  rw [List.take_add_one, List.getElem?_eq_getElem h, irun_app, List.getD_eq_getElem?_getD, List.getElem?_eq_getElem h]
  rfl
def isum (l : List Int) : Int := irun 65535 l
theorem isum_bd (l : List Int) : 0 ≤ isum l ∧ isum l < 65536 := irun_bd l (by omega)
theorem irnd {n : Nat} (h : n < 65536) : ixor .u16 ((n : Int) * 2 % 65536) ((n : Int) / 32768 * 4129) = (Crc.rnd n : Nat) := by
  rw [ixor_u16_n ⟨by omega, by omega⟩ ⟨by omega, by omega⟩]
  unfold Crc.rnd
  rw [show ((n : Int) * 2 % 65536).toNat = n * 2 % 65536 by omega, show ((n : Int) / 32768 * 4129).toNat = n / 32768 * 4129 % 65536 by omega]
theorem con_step (s b : Int) (hs : 0 ≤ s ∧ s < 65536) (hb : 0 ≤ b ∧ b < 256) : Con Try.prog 75 [] [u16 s, u8 b] [] (u16 (istep s b)) := by
  refine Con.of (C := ⟨Try.prog, tc, Try.f75.ntmps⟩) [] tcok Try.func75 rfl rfl (by kernel_rfl) (by kernel_rfl) ?_
  refine xe0 [0, 1, 4] [] (by kernel_rfl) ?_
  refine xe1 (os := [u16 (IntKind.wrap IntKind.u16 b) = u16 b, (0 : Int) ≤ (8 : Int), u16 (ishl IntKind.u16 b 8) = u16 (b * 256)]) [(2, ⟨some (u16 b), none⟩), (3, ⟨some (u16 (b * 256)), none⟩)] [0, 4] [] (by kernel_rfl) ⟨(wr_u16 (by omega) (by omega)), (by omega), (shl_u16 rfl (by omega) (by omega)), trivial⟩ ?_
  refine AWP.seq ?_
  refine xe0 [0, 4, 11] [] (by kernel_rfl) ?_
  refine AWP.block ?_
  have e : ixor .u16 s (b * 256) = ((s.toNat ^^^ b.toNat * 256 : Nat) : Int) := by
    rw [ixor_u16_n ⟨by omega, by omega⟩ ⟨by omega, by omega⟩, show (b * 256).toNat = b.toNat * 256 by omega]
  refine AWP.loopI [0, 4, 11] [] (fun N s' => ∃ (x : Nat) (y i : Int), s' = St.mk [(0, T.plain (u16 x)), (4, T.plain (u16 y)), (11, T.plain (i64 i))] []
      ∧ x = Crc.rnds i.toNat (s.toNat ^^^ b.toNat * 256) ∧ x < 65536 ∧ 0 ≤ i ∧ i ≤ 8 ∧ (N : Int) = 8 - i) 8 (s0 := St.mk [(0, T.plain (u16 (ixor IntKind.u16 s (b * 256)))), (4, T.plain (u16 0)), (11, T.plain (i64 0))] []) (by kernel_rfl) ?_ ?_
  · exact ⟨s.toNat ^^^ b.toNat * 256, 0, 0, by rw [e], rfl, Crc.mix_lt _ _ (by omega) (by omega), by omega, by omega, by omega⟩
  rintro N s' ⟨x, y, i, rfl, hx, hx2, hi, hi2, hN⟩
  refine xe0 [0, 4, 11, 12] [] (by kernel_rfl) ?_
  refine AWP.seq ?_
  refine AWP.cond (b := decide (i < 8)) (by kernel_rfl) (fun hq0 => ?_) (fun hq0 => ?_)
  · simp only [decide_eq_true_eq] at hq0
    refine AWP.skip ?_
    refine AWP.seq ?_
    refine AWP.block ?_
    refine xe1 (os := [(0 : Int) ≤ (15 : Int), u16 (ishr IntKind.u16 (↑x : Int) 15) = u16 ((↑x : Int) / 32768)]) [(1, ⟨some (u16 ((↑x : Int) / 32768)), none⟩)] [0, 4, 5, 11] [] (by kernel_rfl) ⟨(by omega), (shr_eq rfl (by decide)), trivial⟩ ?_
    refine AWP.region tcok hmix [(1, ⟨some (u16 ((↑x : Int) * 2 % 65536)), none⟩), (3, ⟨some (u16 ((↑x : Int) / 32768 * 4129)), none⟩)] (os := [(0 : Int) ≤ (1 : Int), u16 (ishl IntKind.u16 (↑x : Int) 1) = u16 ((↑x : Int) * 2 % 65536), u16 (IntKind.wrap IntKind.u16 ((↑x : Int) / 32768 * 4129)) = u16 ((↑x : Int) / 32768 * 4129)]) (sf := St.mk [(0, tp (u16 (ixor IntKind.u16 ((↑x : Int) * 2 % 65536) ((↑x : Int) / 32768 * 4129)))), (4, tp (u16 y)), (5, tp (u16 ((↑x : Int) / 32768))), (11, tp (i64 i)), (15, tp (u16 (↑x : Int))), (16, tp (u16 ((↑x : Int) * 2 % 65536))), (17, tp (u16 ((↑x : Int) / 32768))), (18, tp (u16 ((↑x : Int) / 32768 * 4129))), (19, tp (u16 (ixor IntKind.u16 ((↑x : Int) * 2 % 65536) ((↑x : Int) / 32768 * 4129))))] []) (by kernel_rfl) ⟨(by omega), (shm_u16 rfl), (wr_u16 (by omega) (by omega)), trivial⟩ ?_
    refine AWP.keep' [0, 4, 11] [] (sf := St.mk [(0, tp (u16 (ixor IntKind.u16 ((↑x : Int) * 2 % 65536) ((↑x : Int) / 32768 * 4129)))), (4, tp (u16 y)), (11, tp (i64 i))] []) (by kernel_rfl) ?_
    refine AWP.region tcok hmix [(0, ⟨some (i64 (i + 1)), none⟩)] (os := [i64 (IntKind.wrap IntKind.i64 (i + 1)) = i64 (i + 1)]) (sf := St.mk [(0, tp (u16 (ixor IntKind.u16 ((↑x : Int) * 2 % 65536) ((↑x : Int) / 32768 * 4129)))), (4, tp (u16 y)), (11, tp (i64 (i + 1))), (20, tp (i64 (i + 1)))] []) (by kernel_rfl) ⟨(wr_i64 (by omega) (by omega)), trivial⟩ ?_
    refine ⟨St.mk [(0, tp (u16 (ixor IntKind.u16 ((↑x : Int) * 2 % 65536) ((↑x : Int) / 32768 * 4129)))), (4, tp (u16 y)), (11, tp (i64 (i + 1)))] [], by kernel_rfl, ?_⟩
    first | (obtain rfl : i = 8 := (by omega); rw [hx]; rfl) | (exact ⟨(8 - (i + 1)).toNat, (by omega), Crc.rnd x, _, i + 1, (by rw [irnd hx2]), (by rw [hx, show (i + 1).toNat = i.toNat + 1 by omega]; rfl), Crc.rnd_lt _, (by omega), (by omega), (by omega)⟩)
  simp only [decide_eq_false_iff_not] at hq0
  refine AWP.exit ?_
  refine xe0 [4] [] (by kernel_rfl) ?_
  refine AWP.ret ?_
  refine ⟨Or.inr rfl, Eq.trans (b := some ([], u16 (↑x : Int))) (by kernel_rfl) ?_⟩
  first | (obtain rfl : i = 8 := (by omega); rw [hx]; rfl) | (exact ⟨(8 - (i + 1)).toNat, (by omega), Crc.rnd x, _, i + 1, (by rw [irnd hx2]), (by rw [hx, show (i + 1).toNat = i.toNat + 1 by omega]; rfl), Crc.rnd_lt _, (by omega), (by omega), (by omega)⟩)
/-- What is in a table. -/
def TabOk (tv : List V) : Prop := tv.length = 256 ∧ ∀ k, k < 256 → gI tv k = u16 (Crc.tab k : Nat)
def tabTo (k : Nat) : List V := (List.range k).map (fun k => u16 (Crc.tab k : Nat)) ++ List.replicate (256 - k) (u16 0)
theorem tabTo_len {k : Nat} (h : k ≤ 256) : (tabTo k).length = 256 := by simp [tabTo]; omega
theorem tabTo_set {k : Nat} (h : k < 256) : (tabTo k).set k (u16 (istep 0 k)) = tabTo (k + 1) := by
  unfold tabTo
  rw [List.set_append, if_neg (by simp), show 256 - k = (256 - (k + 1)) + 1 by omega, List.replicate_succ, List.range_succ, List.map_append, List.append_assoc]
  simp [istep, Crc.tab]
theorem tab_next {cs : List V} {i : Int} (hcs : cs = tabTo i.toNat) (h0 : 0 ≤ i) (h1 : i < 256) : putC (1 == 1) cs (0 + i.toNat * 1) [u16 (istep 0 i)] = tabTo (i + 1).toNat := by
  have := tabTo_set (k := i.toNat) (by omega)
  rw [show ((i.toNat : Nat) : Int) = i by omega, ← hcs] at this
  rw [show (i + 1).toNat = i.toNat + 1 by omega, show 0 + i.toNat * 1 = i.toNat by omega]
  exact this
theorem tab_all {cs : List V} {i : Int} (hcs : cs = tabTo i.toNat) (h0 : 256 ≤ i) (h1 : i ≤ 256) : cs = (List.range 256).map fun k => u16 (Crc.tab k : Nat) := by
  obtain rfl : i = 256 := by omega
  rw [hcs]
  show tabTo 256 = _
  unfold tabTo
  rw [Nat.sub_self, List.replicate_zero, List.append_nil]
theorem con_make : ∃ tv, TabOk tv ∧ Con Try.prog 65 [] [] [] (.agg true tv) := by
  refine ⟨(List.range 256).map fun k => u16 (Crc.tab k : Nat), ⟨by simp, fun k hk => by simp [gI, hk]⟩, ?_⟩
  have fdn0 : List.replicate 256 (u16 0) = List.replicate 256 (u16 0) := rfl
  refine Con.of (C := ⟨Try.prog, tc, Try.f65.ntmps⟩) [] tcok Try.func65 rfl rfl (by kernel_rfl) (by kernel_rfl) ?_
  refine xe0 [0] [0] (by kernel_rfl) ?_
  refine xe0 [0, 1] [0, 1] (by kernel_rfl) ?_
  refine AWP.seq ?_
  refine xe0 [0, 1, 3] [0, 1] (by kernel_rfl) ?_
  refine AWP.block ?_
  refine AWP.loopI [0, 1, 3] [0, 1] (fun N s' => ∃ (cs : List V) (i : Int), s' = St.mk [(0, T.plain (V.ptr 0 0)), (1, T.plain (V.ptr 1 0)), (3, T.plain (i64 i))] [(0, Blk.mk (List.replicate 256 (u16 0)) true 256 none), (1, Blk.mk cs true 256 none)]
      ∧ cs = tabTo i.toNat ∧ 0 ≤ i ∧ i ≤ 256 ∧ (N : Int) = 256 - i) 256 (s0 := St.mk [(0, T.plain (V.ptr 0 0)), (1, T.plain (V.ptr 1 0)), (3, T.plain (i64 0))] [(0, Blk.mk (List.replicate 256 (u16 0)) true 256 none), (1, Blk.mk (List.replicate 256 (u16 0)) true 256 none)]) (by kernel_rfl) ?_ ?_
  · exact ⟨_, 0, rfl, rfl, by omega, by omega, by omega⟩
  rintro N s' ⟨cs, i, rfl, hcs, hi, hi2, hN⟩
  have hl : cs.length = 256 := by rw [hcs]; exact tabTo_len (by omega)
  refine xe0 [0, 1, 3, 4] [0, 1] (by kernel_rfl) ?_
  refine AWP.seq ?_
  refine AWP.cond (b := decide (i < 256)) (by kernel_rfl) (fun hq1 => ?_) (fun hq1 => ?_)
  · simp only [decide_eq_true_eq] at hq1
    refine AWP.skip ?_
    refine AWP.seq ?_
    refine AWP.block ?_
    refine xe0 [0, 1, 2, 3] [0, 1] (by kernel_rfl) ?_
    refine AWP.region tcok hmix [(2, ⟨some (u8 i), none⟩), (3, ⟨none, some ⟨u16 (istep 0 i), [], []⟩⟩), (4, ⟨some (V.ptr 1 (0 + Int.toNat i * 1)), none⟩), (5, ⟨some V.top, none⟩)] (os := [u8 (IntKind.wrap IntKind.u8 i) = u8 i, Con Try.prog 75 [] [u16 0, u8 i] [] (u16 (istep 0 i)), (0 : Int) ≤ i ∧ i < (↑(256 : Nat) : Int), V.ptr 1 (0 + Int.toNat i * 1) = V.ptr 1 (0 + Int.toNat i * 1), (1 : Nat) = (1 : Nat), (0 : Nat) + Int.toNat i * (1 : Nat) + (1 : Nat) ≤ List.length cs]) (sf := St.mk [(0, tp (V.ptr 0 0)), (1, tp (V.ptr 1 0)), (2, tp (i64 i)), (3, tp (i64 i)), (6, tp (i64 i)), (7, tp (i64 i)), (8, tp (u8 i)), (9, tp (u16 (istep 0 i))), (10, tp (V.ptr 1 (0 + Int.toNat i * 1)))] [(0, Blk.mk (List.replicate 256 (u16 0)) true 256 none), (1, Blk.mk (putC (1 == 1) cs (0 + Int.toNat i * 1) [u16 (istep 0 i)]) true 256 none)]) (by kernel_rfl) ⟨(wr_u8 (by omega) (by omega)), (con_step (0) (i) (by omega) (by omega)), (by omega), rfl, (by omega), (by omega), trivial⟩ ?_
    refine AWP.keep' [0, 1, 3] [0, 1] (sf := St.mk [(0, tp (V.ptr 0 0)), (1, tp (V.ptr 1 0)), (3, tp (i64 i))] [(0, Blk.mk (List.replicate 256 (u16 0)) true 256 none), (1, Blk.mk (putC (1 == 1) cs (0 + Int.toNat i * 1) [u16 (istep 0 i)]) true 256 none)]) (by kernel_rfl) ?_
    refine AWP.region tcok hmix [(0, ⟨some (i64 (i + 1)), none⟩)] (os := [i64 (IntKind.wrap IntKind.i64 (i + 1)) = i64 (i + 1)]) (sf := St.mk [(0, tp (V.ptr 0 0)), (1, tp (V.ptr 1 0)), (3, tp (i64 (i + 1))), (11, tp (i64 (i + 1)))] [(0, Blk.mk (List.replicate 256 (u16 0)) true 256 none), (1, Blk.mk (putC (1 == 1) cs (0 + Int.toNat i * 1) [u16 (istep 0 i)]) true 256 none)]) (by kernel_rfl) ⟨(wr_i64 (by omega) (by omega)), trivial⟩ ?_
    refine ⟨St.mk [(0, tp (V.ptr 0 0)), (1, tp (V.ptr 1 0)), (3, tp (i64 (i + 1)))] [(0, Blk.mk (List.replicate 256 (u16 0)) true 256 none), (1, Blk.mk (putC (1 == 1) cs (0 + Int.toNat i * 1) [u16 (istep 0 i)]) true 256 none)], by kernel_rfl, ?_⟩
    first | (have e := tab_all hcs (by omega) hi2; rw [e]; done) | (exact ⟨(256 - (i + 1)).toNat, (by omega), _, i + 1, rfl, tab_next hcs hi (by omega), (by omega), (by omega), (by omega)⟩)
  simp only [decide_eq_false_iff_not] at hq1
  refine AWP.exit ?_
  refine xe1 (os := [List.length cs = (256 : Nat), (0 : Nat) = (0 : Nat)]) [(1, ⟨some V.top, none⟩)] [0] [0] (by kernel_rfl) ⟨(by omega), (by omega), trivial⟩ ?_
  refine AWP.ret ?_
  refine ⟨Or.inr rfl, Eq.trans (b := some ([], V.agg true cs)) (by kernel_rfl) ?_⟩
  first | (have e := tab_all hcs (by omega) hi2; rw [e]; done) | (exact ⟨(256 - (i + 1)).toNat, (by omega), _, i + 1, rfl, tab_next hcs hi (by omega), (by omega), (by omega), (by omega)⟩)
theorem con_clone0 : Con Try.prog 68 [] [.vs (u8s []) 0] [(5, ⟨u8s [], true, 0, some (5, 1)⟩)] (.sl 5 0 0) := by
  refine Con.of (C := ⟨Try.prog, tc, Try.f68.ntmps⟩) [5] tcok Try.func68 rfl rfl (by kernel_rfl) (by kernel_rfl) ?_
  refine xe0 [0, 2] [2] (by kernel_rfl) ?_
  refine AWP.seq ?_
  refine xe0 [0, 2, 4] [2] (by kernel_rfl) ?_
  refine AWP.condB (by kernel_rfl) ?_ ?_
  · refine AWP.seq ?_
    refine AWP.keep' [0] [] (sf := St.mk [(0, T.plain (V.vs [] 0))] []) (by kernel_rfl) ?_
    refine xg0 [0, 2] [2] (by kernel_rfl) ?_
    refine AWP.shift 3 (s' := St.mk [(0, T.plain (V.vs [] 0)), (2, T.plain (V.sl 5 0 0))] [(5, Blk.mk [] true 0 (some (5, 1)))]) (by kernel_rfl) rfl ?_
    refine AWP.ret ?_
    refine ⟨Or.inr rfl, Eq.trans (b := some ([(5, Blk.mk [] true 0 (some (5, 1)))], V.sl 5 0 0)) (by kernel_rfl) ?_⟩
    rfl
  refine AWP.skip ?_
  refine AWP.seq ?_
  refine AWP.keep' [0] [] (sf := St.mk [(0, tp (V.vs [] 0))] []) (by kernel_rfl) ?_
  refine xg0 [2] [5] (by kernel_rfl) ?_
  refine AWP.ret ?_
  refine ⟨Or.inr rfl, Eq.trans (b := some ([(5, Blk.mk [] true 0 (some (5, 1)))], V.sl 5 0 0)) (by kernel_rfl) ?_⟩
  rfl
theorem con_clone1 (l : List Int) (h0 : 0 < l.length) (hlen : l.length ≤ 140737488355328) : Con Try.prog 68 [] [.vs (u8s l) l.length] [(5, ⟨u8s l, true, 0, some (5, 1)⟩)] (.sl 5 0 l.length) := by
  refine Con.of (C := ⟨Try.prog, tc, Try.f68.ntmps⟩) [5] tcok Try.func68 rfl rfl (by kernel_rfl) (by kernel_rfl) ?_
  refine xe0 [0, 2] [2] (by kernel_rfl) ?_
  refine AWP.seq ?_
  refine xe1 (os := [(0 : Nat) < List.length l, vb false = vb false]) [(1, ⟨some (vb false), none⟩)] [0, 2, 4] [2] (by kernel_rfl) ⟨(by omega), rfl, trivial⟩ ?_
  refine AWP.condF (by kernel_rfl) ?_
  refine AWP.skip ?_
  refine AWP.seq ?_
  refine AWP.keep' [0] [] (sf := St.mk [(0, tp (B8 l))] []) (by kernel_rfl) ?_
  refine xg1 (os := [List.length l * (1 : Nat) ≤ List.length (u8s l), (0 : Nat) = (0 : Nat), (0 : Nat) + List.length l ≤ (9223372036854775807 : Nat), ((0 : Nat) + List.length l) * (1 : Nat) ≤ (140737488355328 : Nat), [] ++ List.take (List.length l * (1 : Nat)) (u8s l) = u8s l, (0 : Nat) + List.length l = List.length l]) [(2, ⟨some (V.tup [V.agg true (u8s l), V.sl 0 0 (List.length l)]), none⟩)] [2] [5] (by kernel_rfl) ⟨(by (simp [len_u8s]; done)), (by omega), (by omega), (by omega), (by first | rfl | (show u8s ([]) ++ _ = _; simp only [u8s_drop, u8s_take, List.drop_zero, Nat.mul_one, Nat.one_mul, u8s_app, List.take_length, List.nil_append, List.append_nil]; done) | (simp [u8s]; done) | (simp [u8s]; omega)), (by omega), trivial⟩ ?_
  refine AWP.ret ?_
  refine ⟨Or.inr rfl, Eq.trans (b := some ([(5, Blk.mk (u8s l) true 0 (some (5, 1)))], V.sl 5 0 (List.length l))) (by kernel_rfl) ?_⟩
  rfl
theorem con_clone (l : List Int) (n : Nat) (hn : l.length = n) (hlen : n ≤ 140737488355328) : Con Try.prog 68 [] [.vs (u8s l) n] [(5, ⟨u8s l, true, 0, some (5, 1)⟩)] (.sl 5 0 n) := by
  subst hn
  cases l with
  | nil => exact con_clone0
  | cons b l => exact con_clone1 _ (by simp) hlen
theorem istep_tab {x b : Int} (hx : 0 ≤ x ∧ x < 65536) (hb : 0 ≤ b ∧ b < 256) : ixor .u16 (x * 256 % 65536) ((Crc.tab (0 + (ixor .u8 (x / 256) b).toNat * 1) : Nat) : Int) = istep x b := by
  have ht := Crc.tab_lt (0 + (ixor .u8 (x / 256) b).toNat * 1)
  rw [ixor_u16_n ⟨by omega, by omega⟩ ⟨by omega, by omega⟩, ixor_u8_n ⟨by omega, by omega⟩ hb]
  unfold istep
  rw [Crc.step_tab x.toNat b.toNat (by omega) (by omega), show (x * 256 % 65536).toNat = x.toNat * 256 % 65536 by omega, show (x / 256).toNat = x.toNat / 256 by omega]
  simp
theorem con_tsum (tv : List V) (ht : TabOk tv) (l : List Int) (n : Nat) (hn : l.length = n) (hl : BL l) (hlen : n ≤ 140737488355328) : Con Try.prog 76 [] [.agg true tv, .vs [.vs (u8s l) n] 1] [] (u16 (isum l)) := by
  have hl0 := ht.1
  refine Con.of (C := ⟨Try.prog, tc, Try.f76.ntmps⟩) [] tcok Try.func76 rfl rfl (by kernel_rfl) (by kernel_rfl) ?_
  refine xe1 (os := [List.length tv = (256 : Nat)]) [(0, ⟨some V.top, none⟩)] [1, 2, 4] [2] (by kernel_rfl) ⟨(by omega), trivial⟩ ?_
  refine xe0 [1, 2, 4, 5] [2] (by kernel_rfl) ?_
  refine AWP.seq ?_
  refine xe0 [2, 4, 5, 10, 11, 12] [2] (by kernel_rfl) ?_
  refine AWP.block ?_
  refine AWP.unroll 2 ?_
  refine xe0 [2, 4, 5, 10, 11, 12, 13] [2] (by kernel_rfl) ?_
  refine AWP.seq ?_
  refine AWP.condT (by kernel_rfl) ?_
  refine AWP.skip ?_
  refine AWP.seq ?_
  refine AWP.block ?_
  refine xe0 [2, 4, 5, 7, 10, 11, 12, 13, 14, 15] [2] (by kernel_rfl) ?_
  refine xe0 [2, 4, 5, 7, 10, 11, 12, 13, 14, 15, 16, 17, 18] [2] (by kernel_rfl) ?_
  refine AWP.block ?_
  have hwg := ht.2
  have wgt : ∀ k, k < 256 → gI tv k = u16 (Crc.tab k : Nat) := hwg
  refine AWP.loopI [2, 5, 10, 11, 12, 16, 17, 18] [2] (fun N s' => ∃ (x i : Int), s' = St.mk [(2, T.plain (V.ptr 2 0)), (5, T.plain (u16 x)), (10, T.plain (V.vs [V.vs (u8s l) n] 1)), (11, T.plain (i64 1)), (12, T.plain (i64 0)), (16, T.plain (V.vs (u8s l) n)), (17, T.plain (i64 (n : Int))), (18, T.plain (i64 i))] [(2, Blk.mk tv true 256 none)]
      ∧ x = irun 65535 (l.take i.toNat) ∧ 0 ≤ i ∧ i ≤ n ∧ (N : Int) = n - i) n (s0 := St.mk [(2, T.plain (V.ptr 2 0)), (5, T.plain (u16 65535)), (10, T.plain (V.vs [V.vs (u8s l) n] 1)), (11, T.plain (i64 1)), (12, T.plain (i64 0)), (16, T.plain (V.vs (u8s l) n)), (17, T.plain (i64 (n : Int))), (18, T.plain (i64 0))] [(2, Blk.mk tv true 256 none)]) (by kernel_rfl) ?_ ?_
  · exact ⟨65535, 0, rfl, rfl, by omega, by omega, by omega⟩
  rintro N s' ⟨x, i, rfl, hx, hi, hi2, hN⟩
  have hxb := irun_bd (s := 65535) (l.take i.toNat) (by omega)
  rw [← hx] at hxb
  have kx := u8s_at l i.toNat
  have hbb := hl.at_ i.toNat
  have hix := ixor_u8_bd (x / 256) (l.getD i.toNat 0)
  refine xe0 [2, 5, 10, 11, 12, 16, 17, 18, 19] [2] (by kernel_rfl) ?_
  refine AWP.seq ?_
  refine AWP.cond (b := decide (i < (↑n : Int))) (by kernel_rfl) (fun hq4 => ?_) (fun hq4 => ?_)
  · simp only [decide_eq_true_eq] at hq4
    refine AWP.skip ?_
    refine AWP.seq ?_
    refine AWP.block ?_
    refine xe1 (os := [(0 : Int) ≤ i ∧ i < (↑n : Int), V.vp (List.drop (Int.toNat i * 1) (u8s l)) = V.vp (u8 (List.getD l (Int.toNat i) 0) :: u8s (List.drop (Int.toNat i + 1) l))]) [(0, ⟨some (V.vp (u8 (List.getD l (Int.toNat i) 0) :: u8s (List.drop (Int.toNat i + 1) l))), none⟩)] [2, 5, 9, 10, 11, 12, 16, 17, 18, 19, 20, 21] [2] (by kernel_rfl) ⟨(by omega), (congrArg V.vp (kx (by omega))), trivial⟩ ?_
    refine AWP.region tcok hmix [(1, ⟨some (u16 (x * 256 % 65536)), none⟩), (3, ⟨some (u16 (x / 256)), none⟩), (4, ⟨some (u8 (x / 256)), none⟩), (7, ⟨some (V.ptr 2 (0 + Int.toNat (ixor IntKind.u8 (x / 256) (List.getD l (Int.toNat i) 0)) * 1)), none⟩), (8, ⟨some (u16 (↑(Crc.tab (0 + Int.toNat (ixor IntKind.u8 (x / 256) (List.getD l (Int.toNat i) 0)) * 1)) : Int)), none⟩)] (os := [(0 : Int) ≤ (8 : Int), u16 (ishl IntKind.u16 x 8) = u16 (x * 256 % 65536), (0 : Int) ≤ (8 : Int), u16 (ishr IntKind.u16 x 8) = u16 (x / 256), u8 (IntKind.wrap IntKind.u8 (x / 256)) = u8 (x / 256), (0 : Int) ≤ ixor IntKind.u8 (x / (256 : Int)) (List.getD l (Int.toNat i) (0 : Int)) ∧ ixor IntKind.u8 (x / (256 : Int)) (List.getD l (Int.toNat i) (0 : Int)) < (↑(256 : Nat) : Int), V.ptr 2 (0 + Int.toNat (ixor IntKind.u8 (x / 256) (List.getD l (Int.toNat i) 0)) * 1) = V.ptr 2 (0 + Int.toNat (ixor IntKind.u8 (x / 256) (List.getD l (Int.toNat i) 0)) * 1), (0 : Nat) + Int.toNat (ixor IntKind.u8 (x / (256 : Int)) (List.getD l (Int.toNat i) (0 : Int))) * (1 : Nat) + (1 : Nat) ≤ List.length tv, part_ true (isRow (TypeDesc.int IntKind.u16)) tv (0 + Int.toNat (ixor IntKind.u8 (x / 256) (List.getD l (Int.toNat i) 0)) * 1) 1 = u16 (↑(Crc.tab (0 + Int.toNat (ixor IntKind.u8 (x / 256) (List.getD l (Int.toNat i) 0)) * 1)) : Int)]) (sf := St.mk [(2, tp (V.ptr 2 0)), (5, tp (u16 (ixor IntKind.u16 (x * 256 % 65536) (↑(Crc.tab (0 + Int.toNat (ixor IntKind.u8 (x / 256) (List.getD l (Int.toNat i) 0)) * 1)) : Int)))), (9, tp (u8 (List.getD l (Int.toNat i) 0))), (10, tp (V.vs [V.vs (u8s l) n] 1)), (11, tp (i64 1)), (12, tp (i64 0)), (16, tp (V.vs (u8s l) n)), (17, tp (i64 (↑n : Int))), (18, tp (i64 i)), (19, tp (vb (decide (i < (↑n : Int))))), (20, tp (V.vp (u8 (List.getD l (Int.toNat i) 0) :: u8s (List.drop (Int.toNat i + 1) l)))), (21, tp (u8 (List.getD l (Int.toNat i) 0))), (22, tp (u16 x)), (23, tp (u16 (x * 256 % 65536))), (24, tp (u16 x)), (25, tp (u16 (x / 256))), (26, tp (u8 (x / 256))), (27, tp (u8 (List.getD l (Int.toNat i) 0))), (28, tp (u8 (ixor IntKind.u8 (x / 256) (List.getD l (Int.toNat i) 0)))), (29, tp (V.ptr 2 (0 + Int.toNat (ixor IntKind.u8 (x / 256) (List.getD l (Int.toNat i) 0)) * 1))), (30, tp (u16 (↑(Crc.tab (0 + Int.toNat (ixor IntKind.u8 (x / 256) (List.getD l (Int.toNat i) 0)) * 1)) : Int))), (31, tp (u16 (ixor IntKind.u16 (x * 256 % 65536) (↑(Crc.tab (0 + Int.toNat (ixor IntKind.u8 (x / 256) (List.getD l (Int.toNat i) 0)) * 1)) : Int))))] [(2, Blk.mk tv true 256 none)]) (by kernel_rfl) ⟨(by omega), (shm_u16 rfl), (by omega), (shr_eq rfl (by decide)), (wr_u8 (by omega) (by omega)), (by omega), rfl, (by omega), (wgt _ (by first | omega | (simp [len_u8s]; omega) | (simp [len_u8s]; done))), trivial⟩ ?_
    refine AWP.region tcok hmix [(0, ⟨some (i64 (i + 1)), none⟩)] (os := [i64 (IntKind.wrap IntKind.i64 (i + 1)) = i64 (i + 1)]) (sf := St.mk [(2, tp (V.ptr 2 0)), (5, tp (u16 (ixor IntKind.u16 (x * 256 % 65536) (↑(Crc.tab (0 + Int.toNat (ixor IntKind.u8 (x / 256) (List.getD l (Int.toNat i) 0)) * 1)) : Int)))), (9, tp (u8 (List.getD l (Int.toNat i) 0))), (10, tp (V.vs [V.vs (u8s l) n] 1)), (11, tp (i64 1)), (12, tp (i64 0)), (16, tp (V.vs (u8s l) n)), (17, tp (i64 (↑n : Int))), (18, tp (i64 (i + 1))), (19, tp (vb (decide (i < (↑n : Int))))), (20, tp (V.vp (u8 (List.getD l (Int.toNat i) 0) :: u8s (List.drop (Int.toNat i + 1) l)))), (21, tp (u8 (List.getD l (Int.toNat i) 0))), (22, tp (u16 x)), (23, tp (u16 (x * 256 % 65536))), (24, tp (u16 x)), (25, tp (u16 (x / 256))), (26, tp (u8 (x / 256))), (27, tp (u8 (List.getD l (Int.toNat i) 0))), (28, tp (u8 (ixor IntKind.u8 (x / 256) (List.getD l (Int.toNat i) 0)))), (29, tp (V.ptr 2 (0 + Int.toNat (ixor IntKind.u8 (x / 256) (List.getD l (Int.toNat i) 0)) * 1))), (30, tp (u16 (↑(Crc.tab (0 + Int.toNat (ixor IntKind.u8 (x / 256) (List.getD l (Int.toNat i) 0)) * 1)) : Int))), (31, tp (u16 (ixor IntKind.u16 (x * 256 % 65536) (↑(Crc.tab (0 + Int.toNat (ixor IntKind.u8 (x / 256) (List.getD l (Int.toNat i) 0)) * 1)) : Int)))), (32, tp (i64 (i + 1)))] [(2, Blk.mk tv true 256 none)]) (by kernel_rfl) ⟨(wr_i64 (by omega) (by omega)), trivial⟩ ?_
    refine ⟨St.mk [(2, tp (V.ptr 2 0)), (5, tp (u16 (ixor IntKind.u16 (x * 256 % 65536) (↑(Crc.tab (0 + Int.toNat (ixor IntKind.u8 (x / 256) (List.getD l (Int.toNat i) 0)) * 1)) : Int)))), (10, tp (V.vs [V.vs (u8s l) n] 1)), (11, tp (i64 1)), (12, tp (i64 0)), (16, tp (V.vs (u8s l) n)), (17, tp (i64 (↑n : Int))), (18, tp (i64 (i + 1)))] [(2, Blk.mk tv true 256 none)], by kernel_rfl, ?_⟩
    first | (have e : x = isum l := (by rw [hx, List.take_of_length_le (by omega)]; rfl); rw [e]; done) | (exact ⟨(n - (i + 1)).toNat, (by omega), _, i + 1, rfl, (by rw [istep_tab hxb hbb, hx, show (i + 1).toNat = i.toNat + 1 by omega]; exact (irun_take (by omega)).symm), (by omega), (by omega), (by omega)⟩)
  simp only [decide_eq_false_iff_not] at hq4
  refine AWP.exit ?_
  refine AWP.region tcok hmix [] (os := []) (sf := St.mk [(2, tp (V.ptr 2 0)), (5, tp (u16 x)), (10, tp (V.vs [V.vs (u8s l) n] 1)), (11, tp (i64 1)), (12, tp (i64 1)), (16, tp (V.vs (u8s l) n)), (17, tp (i64 (↑n : Int))), (18, tp (i64 i)), (19, tp (vb (decide (i < (↑n : Int))))), (33, tp (i64 1))] [(2, Blk.mk tv true 256 none)]) (by kernel_rfl) trivial ?_
  refine xe0 [2, 5, 10, 11, 12, 13, 16, 17, 18, 19, 33] [2] (by kernel_rfl) ?_
  refine AWP.seq ?_
  refine AWP.condF (by kernel_rfl) ?_
  refine AWP.exit ?_
  refine xe0 [4] [] (by kernel_rfl) ?_
  refine AWP.ret ?_
  refine ⟨Or.inr rfl, Eq.trans (b := some ([], u16 x)) (by kernel_rfl) ?_⟩
  first | (have e : x = isum l := (by rw [hx, List.take_of_length_le (by omega)]; rfl); rw [e]; done) | (exact ⟨(n - (i + 1)).toNat, (by omega), _, i + 1, rfl, (by rw [istep_tab hxb hbb, hx, show (i + 1).toNat = i.toNat + 1 by omega]; exact (irun_take (by omega)).symm), (by omega), (by omega), (by omega)⟩)
end Go.Proofs.Ytmeiemdnhjnpcaa
