/- The document's words: cut at spaces. -/
import Derived.Test.YtieoaeidlcdggaaDoorRg
import Derived.Test.YtieoaeidlcdggaaDoorGsE
namespace Go.Proofs.YtieoaeidlcdggaaDoor
open Go Go.Ab
set_option linter.unusedSimpArgs false
set_option linter.unusedVariables false
set_option maxRecDepth 100000
/-- What is cut off so far, and what is left. -/
def spI (s : ByteArray) (o : List ByteArray) (f i : Nat) : Prop := o ++ (spg ((s.data.toList.drop f).take (i - f)) (s.data.toList.drop i)).map bb = spl s
theorem ext_bb (s : ByteArray) (f i : Nat) : s.extract f i = bb ((s.data.toList.drop f).take (i - f)) := by
  apply ba_ext
  rw [bb_list, Lib.extract_data]
theorem spI_len {s : ByteArray} {o : List ByteArray} {f i : Nat} (h : spI s o f i) : o.length ≤ s.size + 1 := by
  have := congrArg List.length h
  rw [List.length_append] at this
  have := spl_len s
  omega
theorem sAt_drop {s : ByteArray} {i : Nat} (h : i < s.size) : ∃ b, s.data.toList.drop i = b :: s.data.toList.drop (i + 1) ∧ sAt s i = (b.toNat : Int) ∧ s.data.toList[i]? = some b := by
  have h' : i < s.data.toList.length := by rw [ba_len]; exact h
  refine ⟨s.data.toList[i], List.drop_eq_getElem_cons h', ?_, List.getElem?_eq_getElem h'⟩
  unfold sAt
  rw [List.getD_eq_getElem?_getD, List.getElem?_eq_getElem h']
  rfl
theorem spI_end {s : ByteArray} {o : List ByteArray} {f i : Nat} (h : spI s o f i) (hi : s.size ≤ i) : o ++ [s.extract f i] = spl s := by
  unfold spI at h
  have e : s.data.toList.drop i = [] := List.drop_eq_nil_of_le (by rw [ba_len]; exact hi)
  rw [e] at h
  rw [ext_bb]
  exact h
theorem spI_cut {s : ByteArray} {o : List ByteArray} {f i : Nat} (h : spI s o f i) (hi : i < s.size) (h32 : sAt s i = 32) : spI s (o ++ [s.extract f i]) (i + 1) (i + 1) := by
  obtain ⟨b, hd, hb, _⟩ := sAt_drop hi
  have : b = 32 := UInt8.toNat_inj.1 (by rw [hb] at h32; exact Int.ofNat.inj h32)
  subst this
  unfold spI at h ⊢
  rw [hd, spg, if_pos rfl, List.map_cons] at h
  rw [← h, ext_bb]
  simp
theorem spI_on {s : ByteArray} {o : List ByteArray} {f i : Nat} (h : spI s o f i) (hf : f ≤ i) (hi : i < s.size) (h32 : sAt s i ≠ 32) : spI s o f (i + 1) := by
  obtain ⟨b, hd, hb, hg⟩ := sAt_drop hi
  have hb' : ¬ b = 32 := fun e => h32 (by rw [hb, e]; rfl)
  unfold spI at h ⊢
  rw [hd, spg, if_neg hb'] at h
  rw [← h, show i + 1 - f = (i - f) + 1 by omega, List.take_add_one, List.getElem?_drop, show f + (i - f) = i by omega, hg]
  rfl
theorem con_rsplit (s : ByteArray) (hs : s.size ≤ 1000000) : Con Tryd.prog 17 [] [strV s, u8 32] [(5, ⟨(spl s).map strV, true, 0, some (9, 1)⟩)] (.sl 5 0 (spl s).length) := by
  refine Con.of (C := ⟨Tryd.prog, tc, Tryd.f17.ntmps⟩) [5] tcok Tryd.func17 rfl rfl (by kernel_rfl) (by kernel_rfl) ?_
  refine AWP.seq ?_
  refine AWP.regionT tcok hmix [] [0, 1, 4] [4] (os := []) (s' := St.mk [(0, tp (V.val (Value.string s))), (1, tp (u8 32)), (4, tp (V.sl 4 0 0))] [(4, Blk.mk [] true 0 (some (9, 1)))]) (by kernel_rfl) trivial ?_
  refine xe0 [0, 1, 4, 5] [4, 5] (by kernel_rfl) ?_
  refine xe0 [0, 1, 4, 5, 6] [4, 5] (by kernel_rfl) ?_
  refine AWP.seq ?_
  refine xe0 [0, 1, 4, 5, 6, 7] [4, 5] (by kernel_rfl) ?_
  refine AWP.block ?_
  refine AWP.loopI [0, 1, 4, 5, 6, 7] [4, 5] (fun N st => ∃ (i f : Int) (o : List ByteArray), st = St.mk [(0, T.plain (strV s)), (1, T.plain (u8 32)), (4, T.plain (V.sl 4 0 0)), (5, T.plain (V.sl 5 0 o.length)), (6, T.plain (i64 f)), (7, T.plain (i64 i))] [(4, Blk.mk [] true 0 (some (9, 1))), (5, Blk.mk (o.map strV) true 0 (some (9, 1)))]
      ∧ (i ≤ s.size → spI s o f.toNat i.toNat) ∧ (¬ i ≤ s.size → o = spl s) ∧ 0 ≤ f ∧ f ≤ i ∧ i ≤ s.size + 1 ∧ (i ≤ s.size → f ≤ s.size) ∧ (N : Int) = s.size + 1 - i) (s.size + 1) (s0 := St.mk [(0, T.plain (strV s)), (1, T.plain (u8 32)), (4, T.plain (V.sl 4 0 0)), (5, T.plain (V.sl 5 0 0)), (6, T.plain (i64 0)), (7, T.plain (i64 0))] [(4, Blk.mk [] true 0 (some (9, 1))), (5, Blk.mk [] true 0 (some (9, 1)))]) (by kernel_rfl) ?_ ?_
  · exact ⟨0, 0, [], rfl, fun _ => by simp [spI, spl], fun h => absurd (by omega) h, by omega, by omega, by omega, fun _ => by omega, by omega⟩
  rintro N st ⟨i, f, o, rfl, hsp, hfin, hf, hfi, hi, hfs, hN⟩
  have hol : i ≤ s.size → o.length ≤ 1000001 := fun h => by
    have := spI_len (hsp h)
    omega
  have hol2 : ¬ i ≤ s.size → o.length ≤ 1000001 := fun h => by
    have := spl_len s
    rw [hfin h]
    omega
  refine AWP.seq ?_
  refine AWP.seq ?_
  refine AWP.regionT tcok hmix [] [0, 1, 4, 5, 6, 7, 11] [4, 5] (os := []) (s' := St.mk [(0, tp (V.val (Value.string s))), (1, tp (u8 32)), (4, tp (V.sl 4 0 0)), (5, tp (V.sl 5 0 (List.length o))), (6, tp (i64 f)), (7, tp (i64 i)), (11, tp (vb (decide (i ≤ (↑(ByteArray.size s) : Int)))))] [(4, Blk.mk [] true 0 (some (9, 1))), (5, Blk.mk (List.map strV o) true 0 (some (9, 1)))]) (by kernel_rfl) trivial ?_
  refine AWP.cond (b := decide (i ≤ (↑(ByteArray.size s) : Int))) (by kernel_rfl) (fun hq0 => ?_) (fun hq0 => ?_)
  · simp only [decide_eq_true_eq] at hq0
    refine AWP.skip ?_
    refine AWP.seq ?_
    refine AWP.block ?_
    refine AWP.seq ?_
    refine AWP.regionT tcok hmix [(7, ⟨some (u8 (sAt s (Int.toNat i))), none⟩)] [0, 1, 4, 5, 6, 7, 24] [4, 5] (os := [(i == (↑(ByteArray.size s) : Int)) = false → ((0 : Int) ≤ i ∧ i < (↑(ByteArray.size s) : Int)) ∧ u8 (sAt s (Int.toNat i)) = u8 (sAt s (Int.toNat i)) ∧ True]) (s' := St.mk [(0, tp (V.val (Value.string s))), (1, tp (u8 32)), (4, tp (V.sl 4 0 0)), (5, tp (V.sl 5 0 (List.length o))), (6, tp (i64 f)), (7, tp (i64 i)), (24, tp (vb (i == (↑(ByteArray.size s) : Int) || sAt s (Int.toNat i) == 32)))] [(4, Blk.mk [] true 0 (some (9, 1))), (5, Blk.mk (List.map strV o) true 0 (some (9, 1)))]) (by kernel_rfl) ⟨(by intro hc0; first | (cases hc0; done) | ((try simp only [Bool.or_false, Bool.false_or, Bool.true_and, Bool.and_true, decide_eq_true_eq, decide_eq_false_iff_not, Bool.and_eq_true, Bool.or_eq_true, Bool.or_eq_false_iff, Bool.not_eq_true', Bool.and_eq_false_iff, beq_iff_eq, bne_iff_ne, bne_eq_false_iff_eq, beq_eq_false_iff_ne, Bool.not_eq_false'] at hc0); exact ⟨(by first | omega | (simp [len_u8s]; omega) | (simp [len_u8s]; done)), rfl, trivial⟩)), trivial⟩ ?_
    refine AWP.cond (b := i == (↑(ByteArray.size s) : Int) || sAt s (Int.toNat i) == 32) (by kernel_rfl) (fun hq1 => ?_) (fun hq1 => ?_)
    · simp only [Bool.or_eq_true, beq_iff_eq] at hq1
      refine AWP.seq ?_
      refine AWP.regionT tcok hmix [(4, ⟨some (V.val (Value.string (ByteArray.extract s (Int.toNat f) (Int.toNat i)))), none⟩), (6, ⟨some (V.tup [V.agg true (List.map strV o ++ [V.val (Value.string (ByteArray.extract s (Int.toNat f) (Int.toNat i)))]), V.sl 0 0 (List.length o + 1)]), none⟩)] [0, 1, 4, 5, 6, 7] [4, 5] (os := [(0 : Int) ≤ f ∧ f ≤ i ∧ i ≤ (↑(ByteArray.size s) : Int), V.val (Value.string (ByteArray.extract s (Int.toNat f) (Int.toNat i))) = V.val (Value.string (ByteArray.extract s (Int.toNat f) (Int.toNat i))), (1 : Nat) ≤ (1 : Nat), List.length o * (1 : Nat) = List.length (List.map strV o), List.length o + (1 : Nat) ≤ (9223372036854775807 : Nat), (List.length o + (1 : Nat)) * (16 : Nat) ≤ (140737488355328 : Nat), List.map strV o ++ List.take ((1 : Nat) * (1 : Nat)) (List.drop (0 : Nat) [V.val (Value.string (ByteArray.extract s (Int.toNat f) (Int.toNat i)))]) = List.map strV o ++ [V.val (Value.string (ByteArray.extract s (Int.toNat f) (Int.toNat i)))], List.length o + (1 : Nat) = List.length o + (1 : Nat)]) (s' := St.mk [(0, tp (V.val (Value.string s))), (1, tp (u8 32)), (4, tp (V.sl 4 0 0)), (5, tp (V.sl 5 0 (List.length o + 1))), (6, tp (i64 f)), (7, tp (i64 i))] [(4, Blk.mk [] true 0 (some (9, 1))), (5, Blk.mk (List.map strV o ++ [V.val (Value.string (ByteArray.extract s (Int.toNat f) (Int.toNat i)))]) true 0 (some (9, 1)))]) (by kernel_rfl) ⟨(by omega), rfl, (by omega), (by (simp [len_u8s]; done)), (by omega), (by omega), (by first | rfl | (simp only [u8s_drop, u8s_take, List.drop_zero, Nat.mul_one, Nat.one_mul, u8s_app, List.take_length, List.nil_append, List.append_nil]; done) | (simp [u8s]; done) | (simp [u8s]; omega)), (by omega), trivial⟩ ?_
      refine AWP.region tcok hmix [(1, ⟨some (i64 (i + 1)), none⟩)] (os := [i64 (IntKind.wrap IntKind.i64 (i + 1)) = i64 (i + 1)]) (sf := St.mk [(0, tp (V.val (Value.string s))), (1, tp (u8 32)), (4, tp (V.sl 4 0 0)), (5, tp (V.sl 5 0 (List.length o + 1))), (6, tp (i64 (i + 1))), (7, tp (i64 i)), (32, tp (i64 i)), (33, tp (i64 (i + 1)))] [(4, Blk.mk [] true 0 (some (9, 1))), (5, Blk.mk (List.map strV o ++ [V.val (Value.string (ByteArray.extract s (Int.toNat f) (Int.toNat i)))]) true 0 (some (9, 1)))]) (by kernel_rfl) ⟨(wr_i64 (by omega) (by omega)), trivial⟩ ?_
      refine AWP.keep' [0, 1, 4, 5, 6, 7] [4, 5] (sf := St.mk [(0, tp (V.val (Value.string s))), (1, tp (u8 32)), (4, tp (V.sl 4 0 0)), (5, tp (V.sl 5 0 (List.length o + 1))), (6, tp (i64 (i + 1))), (7, tp (i64 i))] [(4, Blk.mk [] true 0 (some (9, 1))), (5, Blk.mk (List.map strV o ++ [V.val (Value.string (ByteArray.extract s (Int.toNat f) (Int.toNat i)))]) true 0 (some (9, 1)))]) (by kernel_rfl) ?_
      refine AWP.region tcok hmix [(1, ⟨some (i64 (i + 1)), none⟩)] (os := [i64 (IntKind.wrap IntKind.i64 (i + 1)) = i64 (i + 1)]) (sf := St.mk [(0, tp (V.val (Value.string s))), (1, tp (u8 32)), (4, tp (V.sl 4 0 0)), (5, tp (V.sl 5 0 (List.length o + 1))), (6, tp (i64 (i + 1))), (7, tp (i64 (i + 1))), (12, tp (i64 i)), (13, tp (i64 (i + 1)))] [(4, Blk.mk [] true 0 (some (9, 1))), (5, Blk.mk (List.map strV o ++ [V.val (Value.string (ByteArray.extract s (Int.toNat f) (Int.toNat i)))]) true 0 (some (9, 1)))]) (by kernel_rfl) ⟨(wr_i64 (by omega) (by omega)), trivial⟩ ?_
      refine ⟨St.mk [(0, tp (V.val (Value.string s))), (1, tp (u8 32)), (4, tp (V.sl 4 0 0)), (5, tp (V.sl 5 0 (List.length o + 1))), (6, tp (i64 (i + 1))), (7, tp (i64 (i + 1)))] [(4, Blk.mk [] true 0 (some (9, 1))), (5, Blk.mk (List.map strV o ++ [V.val (Value.string (ByteArray.extract s (Int.toNat f) (Int.toNat i)))]) true 0 (some (9, 1)))], by kernel_rfl, ?_⟩
      first | (rw [hfin hq0]; done) | (rcases hq1 with hq1 | hq1; exact ⟨(s.size + 1 - (i + 1)).toNat, (by omega), i + 1, i + 1, o ++ [s.extract f.toNat i.toNat], (by rw [List.map_append]; simp), (fun h => absurd h (by omega)), (fun _ => spI_end (hsp hq0) (by omega)), (by omega), (by omega), (by omega), (fun h => (by omega)), (by omega)⟩; (by_cases hz : i = s.size; exact ⟨(s.size + 1 - (i + 1)).toNat, (by omega), i + 1, i + 1, o ++ [s.extract f.toNat i.toNat], (by rw [List.map_append]; simp), (fun h => absurd h (by omega)), (fun _ => spI_end (hsp hq0) (by omega)), (by omega), (by omega), (by omega), (fun h => (by omega)), (by omega)⟩; exact ⟨(s.size + 1 - (i + 1)).toNat, (by omega), i + 1, i + 1, o ++ [s.extract f.toNat i.toNat], (by rw [List.map_append]; simp), (fun _ => by rw [show (i + 1).toNat = i.toNat + 1 by omega]; exact spI_cut (hsp hq0) (by omega) hq1), (fun h => absurd (show i + 1 ≤ s.size by omega) h), (by omega), (by omega), (by omega), (fun h => h), (by omega)⟩)) | (exact ⟨(s.size + 1 - (i + 1)).toNat, (by omega), i + 1, f, o, rfl, (fun _ => by rw [show (i + 1).toNat = i.toNat + 1 by omega]; exact spI_on (hsp hq0) (by omega) (by omega) hq1.2), (fun h => absurd (show i + 1 ≤ s.size by omega) h), (by omega), (by omega), (by omega), (fun h => (by omega)), (by omega)⟩)
    simp only [Bool.or_eq_false_iff, beq_eq_false_iff_ne] at hq1
    refine AWP.skip ?_
    refine AWP.region tcok hmix [(1, ⟨some (i64 (i + 1)), none⟩)] (os := [i64 (IntKind.wrap IntKind.i64 (i + 1)) = i64 (i + 1)]) (sf := St.mk [(0, tp (V.val (Value.string s))), (1, tp (u8 32)), (4, tp (V.sl 4 0 0)), (5, tp (V.sl 5 0 (List.length o))), (6, tp (i64 f)), (7, tp (i64 (i + 1))), (12, tp (i64 i)), (13, tp (i64 (i + 1))), (24, tp (vb (i == (↑(ByteArray.size s) : Int) || sAt s (Int.toNat i) == 32)))] [(4, Blk.mk [] true 0 (some (9, 1))), (5, Blk.mk (List.map strV o) true 0 (some (9, 1)))]) (by kernel_rfl) ⟨(wr_i64 (by omega) (by omega)), trivial⟩ ?_
    refine ⟨St.mk [(0, tp (V.val (Value.string s))), (1, tp (u8 32)), (4, tp (V.sl 4 0 0)), (5, tp (V.sl 5 0 (List.length o))), (6, tp (i64 f)), (7, tp (i64 (i + 1)))] [(4, Blk.mk [] true 0 (some (9, 1))), (5, Blk.mk (List.map strV o) true 0 (some (9, 1)))], by kernel_rfl, ?_⟩
    first | (rw [hfin hq0]; done) | (rcases hq1 with hq1 | hq1; exact ⟨(s.size + 1 - (i + 1)).toNat, (by omega), i + 1, i + 1, o ++ [s.extract f.toNat i.toNat], (by rw [List.map_append]; simp), (fun h => absurd h (by omega)), (fun _ => spI_end (hsp hq0) (by omega)), (by omega), (by omega), (by omega), (fun h => (by omega)), (by omega)⟩; (by_cases hz : i = s.size; exact ⟨(s.size + 1 - (i + 1)).toNat, (by omega), i + 1, i + 1, o ++ [s.extract f.toNat i.toNat], (by rw [List.map_append]; simp), (fun h => absurd h (by omega)), (fun _ => spI_end (hsp hq0) (by omega)), (by omega), (by omega), (by omega), (fun h => (by omega)), (by omega)⟩; exact ⟨(s.size + 1 - (i + 1)).toNat, (by omega), i + 1, i + 1, o ++ [s.extract f.toNat i.toNat], (by rw [List.map_append]; simp), (fun _ => by rw [show (i + 1).toNat = i.toNat + 1 by omega]; exact spI_cut (hsp hq0) (by omega) hq1), (fun h => absurd (show i + 1 ≤ s.size by omega) h), (by omega), (by omega), (by omega), (fun h => h), (by omega)⟩)) | (exact ⟨(s.size + 1 - (i + 1)).toNat, (by omega), i + 1, f, o, rfl, (fun _ => by rw [show (i + 1).toNat = i.toNat + 1 by omega]; exact spI_on (hsp hq0) (by omega) (by omega) hq1.2), (fun h => absurd (show i + 1 ≤ s.size by omega) h), (by omega), (by omega), (by omega), (fun h => (by omega)), (by omega)⟩)
  simp only [decide_eq_false_iff_not] at hq0
  refine AWP.exit ?_
  refine AWP.seq ?_
  refine AWP.keep' [5] [5] (sf := St.mk [(5, tp (V.sl 5 0 (List.length o)))] [(5, Blk.mk (List.map strV o) true 0 (some (9, 1)))]) (by kernel_rfl) ?_
  refine AWP.regionT tcok hmix [] [4] [5] (os := []) (s' := St.mk [(4, tp (V.sl 5 0 (List.length o)))] [(5, Blk.mk (List.map strV o) true 0 (some (9, 1)))]) (by kernel_rfl) trivial ?_
  refine AWP.ret ?_
  refine ⟨Or.inr rfl, Eq.trans (b := some ([(5, Blk.mk (List.map strV o) true 0 (some (9, 1)))], V.sl 5 0 (List.length o))) (by kernel_rfl) ?_⟩
  first | (rw [hfin hq0]; done) | (rcases hq1 with hq1 | hq1; exact ⟨(s.size + 1 - (i + 1)).toNat, (by omega), i + 1, i + 1, o ++ [s.extract f.toNat i.toNat], (by rw [List.map_append]; simp), (fun h => absurd h (by omega)), (fun _ => spI_end (hsp hq0) (by omega)), (by omega), (by omega), (by omega), (fun h => (by omega)), (by omega)⟩; (by_cases hz : i = s.size; exact ⟨(s.size + 1 - (i + 1)).toNat, (by omega), i + 1, i + 1, o ++ [s.extract f.toNat i.toNat], (by rw [List.map_append]; simp), (fun h => absurd h (by omega)), (fun _ => spI_end (hsp hq0) (by omega)), (by omega), (by omega), (by omega), (fun h => (by omega)), (by omega)⟩; exact ⟨(s.size + 1 - (i + 1)).toNat, (by omega), i + 1, i + 1, o ++ [s.extract f.toNat i.toNat], (by rw [List.map_append]; simp), (fun _ => by rw [show (i + 1).toNat = i.toNat + 1 by omega]; exact spI_cut (hsp hq0) (by omega) hq1), (fun h => absurd (show i + 1 ≤ s.size by omega) h), (by omega), (by omega), (by omega), (fun h => h), (by omega)⟩)) | (exact ⟨(s.size + 1 - (i + 1)).toNat, (by omega), i + 1, f, o, rfl, (fun _ => by rw [show (i + 1).toNat = i.toNat + 1 by omega]; exact spI_on (hsp hq0) (by omega) (by omega) hq1.2), (fun h => absurd (show i + 1 ≤ s.size by omega) h), (by omega), (by omega), (by omega), (fun h => (by omega)), (by omega)⟩)
end Go.Proofs.YtieoaeidlcdggaaDoor
