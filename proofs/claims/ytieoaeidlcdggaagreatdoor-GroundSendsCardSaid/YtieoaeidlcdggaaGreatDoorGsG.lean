/- The document's number, of a word. -/
import Derived.Test.YtieoaeidlcdggaaGreatDoorRg
import Derived.Test.YtieoaeidlcdggaaGreatDoorGsD
namespace Go.Proofs.YtieoaeidlcdggaaGreatDoor
open Go Go.Ab
set_option linter.unusedSimpArgs false
set_option linter.unusedVariables false
set_option maxRecDepth 100000
/-- What is cut off so far, and what is left. -/
def spI (s : ByteArray) (o : List ByteArray) (f i : Nat) : Prop := o ++ (spg ((s.data.toList.drop f).take (i - f)) (s.data.toList.drop i)).map bb = spl s
theorem ext_bb (s : ByteArray) (f i : Nat) : s.extract f i = bb ((s.data.toList.drop f).take (i - f)) := by
  apply ba_ext
  rw [bb_list, Lib.extract_data]
theorem spI_len {s : ByteArray} {o : List ByteArray} {f i : Nat} (h : spI s o f i) : o.length ≤ s.size + 1 := by
  have := congrArg List.length h
  rw [List.length_append] at this
  have := spl_len s
  omega
theorem sAt_drop {s : ByteArray} {i : Nat} (h : i < s.size) : ∃ b, s.data.toList.drop i = b :: s.data.toList.drop (i + 1) ∧ sAt s i = (b.toNat : Int) ∧ s.data.toList[i]? = some b := by
  have h' : i < s.data.toList.length := by rw [ba_len]; exact h
  refine ⟨s.data.toList[i], List.drop_eq_getElem_cons h', ?_, List.getElem?_eq_getElem h'⟩
  unfold sAt
  rw [List.getD_eq_getElem?_getD, List.getElem?_eq_getElem h']
  rfl
theorem spI_end {s : ByteArray} {o : List ByteArray} {f i : Nat} (h : spI s o f i) (hi : s.size ≤ i) : o ++ [s.extract f i] = spl s := by
  unfold spI at h
  have e : s.data.toList.drop i = [] := List.drop_eq_nil_of_le (by rw [ba_len]; exact hi)
  rw [e] at h
  rw [ext_bb]
  exact h
theorem spI_cut {s : ByteArray} {o : List ByteArray} {f i : Nat} (h : spI s o f i) (hi : i < s.size) (h32 : sAt s i = 32) : spI s (o ++ [s.extract f i]) (i + 1) (i + 1) := by
  obtain ⟨b, hd, hb, _⟩ := sAt_drop hi
  have : b = 32 := UInt8.toNat_inj.1 (by rw [hb] at h32; exact Int.ofNat.inj h32)
  subst this
  unfold spI at h ⊢
  rw [hd, spg, if_pos rfl, List.map_cons] at h
  rw [← h, ext_bb]
  simp
theorem spI_on {s : ByteArray} {o : List ByteArray} {f i : Nat} (h : spI s o f i) (hf : f ≤ i) (hi : i < s.size) (h32 : sAt s i ≠ 32) : spI s o f (i + 1) := by
  obtain ⟨b, hd, hb, hg⟩ := sAt_drop hi
  have hb' : ¬ b = 32 := fun e => h32 (by rw [hb, e]; rfl)
  unfold spI at h ⊢
  rw [hd, spg, if_neg hb'] at h
  rw [← h, show i + 1 - f = (i - f) + 1 by omega, List.take_add_one, List.getElem?_drop, show f + (i - f) = i by omega, hg]
  rfl
theorem con_rsplit (s : ByteArray) (hs : s.size ≤ 1000000) : Con Tryz.prog 14 [] [strV s, u8 32] [(5, ⟨(spl s).map strV, true, 0, some (9, 1)⟩)] (.sl 5 0 (spl s).length) := by
  refine Con.of (C := ⟨Tryz.prog, tc, Tryz.f14.ntmps⟩) [5] tcok Tryz.func14 rfl rfl (by kernel_rfl) (by kernel_rfl) ?_
  refine AWP.seq ?_
  refine AWP.regionT tcok hmix [] [0, 1, 4] [4] (os := []) (s' := St.mk [(0, tp (V.val (Value.string s))), (1, tp (u8 32)), (4, tp (V.sl 4 0 0))] [(4, Blk.mk [] true 0 (some (9, 1)))]) (by kernel_rfl) trivial ?_
  refine xe0 [0, 1, 4, 5] [4, 5] (by kernel_rfl) ?_
  refine xe0 [0, 1, 4, 5, 6] [4, 5] (by kernel_rfl) ?_
  refine AWP.seq ?_
  refine xe0 [0, 1, 4, 5, 6, 7] [4, 5] (by kernel_rfl) ?_
  refine AWP.block ?_
  refine AWP.loopI [0, 1, 4, 5, 6, 7] [4, 5] (fun N st => ∃ (i f : Int) (o : List ByteArray), st = St.mk [(0, T.plain (strV s)), (1, T.plain (u8 32)), (4, T.plain (V.sl 4 0 0)), (5, T.plain (V.sl 5 0 o.length)), (6, T.plain (i64 f)), (7, T.plain (i64 i))] [(4, Blk.mk [] true 0 (some (9, 1))), (5, Blk.mk (o.map strV) true 0 (some (9, 1)))]
      ∧ (i ≤ s.size → spI s o f.toNat i.toNat) ∧ (¬ i ≤ s.size → o = spl s) ∧ 0 ≤ f ∧ f ≤ i ∧ i ≤ s.size + 1 ∧ (i ≤ s.size → f ≤ s.size) ∧ (N : Int) = s.size + 1 - i) (s.size + 1) (s0 := St.mk [(0, T.plain (strV s)), (1, T.plain (u8 32)), (4, T.plain (V.sl 4 0 0)), (5, T.plain (V.sl 5 0 0)), (6, T.plain (i64 0)), (7, T.plain (i64 0))] [(4, Blk.mk [] true 0 (some (9, 1))), (5, Blk.mk [] true 0 (some (9, 1)))]) (by kernel_rfl) ?_ ?_
  · exact ⟨0, 0, [], rfl, fun _ => by simp [spI, spl], fun h => absurd (by omega) h, by omega, by omega, by omega, fun _ => by omega, by omega⟩
  rintro N st ⟨i, f, o, rfl, hsp, hfin, hf, hfi, hi, hfs, hN⟩
  have hol : i ≤ s.size → o.length ≤ 1000001 := fun h => by
    have := spI_len (hsp h)
    omega
  have hol2 : ¬ i ≤ s.size → o.length ≤ 1000001 := fun h => by
    have := spl_len s
    rw [hfin h]
    omega
  refine AWP.seq ?_
  refine AWP.seq ?_
  refine AWP.regionT tcok hmix [] [0, 1, 4, 5, 6, 7, 11] [4, 5] (os := []) (s' := St.mk [(0, tp (V.val (Value.string s))), (1, tp (u8 32)), (4, tp (V.sl 4 0 0)), (5, tp (V.sl 5 0 (List.length o))), (6, tp (i64 f)), (7, tp (i64 i)), (11, tp (vb (decide (i ≤ (↑(ByteArray.size s) : Int)))))] [(4, Blk.mk [] true 0 (some (9, 1))), (5, Blk.mk (List.map strV o) true 0 (some (9, 1)))]) (by kernel_rfl) trivial ?_
  refine AWP.cond (b := decide (i ≤ (↑(ByteArray.size s) : Int))) (by kernel_rfl) (fun hq0 => ?_) (fun hq0 => ?_)
  · simp only [decide_eq_true_eq] at hq0
    refine AWP.skip ?_
    refine AWP.seq ?_
    refine AWP.block ?_
    refine AWP.seq ?_
    refine AWP.regionT tcok hmix [(7, ⟨some (u8 (sAt s (Int.toNat i))), none⟩)] [0, 1, 4, 5, 6, 7, 24] [4, 5] (os := [(i == (↑(ByteArray.size s) : Int)) = false → ((0 : Int) ≤ i ∧ i < (↑(ByteArray.size s) : Int)) ∧ u8 (sAt s (Int.toNat i)) = u8 (sAt s (Int.toNat i)) ∧ True]) (s' := St.mk [(0, tp (V.val (Value.string s))), (1, tp (u8 32)), (4, tp (V.sl 4 0 0)), (5, tp (V.sl 5 0 (List.length o))), (6, tp (i64 f)), (7, tp (i64 i)), (24, tp (vb (i == (↑(ByteArray.size s) : Int) || sAt s (Int.toNat i) == 32)))] [(4, Blk.mk [] true 0 (some (9, 1))), (5, Blk.mk (List.map strV o) true 0 (some (9, 1)))]) (by kernel_rfl) ⟨(by intro hc0; first | (cases hc0; done) | ((try simp only [Bool.or_false, Bool.false_or, Bool.true_and, Bool.and_true, decide_eq_true_eq, decide_eq_false_iff_not, Bool.and_eq_true, Bool.or_eq_true, Bool.or_eq_false_iff, Bool.not_eq_true', Bool.and_eq_false_iff, beq_iff_eq, bne_iff_ne, bne_eq_false_iff_eq, beq_eq_false_iff_ne, Bool.not_eq_false'] at hc0); exact ⟨(by first | omega | (simp [len_u8s]; omega) | (simp [len_u8s]; done)), rfl, trivial⟩)), trivial⟩ ?_
    refine AWP.cond (b := i == (↑(ByteArray.size s) : Int) || sAt s (Int.toNat i) == 32) (by kernel_rfl) (fun hq1 => ?_) (fun hq1 => ?_)
    · simp only [Bool.or_eq_true, beq_iff_eq] at hq1
      refine AWP.seq ?_
      refine AWP.regionT tcok hmix [(4, ⟨some (V.val (Value.string (ByteArray.extract s (Int.toNat f) (Int.toNat i)))), none⟩), (6, ⟨some (V.tup [V.agg true (List.map strV o ++ [V.val (Value.string (ByteArray.extract s (Int.toNat f) (Int.toNat i)))]), V.sl 0 0 (List.length o + 1)]), none⟩)] [0, 1, 4, 5, 6, 7] [4, 5] (os := [(0 : Int) ≤ f ∧ f ≤ i ∧ i ≤ (↑(ByteArray.size s) : Int), V.val (Value.string (ByteArray.extract s (Int.toNat f) (Int.toNat i))) = V.val (Value.string (ByteArray.extract s (Int.toNat f) (Int.toNat i))), (1 : Nat) ≤ (1 : Nat), List.length o * (1 : Nat) = List.length (List.map strV o), List.length o + (1 : Nat) ≤ (9223372036854775807 : Nat), (List.length o + (1 : Nat)) * (16 : Nat) ≤ (140737488355328 : Nat), List.map strV o ++ List.take ((1 : Nat) * (1 : Nat)) (List.drop (0 : Nat) [V.val (Value.string (ByteArray.extract s (Int.toNat f) (Int.toNat i)))]) = List.map strV o ++ [V.val (Value.string (ByteArray.extract s (Int.toNat f) (Int.toNat i)))], List.length o + (1 : Nat) = List.length o + (1 : Nat)]) (s' := St.mk [(0, tp (V.val (Value.string s))), (1, tp (u8 32)), (4, tp (V.sl 4 0 0)), (5, tp (V.sl 5 0 (List.length o + 1))), (6, tp (i64 f)), (7, tp (i64 i))] [(4, Blk.mk [] true 0 (some (9, 1))), (5, Blk.mk (List.map strV o ++ [V.val (Value.string (ByteArray.extract s (Int.toNat f) (Int.toNat i)))]) true 0 (some (9, 1)))]) (by kernel_rfl) ⟨(by omega), rfl, (by omega), (by (simp [len_u8s]; done)), (by omega), (by omega), (by first | rfl | (simp only [u8s_drop, u8s_take, List.drop_zero, Nat.mul_one, Nat.one_mul, u8s_app, List.take_length, List.nil_append, List.append_nil]; done) | (simp [u8s]; done) | (simp [u8s]; omega)), (by omega), trivial⟩ ?_
      refine AWP.region tcok hmix [(1, ⟨some (i64 (i + 1)), none⟩)] (os := [i64 (IntKind.wrap IntKind.i64 (i + 1)) = i64 (i + 1)]) (sf := St.mk [(0, tp (V.val (Value.string s))), (1, tp (u8 32)), (4, tp (V.sl 4 0 0)), (5, tp (V.sl 5 0 (List.length o + 1))), (6, tp (i64 (i + 1))), (7, tp (i64 i)), (32, tp (i64 i)), (33, tp (i64 (i + 1)))] [(4, Blk.mk [] true 0 (some (9, 1))), (5, Blk.mk (List.map strV o ++ [V.val (Value.string (ByteArray.extract s (Int.toNat f) (Int.toNat i)))]) true 0 (some (9, 1)))]) (by kernel_rfl) ⟨(wr_i64 (by omega) (by omega)), trivial⟩ ?_
      refine AWP.keep' [0, 1, 4, 5, 6, 7] [4, 5] (sf := St.mk [(0, tp (V.val (Value.string s))), (1, tp (u8 32)), (4, tp (V.sl 4 0 0)), (5, tp (V.sl 5 0 (List.length o + 1))), (6, tp (i64 (i + 1))), (7, tp (i64 i))] [(4, Blk.mk [] true 0 (some (9, 1))), (5, Blk.mk (List.map strV o ++ [V.val (Value.string (ByteArray.extract s (Int.toNat f) (Int.toNat i)))]) true 0 (some (9, 1)))]) (by kernel_rfl) ?_
      refine AWP.region tcok hmix [(1, ⟨some (i64 (i + 1)), none⟩)] (os := [i64 (IntKind.wrap IntKind.i64 (i + 1)) = i64 (i + 1)]) (sf := St.mk [(0, tp (V.val (Value.string s))), (1, tp (u8 32)), (4, tp (V.sl 4 0 0)), (5, tp (V.sl 5 0 (List.length o + 1))), (6, tp (i64 (i + 1))), (7, tp (i64 (i + 1))), (12, tp (i64 i)), (13, tp (i64 (i + 1)))] [(4, Blk.mk [] true 0 (some (9, 1))), (5, Blk.mk (List.map strV o ++ [V.val (Value.string (ByteArray.extract s (Int.toNat f) (Int.toNat i)))]) true 0 (some (9, 1)))]) (by kernel_rfl) ⟨(wr_i64 (by omega) (by omega)), trivial⟩ ?_
      refine ⟨St.mk [(0, tp (V.val (Value.string s))), (1, tp (u8 32)), (4, tp (V.sl 4 0 0)), (5, tp (V.sl 5 0 (List.length o + 1))), (6, tp (i64 (i + 1))), (7, tp (i64 (i + 1)))] [(4, Blk.mk [] true 0 (some (9, 1))), (5, Blk.mk (List.map strV o ++ [V.val (Value.string (ByteArray.extract s (Int.toNat f) (Int.toNat i)))]) true 0 (some (9, 1)))], by kernel_rfl, ?_⟩
      first | (rw [hfin hq0]; done) | (rcases hq1 with hq1 | hq1; exact ⟨(s.size + 1 - (i + 1)).toNat, (by omega), i + 1, i + 1, o ++ [s.extract f.toNat i.toNat], (by rw [List.map_append]; simp), (fun h => absurd h (by omega)), (fun _ => spI_end (hsp hq0) (by omega)), (by omega), (by omega), (by omega), (fun h => (by omega)), (by omega)⟩; (by_cases hz : i = s.size; exact ⟨(s.size + 1 - (i + 1)).toNat, (by omega), i + 1, i + 1, o ++ [s.extract f.toNat i.toNat], (by rw [List.map_append]; simp), (fun h => absurd h (by omega)), (fun _ => spI_end (hsp hq0) (by omega)), (by omega), (by omega), (by omega), (fun h => (by omega)), (by omega)⟩; exact ⟨(s.size + 1 - (i + 1)).toNat, (by omega), i + 1, i + 1, o ++ [s.extract f.toNat i.toNat], (by rw [List.map_append]; simp), (fun _ => by rw [show (i + 1).toNat = i.toNat + 1 by omega]; exact spI_cut (hsp hq0) (by omega) hq1), (fun h => absurd (show i + 1 ≤ s.size by omega) h), (by omega), (by omega), (by omega), (fun h => h), (by omega)⟩)) | (exact ⟨(s.size + 1 - (i + 1)).toNat, (by omega), i + 1, f, o, rfl, (fun _ => by rw [show (i + 1).toNat = i.toNat + 1 by omega]; exact spI_on (hsp hq0) (by omega) (by omega) hq1.2), (fun h => absurd (show i + 1 ≤ s.size by omega) h), (by omega), (by omega), (by omega), (fun h => (by omega)), (by omega)⟩)
    simp only [Bool.or_eq_false_iff, beq_eq_false_iff_ne] at hq1
    refine AWP.skip ?_
    refine AWP.region tcok hmix [(1, ⟨some (i64 (i + 1)), none⟩)] (os := [i64 (IntKind.wrap IntKind.i64 (i + 1)) = i64 (i + 1)]) (sf := St.mk [(0, tp (V.val (Value.string s))), (1, tp (u8 32)), (4, tp (V.sl 4 0 0)), (5, tp (V.sl 5 0 (List.length o))), (6, tp (i64 f)), (7, tp (i64 (i + 1))), (12, tp (i64 i)), (13, tp (i64 (i + 1))), (24, tp (vb (i == (↑(ByteArray.size s) : Int) || sAt s (Int.toNat i) == 32)))] [(4, Blk.mk [] true 0 (some (9, 1))), (5, Blk.mk (List.map strV o) true 0 (some (9, 1)))]) (by kernel_rfl) ⟨(wr_i64 (by omega) (by omega)), trivial⟩ ?_
    refine ⟨St.mk [(0, tp (V.val (Value.string s))), (1, tp (u8 32)), (4, tp (V.sl 4 0 0)), (5, tp (V.sl 5 0 (List.length o))), (6, tp (i64 f)), (7, tp (i64 (i + 1)))] [(4, Blk.mk [] true 0 (some (9, 1))), (5, Blk.mk (List.map strV o) true 0 (some (9, 1)))], by kernel_rfl, ?_⟩
    first | (rw [hfin hq0]; done) | (rcases hq1 with hq1 | hq1; exact ⟨(s.size + 1 - (i + 1)).toNat, (by omega), i + 1, i + 1, o ++ [s.extract f.toNat i.toNat], (by rw [List.map_append]; simp), (fun h => absurd h (by omega)), (fun _ => spI_end (hsp hq0) (by omega)), (by omega), (by omega), (by omega), (fun h => (by omega)), (by omega)⟩; (by_cases hz : i = s.size; exact ⟨(s.size + 1 - (i + 1)).toNat, (by omega), i + 1, i + 1, o ++ [s.extract f.toNat i.toNat], (by rw [List.map_append]; simp), (fun h => absurd h (by omega)), (fun _ => spI_end (hsp hq0) (by omega)), (by omega), (by omega), (by omega), (fun h => (by omega)), (by omega)⟩; exact ⟨(s.size + 1 - (i + 1)).toNat, (by omega), i + 1, i + 1, o ++ [s.extract f.toNat i.toNat], (by rw [List.map_append]; simp), (fun _ => by rw [show (i + 1).toNat = i.toNat + 1 by omega]; exact spI_cut (hsp hq0) (by omega) hq1), (fun h => absurd (show i + 1 ≤ s.size by omega) h), (by omega), (by omega), (by omega), (fun h => h), (by omega)⟩)) | (exact ⟨(s.size + 1 - (i + 1)).toNat, (by omega), i + 1, f, o, rfl, (fun _ => by rw [show (i + 1).toNat = i.toNat + 1 by omega]; exact spI_on (hsp hq0) (by omega) (by omega) hq1.2), (fun h => absurd (show i + 1 ≤ s.size by omega) h), (by omega), (by omega), (by omega), (fun h => (by omega)), (by omega)⟩)
  simp only [decide_eq_false_iff_not] at hq0
  refine AWP.exit ?_
  refine AWP.seq ?_
  refine AWP.keep' [5] [5] (sf := St.mk [(5, tp (V.sl 5 0 (List.length o)))] [(5, Blk.mk (List.map strV o) true 0 (some (9, 1)))]) (by kernel_rfl) ?_
  refine AWP.regionT tcok hmix [] [4] [5] (os := []) (s' := St.mk [(4, tp (V.sl 5 0 (List.length o)))] [(5, Blk.mk (List.map strV o) true 0 (some (9, 1)))]) (by kernel_rfl) trivial ?_
  refine AWP.ret ?_
  refine ⟨Or.inr rfl, Eq.trans (b := some ([(5, Blk.mk (List.map strV o) true 0 (some (9, 1)))], V.sl 5 0 (List.length o))) (by kernel_rfl) ?_⟩
  first | (rw [hfin hq0]; done) | (rcases hq1 with hq1 | hq1; exact ⟨(s.size + 1 - (i + 1)).toNat, (by omega), i + 1, i + 1, o ++ [s.extract f.toNat i.toNat], (by rw [List.map_append]; simp), (fun h => absurd h (by omega)), (fun _ => spI_end (hsp hq0) (by omega)), (by omega), (by omega), (by omega), (fun h => (by omega)), (by omega)⟩; (by_cases hz : i = s.size; exact ⟨(s.size + 1 - (i + 1)).toNat, (by omega), i + 1, i + 1, o ++ [s.extract f.toNat i.toNat], (by rw [List.map_append]; simp), (fun h => absurd h (by omega)), (fun _ => spI_end (hsp hq0) (by omega)), (by omega), (by omega), (by omega), (fun h => (by omega)), (by omega)⟩; exact ⟨(s.size + 1 - (i + 1)).toNat, (by omega), i + 1, i + 1, o ++ [s.extract f.toNat i.toNat], (by rw [List.map_append]; simp), (fun _ => by rw [show (i + 1).toNat = i.toNat + 1 by omega]; exact spI_cut (hsp hq0) (by omega) hq1), (fun h => absurd (show i + 1 ≤ s.size by omega) h), (by omega), (by omega), (by omega), (fun h => h), (by omega)⟩)) | (exact ⟨(s.size + 1 - (i + 1)).toNat, (by omega), i + 1, f, o, rfl, (fun _ => by rw [show (i + 1).toNat = i.toNat + 1 by omega]; exact spI_on (hsp hq0) (by omega) (by omega) hq1.2), (fun h => absurd (show i + 1 ≤ s.size by omega) h), (by omega), (by omega), (by omega), (fun h => (by omega)), (by omega)⟩)
end Go.Proofs.YtieoaeidlcdggaaGreatDoor

namespace Go.Proofs.YtieoaeidlcdggaaGreatDoor
open Go Go.Ab
set_option linter.unusedSimpArgs false
set_option linter.unusedVariables false
set_option maxRecDepth 100000
def dv (l : List UInt8) : Int := l.foldl (fun n b => 10 * n + ((b.toNat : Int) - 48)) 0
theorem dv_snoc (l : List UInt8) (b : UInt8) : dv (l ++ [b]) = 10 * dv l + ((b.toNat : Int) - 48) := by simp [dv]
theorem dv_dgs : ∀ n : Fin 256, dv (dgs n.val) = (n.val : Int) := by decide +kernel
def rnV (s : ByteArray) : Int := match numO s with | some n => (n : Int) | none => -1
theorem isD_iff (b : UInt8) : isD b = true ↔ 48 ≤ b.toNat ∧ b.toNat ≤ 57 := by simp [isD]
theorem numO_pre {s : ByteArray} {n : Nat} (h : numO s = some n) : s.data.toList.all isD = true ∧ 1 ≤ s.size ∧ s.size ≤ 3 ∧ (s.size ≠ 1 → s.data.toList.head? ≠ some 48) ∧ dv s.data.toList = n ∧ n < 256 := by
  obtain ⟨h1, h2⟩ := numO_some h
  have := dgs_dig ⟨n, h1⟩
  have h3 := dv_dgs ⟨n, h1⟩
  rw [← ba_len, h2]
  exact ⟨this.1, this.2.1, this.2.2.1, this.2.2.2, h3, h1⟩
theorem dgs_of {l : List UInt8} (h1 : l.all isD = true) (h2 : 1 ≤ l.length) (h3 : l.length ≤ 3) (h4 : l.length ≠ 1 → l.head? ≠ some 48) : 0 ≤ dv l ∧ dgs (dv l).toNat = l := by
  match l, h1, h2, h3, h4 with
  | [a], h1, _, _, _ =>
    simp only [List.all_cons, List.all_nil, Bool.and_true, isD_iff] at h1
    obtain ⟨x, hx, rfl⟩ := dig_of h1.1 h1.2
    have e : dv [UInt8.ofNat (48 + x.val)] = (x.val : Int) := by simp only [dv, List.foldl_cons, List.foldl_nil]; omega
    rw [e]
    refine ⟨by omega, ?_⟩
    rw [Int.toNat_natCast]
    exact digs1 x
  | [a, b], h1, _, _, h4 =>
    simp only [List.all_cons, List.all_nil, Bool.and_true, Bool.and_eq_true, isD_iff] at h1
    obtain ⟨x, hx, rfl⟩ := dig_of h1.1.1 h1.1.2
    obtain ⟨y, hy, rfl⟩ := dig_of h1.2.1 h1.2.2
    have e : dv [UInt8.ofNat (48 + x.val), UInt8.ofNat (48 + y.val)] = ((10 * x.val + y.val : Nat) : Int) := by simp only [dv, List.foldl_cons, List.foldl_nil]; omega
    have hne : x.val ≠ 0 := fun e0 => h4 (by simp) (by simp [e0])
    rw [e]
    refine ⟨by omega, ?_⟩
    rw [Int.toNat_natCast]
    exact digs2 x y hne
  | [a, b, c], h1, _, _, h4 =>
    simp only [List.all_cons, List.all_nil, Bool.and_true, Bool.and_eq_true, isD_iff] at h1
    obtain ⟨x, hx, rfl⟩ := dig_of h1.1.1 h1.1.2
    obtain ⟨y, hy, rfl⟩ := dig_of h1.2.1.1 h1.2.1.2
    obtain ⟨z, hz, rfl⟩ := dig_of h1.2.2.1 h1.2.2.2
    have e : dv [UInt8.ofNat (48 + x.val), UInt8.ofNat (48 + y.val), UInt8.ofNat (48 + z.val)] = ((100 * x.val + 10 * y.val + z.val : Nat) : Int) := by simp only [dv, List.foldl_cons, List.foldl_nil]; omega
    have hne : x.val ≠ 0 := fun e0 => h4 (by simp) (by simp [e0])
    rw [e]
    refine ⟨by omega, ?_⟩
    rw [Int.toNat_natCast]
    exact digs3 x y z hne
  | [], _, h2, _, _ => simp at h2
  | _ :: _ :: _ :: _ :: _, _, _, h3, _ => simp at h3
theorem rn_long {s : ByteArray} (h : s.size < 1 ∨ 3 < s.size) : rnV s = -1 := by
  unfold rnV
  cases hn : numO s with
  | none => rfl
  | some n =>
    have := numO_pre hn
    omega
theorem sAt_head {s : ByteArray} (h : 0 < s.size) : (s.data.toList.head? = some 48 ↔ sAt s 0 = 48) := by
  obtain ⟨b, h1, h2, h3⟩ := sAt_drop h
  rw [h2, List.head?_eq_getElem?, h3]
  constructor
  · intro e; cases e; rfl
  · intro e
    rw [UInt8.toNat_inj.1 (show b.toNat = (48 : UInt8).toNat from Int.ofNat.inj e)]
theorem rn_zero {s : ByteArray} (h : 1 < s.size) (h0 : sAt s 0 = 48) : rnV s = -1 := by
  unfold rnV
  cases hn : numO s with
  | none => rfl
  | some n =>
    have h1 := numO_pre hn
    exact absurd ((sAt_head (by omega)).2 h0) (h1.2.2.2.1 (by omega))
theorem rn_dig {s : ByteArray} {i : Nat} (hi : i < s.size) (h : sAt s i < 48 ∨ 57 < sAt s i) : rnV s = -1 := by
  unfold rnV
  cases hn : numO s with
  | none => rfl
  | some n =>
    obtain ⟨b, h1, h2, h3⟩ := sAt_drop hi
    have h4 := List.all_eq_true.1 (numO_pre hn).1 b (List.mem_of_getElem? h3)
    rw [isD_iff] at h4
    omega
theorem rn_ok {s : ByteArray} (h1 : ∀ j < s.size, 48 ≤ sAt s j ∧ sAt s j ≤ 57) (h2 : 1 ≤ s.size) (h3 : s.size ≤ 3) (h4 : s.size ≠ 1 → sAt s 0 ≠ 48) : 0 ≤ dv s.data.toList ∧ rnV s = if dv s.data.toList > 255 then -1 else dv s.data.toList := by
  have hall : s.data.toList.all isD = true := by
    rw [List.all_eq_true]
    intro b hb
    obtain ⟨j, hj, rfl⟩ := List.getElem_of_mem hb
    have hj' : j < s.size := by rw [← ba_len]; exact hj
    obtain ⟨b, q1, q2, q3⟩ := sAt_drop hj'
    rw [List.getElem?_eq_getElem hj] at q3
    cases q3
    have := h1 j hj'
    rw [isD_iff]
    omega
  have hd := dgs_of hall (by rw [ba_len]; exact h2) (by rw [ba_len]; exact h3) (fun hne e => h4 (by rwa [ba_len] at hne) ((sAt_head (by omega)).1 e))
  refine ⟨hd.1, ?_⟩
  unfold rnV
  by_cases hg : dv s.data.toList > 255
  · rw [if_pos hg]
    cases hn : numO s with
    | none => rfl
    | some n =>
      have := numO_pre hn
      omega
  · rw [if_neg hg, numO_dgs (n := (dv s.data.toList).toNat) (by omega) hd.2.symm]
    show ((dv s.data.toList).toNat : Int) = _
    omega
theorem dv_take {s : ByteArray} {i : Nat} (h : i < s.size) : dv (s.data.toList.take (i + 1)) = 10 * dv (s.data.toList.take i) + (sAt s i - 48) := by
  obtain ⟨b, _, q2, q3⟩ := sAt_drop h
  rw [List.take_add_one, q3, q2]
  exact dv_snoc _ _
theorem con_rnumber (s : ByteArray) (hs : s.size ≤ 1000000) : Con Tryz.prog 16 [] [strV s] [] (i64 (rnV s)) := by
  have e0 : Int.toNat 0 = 0 := rfl
  refine Con.of (C := ⟨Tryz.prog, tc, Tryz.f16.ntmps⟩) [] tcok Tryz.func16 rfl rfl (by kernel_rfl) (by kernel_rfl) ?_
  refine AWP.seq ?_
  refine AWP.regionT tcok hmix [] [0, 2] [] (os := []) (s' := St.mk [(0, tp (V.val (Value.string s))), (2, tp (i64 0))] []) (by kernel_rfl) trivial ?_
  refine AWP.seq ?_
  refine xe1 (os := [(decide ((↑(ByteArray.size s) : Int) < (1 : Int)) || decide ((↑(ByteArray.size s) : Int) > (3 : Int))) = false → ((0 : Int) ≤ (0 : Int) ∧ (0 : Int) < (↑(ByteArray.size s) : Int)) ∧ u8 (sAt s (Int.toNat (0 : Int))) = u8 (sAt s (Int.toNat (0 : Int))) ∧ True]) [(10, ⟨some (u8 (sAt s (Int.toNat 0))), none⟩)] [0, 2, 22] [] (by kernel_rfl) ⟨(by intro hc0; first | (cases hc0; done) | ((try simp only [Bool.or_false, Bool.false_or, Bool.true_and, Bool.and_true, decide_eq_true_eq, decide_eq_false_iff_not, Bool.and_eq_true, Bool.or_eq_true, Bool.or_eq_false_iff, Bool.not_eq_true', Bool.and_eq_false_iff, beq_iff_eq, bne_iff_ne, bne_eq_false_iff_eq, beq_eq_false_iff_ne, Bool.not_eq_false'] at hc0); exact ⟨(by first | omega | (simp [len_u8s]; omega) | (simp [len_u8s]; done)), rfl, trivial⟩)), trivial⟩ ?_
  refine AWP.cond (b := decide ((↑(ByteArray.size s) : Int) < 1) || decide ((↑(ByteArray.size s) : Int) > 3) || sAt s (Int.toNat 0) == 48 && decide ((↑(ByteArray.size s) : Int) > 1)) (by kernel_rfl) (fun hq0 => ?_) (fun hq0 => ?_)
  · simp only [decide_eq_true_eq, Bool.and_eq_true, Bool.or_eq_true, beq_iff_eq] at hq0
    refine AWP.seq ?_
    refine AWP.regionT tcok hmix [] [0, 2] [] (os := []) (s' := St.mk [(0, tp (V.val (Value.string s))), (2, tp (i64 (-1)))] []) (by kernel_rfl) trivial ?_
    refine AWP.ret ?_
    refine ⟨Or.inr rfl, Eq.trans (b := some ([], i64 (-1))) (by kernel_rfl) ?_⟩
    (rcases hq0 with hq0 | hq0; rw [rn_long (by omega)]; rw [rn_zero (by omega) hq0.1])
  simp only [decide_eq_false_iff_not, Bool.or_eq_false_iff, Bool.and_eq_false_iff, beq_eq_false_iff_ne] at hq0
  refine AWP.skip ?_
  refine AWP.seq ?_
  refine AWP.regionT tcok hmix [] [0, 2, 3] [] (os := []) (s' := St.mk [(0, tp (V.val (Value.string s))), (2, tp (i64 0)), (3, tp (i64 0))] []) (by kernel_rfl) trivial ?_
  refine AWP.seq ?_
  refine xe0 [0, 2, 3, 4] [] (by kernel_rfl) ?_
  refine AWP.block ?_
  have h4 : s.size ≠ 1 → sAt s 0 ≠ 48 := fun h => hq0.2.resolve_right (by omega)
  refine AWP.loopI [0, 2, 3, 4] [] (fun N st => ∃ (i n : Int), st = St.mk [(0, T.plain (strV s)), (2, T.plain (i64 0)), (3, T.plain (i64 n)), (4, T.plain (i64 i))] []
      ∧ n = dv (s.data.toList.take i.toNat) ∧ (∀ j : Nat, (j : Int) < i → 48 ≤ sAt s j ∧ sAt s j ≤ 57) ∧ 0 ≤ n ∧ (i = 0 → n = 0) ∧ (i = 1 → n ≤ 9) ∧ (i = 2 → n ≤ 99) ∧ 0 ≤ i ∧ i ≤ s.size ∧ (N : Int) = s.size - i) s.size (s0 := St.mk [(0, T.plain (strV s)), (2, T.plain (i64 0)), (3, T.plain (i64 0)), (4, T.plain (i64 0))] []) (by kernel_rfl) ?_ ?_
  · exact ⟨0, 0, rfl, rfl, fun j hj => by omega, by omega, by omega, by omega, by omega, by omega, by omega, by omega⟩
  rintro N st ⟨i, n, rfl, hn, hall, hn0, k0, k1, k2, hi, hi2, hN⟩
  have hin : i < s.size → i = 0 ∨ i = 1 ∨ i = 2 := fun h => by omega
  have hnb : i < s.size → n ≤ 99 := fun h => by rcases hin h with h | h | h <;> omega
  have hsb : 0 ≤ sAt s i.toNat ∧ sAt s i.toNat < 256 := by
    unfold sAt
    have := (s.data.toList.getD i.toNat 0).toNat_lt
    omega
  have hfin : ¬ i < s.size → 0 ≤ dv s.data.toList ∧ rnV s = (if dv s.data.toList > 255 then -1 else dv s.data.toList) ∧ n = dv s.data.toList := fun h => by
    have e : i = s.size := by omega
    have q := rn_ok (s := s) (fun j hj => hall j (by omega)) (by omega) (by omega) h4
    refine ⟨q.1, q.2, ?_⟩
    rw [hn, List.take_of_length_le (by rw [ba_len]; omega)]
  refine AWP.seq ?_
  refine AWP.seq ?_
  refine AWP.regionT tcok hmix [] [0, 2, 3, 4, 26] [] (os := []) (s' := St.mk [(0, tp (V.val (Value.string s))), (2, tp (i64 0)), (3, tp (i64 n)), (4, tp (i64 i)), (26, tp (vb (decide (i < (↑(ByteArray.size s) : Int)))))] []) (by kernel_rfl) trivial ?_
  refine AWP.cond (b := decide (i < (↑(ByteArray.size s) : Int))) (by kernel_rfl) (fun hq1 => ?_) (fun hq1 => ?_)
  · simp only [decide_eq_true_eq] at hq1
    refine AWP.skip ?_
    refine AWP.seq ?_
    refine AWP.block ?_
    refine AWP.seq ?_
    refine AWP.seq ?_
    refine AWP.regionT tcok hmix [(2, ⟨some (u8 (sAt s (Int.toNat i))), none⟩), (7, ⟨some (u8 (sAt s (Int.toNat i))), none⟩)] [0, 2, 3, 4, 38] [] (os := [(0 : Int) ≤ i ∧ i < (↑(ByteArray.size s) : Int), u8 (sAt s (Int.toNat i)) = u8 (sAt s (Int.toNat i)), decide (sAt s (Int.toNat i) < (48 : Int)) = false → ((0 : Int) ≤ i ∧ i < (↑(ByteArray.size s) : Int)) ∧ u8 (sAt s (Int.toNat i)) = u8 (sAt s (Int.toNat i)) ∧ True]) (s' := St.mk [(0, tp (V.val (Value.string s))), (2, tp (i64 0)), (3, tp (i64 n)), (4, tp (i64 i)), (38, tp (vb (decide (sAt s (Int.toNat i) < 48) || decide (sAt s (Int.toNat i) > 57))))] []) (by kernel_rfl) ⟨(by omega), rfl, (by intro hc0; first | (cases hc0; done) | ((try simp only [Bool.or_false, Bool.false_or, Bool.true_and, Bool.and_true, decide_eq_true_eq, decide_eq_false_iff_not, Bool.and_eq_true, Bool.or_eq_true, Bool.or_eq_false_iff, Bool.not_eq_true', Bool.and_eq_false_iff, beq_iff_eq, bne_iff_ne, bne_eq_false_iff_eq, beq_eq_false_iff_ne, Bool.not_eq_false'] at hc0); exact ⟨(by omega), rfl, trivial⟩)), trivial⟩ ?_
    refine AWP.cond (b := decide (sAt s (Int.toNat i) < 48) || decide (sAt s (Int.toNat i) > 57)) (by kernel_rfl) (fun hq2 => ?_) (fun hq2 => ?_)
    · simp only [decide_eq_true_eq, Bool.or_eq_true] at hq2
      refine AWP.seq ?_
      refine AWP.regionT tcok hmix [] [0, 2, 3, 4] [] (os := []) (s' := St.mk [(0, tp (V.val (Value.string s))), (2, tp (i64 (-1))), (3, tp (i64 n)), (4, tp (i64 i))] []) (by kernel_rfl) trivial ?_
      refine AWP.ret ?_
      refine ⟨Or.inr rfl, Eq.trans (b := some ([], i64 (-1))) (by kernel_rfl) ?_⟩
      first | (rw [rn_dig (i := i.toNat) (by omega) hq2]; done) | (have q := hfin hq1; rw [q.2.1, if_pos (by omega)]; done) | (have q := hfin hq1; rw [q.2.1, if_neg (by omega), q.2.2]; done) | (have q := hin hq1; exact ⟨(s.size - (i + 1)).toNat, (by omega), i + 1, _, rfl, (by rw [show (i + 1).toNat = i.toNat + 1 by omega, dv_take (by omega), ← hn]), (fun j hj => by by_cases e : j = i.toNat; (subst e; omega); exact hall j (by omega)), (by omega), (fun h => by omega), (fun h => by have := k0 (by omega); omega), (fun h => by have := k1 (by omega); omega), (by omega), (by omega), (by omega)⟩)
    simp only [decide_eq_false_iff_not, Bool.or_eq_false_iff] at hq2
    refine AWP.skip ?_
    refine AWP.region tcok hmix [(1, ⟨some (i64 (10 * n)), none⟩), (4, ⟨some (u8 (sAt s (Int.toNat i))), none⟩), (5, ⟨some (u8 (sAt s (Int.toNat i) - 48)), none⟩), (6, ⟨some (i64 (sAt s (Int.toNat i) - 48)), none⟩), (7, ⟨some (i64 (10 * n + (sAt s (Int.toNat i) - 48))), none⟩)] (os := [i64 (IntKind.wrap IntKind.i64 (10 * n)) = i64 (10 * n), (0 : Int) ≤ i ∧ i < (↑(ByteArray.size s) : Int), u8 (sAt s (Int.toNat i)) = u8 (sAt s (Int.toNat i)), u8 (IntKind.wrap IntKind.u8 (sAt s (Int.toNat i) - 48)) = u8 (sAt s (Int.toNat i) - 48), i64 (IntKind.wrap IntKind.i64 (sAt s (Int.toNat i) - 48)) = i64 (sAt s (Int.toNat i) - 48), i64 (IntKind.wrap IntKind.i64 (10 * n + (sAt s (Int.toNat i) - 48))) = i64 (10 * n + (sAt s (Int.toNat i) - 48))]) (sf := St.mk [(0, tp (V.val (Value.string s))), (2, tp (i64 0)), (3, tp (i64 (10 * n + (sAt s (Int.toNat i) - 48)))), (4, tp (i64 i)), (38, tp (vb (decide (sAt s (Int.toNat i) < 48) || decide (sAt s (Int.toNat i) > 57)))), (39, tp (i64 n)), (40, tp (i64 (10 * n))), (41, tp (V.val (Value.string s))), (42, tp (i64 i)), (43, tp (u8 (sAt s (Int.toNat i)))), (44, tp (u8 (sAt s (Int.toNat i) - 48))), (45, tp (i64 (sAt s (Int.toNat i) - 48))), (46, tp (i64 (10 * n + (sAt s (Int.toNat i) - 48))))] []) (by kernel_rfl) ⟨(wr_i64 (by omega) (by omega)), (by omega), rfl, (wr_u8 (by omega) (by omega)), (wr_i64 (by omega) (by omega)), (wr_i64 (by omega) (by omega)), trivial⟩ ?_
    refine AWP.keep' [0, 2, 3, 4] [] (sf := St.mk [(0, tp (V.val (Value.string s))), (2, tp (i64 0)), (3, tp (i64 (10 * n + (sAt s (Int.toNat i) - 48)))), (4, tp (i64 i))] []) (by kernel_rfl) ?_
    refine AWP.region tcok hmix [(1, ⟨some (i64 (i + 1)), none⟩)] (os := [i64 (IntKind.wrap IntKind.i64 (i + 1)) = i64 (i + 1)]) (sf := St.mk [(0, tp (V.val (Value.string s))), (2, tp (i64 0)), (3, tp (i64 (10 * n + (sAt s (Int.toNat i) - 48)))), (4, tp (i64 (i + 1))), (27, tp (i64 i)), (28, tp (i64 (i + 1)))] []) (by kernel_rfl) ⟨(wr_i64 (by omega) (by omega)), trivial⟩ ?_
    refine ⟨St.mk [(0, tp (V.val (Value.string s))), (2, tp (i64 0)), (3, tp (i64 (10 * n + (sAt s (Int.toNat i) - 48)))), (4, tp (i64 (i + 1)))] [], by kernel_rfl, ?_⟩
    first | (rw [rn_dig (i := i.toNat) (by omega) hq2]; done) | (have q := hfin hq1; rw [q.2.1, if_pos (by omega)]; done) | (have q := hfin hq1; rw [q.2.1, if_neg (by omega), q.2.2]; done) | (have q := hin hq1; exact ⟨(s.size - (i + 1)).toNat, (by omega), i + 1, _, rfl, (by rw [show (i + 1).toNat = i.toNat + 1 by omega, dv_take (by omega), ← hn]), (fun j hj => by by_cases e : j = i.toNat; (subst e; omega); exact hall j (by omega)), (by omega), (fun h => by omega), (fun h => by have := k0 (by omega); omega), (fun h => by have := k1 (by omega); omega), (by omega), (by omega), (by omega)⟩)
  simp only [decide_eq_false_iff_not] at hq1
  refine AWP.exit ?_
  refine AWP.seq ?_
  refine AWP.seq ?_
  refine AWP.regionT tcok hmix [] [2, 3, 48] [] (os := []) (s' := St.mk [(2, tp (i64 0)), (3, tp (i64 n)), (48, tp (vb (decide (n > 255))))] []) (by kernel_rfl) trivial ?_
  refine AWP.cond (b := decide (n > 255)) (by kernel_rfl) (fun hq3 => ?_) (fun hq3 => ?_)
  · simp only [decide_eq_true_eq] at hq3
    refine AWP.seq ?_
    refine AWP.regionT tcok hmix [] [2, 3] [] (os := []) (s' := St.mk [(2, tp (i64 (-1))), (3, tp (i64 n))] []) (by kernel_rfl) trivial ?_
    refine AWP.ret ?_
    refine ⟨Or.inr rfl, Eq.trans (b := some ([], i64 (-1))) (by kernel_rfl) ?_⟩
    first | (rw [rn_dig (i := i.toNat) (by omega) hq2]; done) | (have q := hfin hq1; rw [q.2.1, if_pos (by omega)]; done) | (have q := hfin hq1; rw [q.2.1, if_neg (by omega), q.2.2]; done) | (have q := hin hq1; exact ⟨(s.size - (i + 1)).toNat, (by omega), i + 1, _, rfl, (by rw [show (i + 1).toNat = i.toNat + 1 by omega, dv_take (by omega), ← hn]), (fun j hj => by by_cases e : j = i.toNat; (subst e; omega); exact hall j (by omega)), (by omega), (fun h => by omega), (fun h => by have := k0 (by omega); omega), (fun h => by have := k1 (by omega); omega), (by omega), (by omega), (by omega)⟩)
  simp only [decide_eq_false_iff_not] at hq3
  refine AWP.skip ?_
  refine AWP.seq ?_
  refine AWP.regionT tcok hmix [] [2] [] (os := []) (s' := St.mk [(2, tp (i64 n))] []) (by kernel_rfl) trivial ?_
  refine AWP.ret ?_
  refine ⟨Or.inr rfl, Eq.trans (b := some ([], i64 n)) (by kernel_rfl) ?_⟩
  first | (rw [rn_dig (i := i.toNat) (by omega) hq2]; done) | (have q := hfin hq1; rw [q.2.1, if_pos (by omega)]; done) | (have q := hfin hq1; rw [q.2.1, if_neg (by omega), q.2.2]; done) | (have q := hin hq1; exact ⟨(s.size - (i + 1)).toNat, (by omega), i + 1, _, rfl, (by rw [show (i + 1).toNat = i.toNat + 1 by omega, dv_take (by omega), ← hn]), (fun j hj => by by_cases e : j = i.toNat; (subst e; omega); exact hall j (by omega)), (by omega), (fun h => by omega), (fun h => by have := k0 (by omega); omega), (fun h => by have := k1 (by omega); omega), (by omega), (by omega), (by omega)⟩)
end Go.Proofs.YtieoaeidlcdggaaGreatDoor
