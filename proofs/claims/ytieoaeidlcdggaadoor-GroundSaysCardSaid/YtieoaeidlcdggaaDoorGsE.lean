/- The document's words: numbers behind a word; cut at spaces. -/
import Derived.Test.YtieoaeidlcdggaaDoorRg
import Derived.Test.YtieoaeidlcdggaaDoorGsD
namespace Go.Proofs.YtieoaeidlcdggaaDoor
open Go Go.Ab
set_option linter.unusedSimpArgs false
set_option linter.unusedVariables false
set_option maxRecDepth 100000
theorem con_numbers (nm : ByteArray) (l : List Int) (hb : ∀ x ∈ l, 0 ≤ x ∧ x < 256) (hn : nm.size ≤ 1000) (hl : l.length ≤ 1000) : Con Tryd.prog 21 [] [strV nm, .vs (u8s l) l.length] [] (strV (spd nm l)) := by
  refine Con.of (C := ⟨Tryd.prog, tc, Tryd.f21.ntmps⟩) [] tcok Tryd.func21 rfl rfl (by kernel_rfl) (by kernel_rfl) ?_
  refine AWP.seq ?_
  refine AWP.regionT tcok hmix [] [0, 1, 4] [] (os := []) (s' := St.mk [(0, tp (V.val (Value.string nm))), (1, tp (B8 l)), (4, tp (V.val (Value.string (ByteArray.mk #[]))))] []) (by kernel_rfl) trivial ?_
  refine AWP.seq ?_
  refine xe0 [0, 4, 7, 8, 9] [] (by kernel_rfl) ?_
  refine AWP.block ?_
  refine AWP.loopI [0, 4, 7, 8, 9] [] (fun N s => ∃ (i : Int) (z : ByteArray), s = St.mk [(0, T.plain (strV z)), (4, T.plain (strV ⟨#[]⟩)), (7, T.plain (V.vs (u8s l) (List.length l))), (8, T.plain (i64 (List.length l))), (9, T.plain (i64 i))] []
      ∧ z = spd nm (l.take i.toNat) ∧ 0 ≤ i ∧ i ≤ l.length ∧ (N : Int) = l.length - i) l.length (s0 := St.mk [(0, T.plain (strV nm)), (4, T.plain (strV ⟨#[]⟩)), (7, T.plain (V.vs (u8s l) (List.length l))), (8, T.plain (i64 (List.length l))), (9, T.plain (i64 0))] []) (by kernel_rfl) ?_ ?_
  · exact ⟨0, nm, rfl, by simp [spd], by omega, by omega, by omega⟩
  rintro N s ⟨i, z, rfl, hz, hi, hi2, hN⟩
  have kx := u8s_at l i.toNat
  have hzl : z.size ≤ 5000 := by
    have := spd_size nm (l.take i.toNat) (fun x hx => hb x (List.mem_of_mem_take hx))
    rw [List.length_take] at this
    rw [hz]
    omega
  have hx : i < l.length → 0 ≤ l.getD i.toNat 0 ∧ l.getD i.toNat 0 < 256 := fun h => by
    have h' : i.toNat < l.length := by omega
    rw [List.getD_eq_getElem?_getD, List.getElem?_eq_getElem h']
    exact hb _ (List.getElem_mem h')
  have hs0 : ByteArray.size (ByteArray.mk #[32]) = 1 := rfl
  have hs1 : i < l.length → (bb (dgs (l.getD i.toNat 0).toNat)).size ≤ 3 := fun h => bbd _ (by have := hx h; omega)
  refine AWP.seq ?_
  refine AWP.regionT tcok hmix [] [0, 4, 7, 8, 9, 10] [] (os := []) (s' := St.mk [(0, tp (V.val (Value.string z))), (4, tp (V.val (Value.string (ByteArray.mk #[])))), (7, tp (B8 l)), (8, tp (i64 (↑(List.length l) : Int))), (9, tp (i64 i)), (10, tp (vb (decide (i < (↑(List.length l) : Int)))))] []) (by kernel_rfl) trivial ?_
  refine AWP.seq ?_
  refine AWP.cond (b := decide (i < (↑(List.length l) : Int))) (by kernel_rfl) (fun hq0 => ?_) (fun hq0 => ?_)
  · simp only [decide_eq_true_eq] at hq0
    refine AWP.skip ?_
    refine AWP.seq ?_
    refine AWP.block ?_
    refine AWP.seq ?_
    refine AWP.regionT tcok hmix [(0, ⟨some (V.vp (u8 (List.getD l (Int.toNat i) 0) :: u8s (List.drop (Int.toNat i + 1) l))), none⟩)] [0, 4, 6, 7, 8, 9] [] (os := [(0 : Int) ≤ i ∧ i < (↑(List.length l) : Int), V.vp (List.drop (Int.toNat i * 1) (u8s l)) = V.vp (u8 (List.getD l (Int.toNat i) 0) :: u8s (List.drop (Int.toNat i + 1) l))]) (s' := St.mk [(0, tp (V.val (Value.string z))), (4, tp (V.val (Value.string (ByteArray.mk #[])))), (6, tp (u8 (List.getD l (Int.toNat i) 0))), (7, tp (B8 l)), (8, tp (i64 (↑(List.length l) : Int))), (9, tp (i64 i))] []) (by kernel_rfl) ⟨(by omega), (congrArg V.vp (kx (by omega))), trivial⟩ ?_
    refine AWP.region tcok hmix [(2, ⟨some (u64 (List.getD l (Int.toNat i) 0)), none⟩), (3, ⟨none, some ⟨strV (bb (dgs (Int.toNat (List.getD l (Int.toNat i) 0)))), [], []⟩⟩), (4, ⟨some (V.val (Value.string (ByteArray.mk #[32] ++ bb (dgs (Int.toNat (List.getD l (Int.toNat i) 0)))))), none⟩), (5, ⟨some (V.val (Value.string (z ++ (ByteArray.mk #[32] ++ bb (dgs (Int.toNat (List.getD l (Int.toNat i) 0))))))), none⟩)] (os := [u64 (IntKind.wrap IntKind.u64 (List.getD l (Int.toNat i) 0)) = u64 (List.getD l (Int.toNat i) 0), Con Tryd.prog 29 [] [u64 (List.getD l (Int.toNat i) 0)] [] (V.val (Value.string (bb (dgs (Int.toNat (List.getD l (Int.toNat i) 0)))))), (↑(ByteArray.size (ByteArray.mk #[(32 : UInt8)]) + ByteArray.size (bb (dgs (Int.toNat (List.getD l (Int.toNat i) (0 : Int)))))) : Int) ≤ (9223372036854775807 : Int), V.val (Value.string (ByteArray.mk #[32] ++ bb (dgs (Int.toNat (List.getD l (Int.toNat i) 0))))) = V.val (Value.string (ByteArray.mk #[32] ++ bb (dgs (Int.toNat (List.getD l (Int.toNat i) 0))))), (↑(ByteArray.size z + ByteArray.size (ByteArray.mk #[(32 : UInt8)] ++ bb (dgs (Int.toNat (List.getD l (Int.toNat i) (0 : Int)))))) : Int) ≤ (9223372036854775807 : Int), V.val (Value.string (z ++ (ByteArray.mk #[32] ++ bb (dgs (Int.toNat (List.getD l (Int.toNat i) 0)))))) = V.val (Value.string (z ++ (ByteArray.mk #[32] ++ bb (dgs (Int.toNat (List.getD l (Int.toNat i) 0))))))]) (sf := St.mk [(0, tp (V.val (Value.string (z ++ (ByteArray.mk #[32] ++ bb (dgs (Int.toNat (List.getD l (Int.toNat i) 0)))))))), (4, tp (V.val (Value.string (ByteArray.mk #[])))), (6, tp (u8 (List.getD l (Int.toNat i) 0))), (7, tp (B8 l)), (8, tp (i64 (↑(List.length l) : Int))), (9, tp (i64 i)), (13, tp (V.val (Value.string z))), (14, tp (u8 (List.getD l (Int.toNat i) 0))), (15, tp (u64 (List.getD l (Int.toNat i) 0))), (16, tp (V.val (Value.string (bb (dgs (Int.toNat (List.getD l (Int.toNat i) 0))))))), (17, tp (V.val (Value.string (ByteArray.mk #[32] ++ bb (dgs (Int.toNat (List.getD l (Int.toNat i) 0))))))), (18, tp (V.val (Value.string (z ++ (ByteArray.mk #[32] ++ bb (dgs (Int.toNat (List.getD l (Int.toNat i) 0))))))))] []) (by kernel_rfl) ⟨(wr_u64 (by omega) (by omega)), (con_dec (List.getD l (Int.toNat i) 0) (by omega)), (by omega), rfl, (by (simp only [ByteArray.size_append]; omega)), rfl, trivial⟩ ?_
    refine AWP.keep' [0, 4, 7, 8, 9] [] (sf := St.mk [(0, tp (V.val (Value.string (z ++ (ByteArray.mk #[32] ++ bb (dgs (Int.toNat (List.getD l (Int.toNat i) 0)))))))), (4, tp (V.val (Value.string (ByteArray.mk #[])))), (7, tp (B8 l)), (8, tp (i64 (↑(List.length l) : Int))), (9, tp (i64 i))] []) (by kernel_rfl) ?_
    refine AWP.region tcok hmix [(0, ⟨some (i64 (i + 1)), none⟩)] (os := [i64 (IntKind.wrap IntKind.i64 (i + 1)) = i64 (i + 1)]) (sf := St.mk [(0, tp (V.val (Value.string (z ++ (ByteArray.mk #[32] ++ bb (dgs (Int.toNat (List.getD l (Int.toNat i) 0)))))))), (4, tp (V.val (Value.string (ByteArray.mk #[])))), (7, tp (B8 l)), (8, tp (i64 (↑(List.length l) : Int))), (9, tp (i64 (i + 1))), (19, tp (i64 (i + 1)))] []) (by kernel_rfl) ⟨(wr_i64 (by omega) (by omega)), trivial⟩ ?_
    refine ⟨St.mk [(0, tp (V.val (Value.string (z ++ (ByteArray.mk #[32] ++ bb (dgs (Int.toNat (List.getD l (Int.toNat i) 0)))))))), (4, tp (V.val (Value.string (ByteArray.mk #[])))), (7, tp (B8 l)), (8, tp (i64 (↑(List.length l) : Int))), (9, tp (i64 (i + 1)))] [], by kernel_rfl, ?_⟩
    first | (have e := hz; rw [List.take_of_length_le (by omega)] at e; rw [e]; done) | (exact ⟨(l.length - (i + 1)).toNat, (by omega), i + 1, _, rfl, (by rw [show (i + 1).toNat = i.toNat + 1 by omega, take_snoc (by omega), spd_snoc, ← hz]), (by omega), (by omega), (by omega)⟩)
  simp only [decide_eq_false_iff_not] at hq0
  refine AWP.exit ?_
  refine AWP.seq ?_
  refine AWP.regionT tcok hmix [] [4] [] (os := []) (s' := St.mk [(4, tp (V.val (Value.string z)))] []) (by kernel_rfl) trivial ?_
  refine AWP.ret ?_
  refine ⟨Or.inr rfl, Eq.trans (b := some ([], V.val (Value.string z))) (by kernel_rfl) ?_⟩
  first | (have e := hz; rw [List.take_of_length_le (by omega)] at e; rw [e]; done) | (exact ⟨(l.length - (i + 1)).toNat, (by omega), i + 1, _, rfl, (by rw [show (i + 1).toNat = i.toNat + 1 by omega, take_snoc (by omega), spd_snoc, ← hz]), (by omega), (by omega), (by omega)⟩)
end Go.Proofs.YtieoaeidlcdggaaDoor
