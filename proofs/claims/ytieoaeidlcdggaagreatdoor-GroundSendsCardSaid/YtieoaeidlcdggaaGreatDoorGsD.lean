/- The document's and the ground's words: numbers, texts. -/
import Derived.Test.YtieoaeidlcdggaaGreatDoorRg
import Derived.Test.YtieoaeidlcdggaaGreatDoorGsC
import Derived.Test.YtieoaeidlcdggaaGreatDoorAb34
namespace Go.Proofs.YtieoaeidlcdggaaGreatDoor
open Go Go.Ab
set_option linter.unusedSimpArgs false
set_option linter.unusedVariables false
set_option maxRecDepth 100000
/-- A text's beginning. -/
def txt (s : ByteArray) (m : Nat) : ByteArray := s.extract 0 (min s.size m)
theorem con_text (s : ByteArray) (m : Int) (hm : 0 ≤ m ∧ m ≤ 1000000) (hs : s.size ≤ 9223372036854775807) : Con Tryz.prog 5 [] [strV s, i64 m] [] (strV (txt s m.toNat)) := by
  have wfm : imin (s.size : Int) m = ((min s.size m.toNat : Nat) : Int) := by unfold imin; split <;> omega
  refine Con.of (C := ⟨Tryz.prog, tc, Tryz.f5.ntmps⟩) [] tcok Tryz.func5 rfl rfl (by kernel_rfl) (by kernel_rfl) ?_
  refine AWP.seq ?_
  refine AWP.regionT tcok hmix [] [0, 1, 4] [] (os := []) (s' := St.mk [(0, tp (V.val (Value.string s))), (1, tp (i64 m)), (4, tp (V.val (Value.string (ByteArray.mk #[]))))] []) (by kernel_rfl) trivial ?_
  refine xe1 (os := [i64 (imin (↑(ByteArray.size s) : Int) m) = i64 (↑(min (ByteArray.size s) (Int.toNat m)) : Int), (0 : Int) ≤ (↑(0 : Nat) : Int) ∧ (↑(0 : Nat) : Int) ≤ (↑(min (ByteArray.size s) (Int.toNat m)) : Int) ∧ (↑(min (ByteArray.size s) (Int.toNat m)) : Int) ≤ (↑(ByteArray.size s) : Int), V.val (Value.string (ByteArray.extract s (Int.toNat (↑0 : Int)) (Int.toNat (↑(min (ByteArray.size s) (Int.toNat m)) : Int)))) = V.val (Value.string (ByteArray.extract s (Int.toNat (↑0 : Int)) (Int.toNat (↑(min (ByteArray.size s) (Int.toNat m)) : Int))))]) [(4, ⟨some (i64 (↑(min (ByteArray.size s) (Int.toNat m)) : Int)), none⟩), (5, ⟨some (V.val (Value.string (ByteArray.extract s (Int.toNat (↑0 : Int)) (Int.toNat (↑(min (ByteArray.size s) (Int.toNat m)) : Int))))), none⟩)] [4] [] (by kernel_rfl) ⟨(in_eq wfm), (by omega), rfl, trivial⟩ ?_
  refine AWP.ret ?_
  refine ⟨Or.inr rfl, Eq.trans (b := some ([], V.val (Value.string (ByteArray.extract s (Int.toNat 0) (Int.toNat (↑(min (ByteArray.size s) (Int.toNat m)) : Int)))))) (by kernel_rfl) ?_⟩
  rfl
theorem bbd (n : Nat) (h : n < 256) : (bb (dgs n)).size ≤ 3 := by
  rw [bb_size]
  exact (dgs_dig ⟨n, h⟩).2.2.1
theorem con_itoaI (n : Int) (h : 0 ≤ n ∧ n < 256) : Con Tryz.prog 32 [] [i64 n] [] (strV (bb (dgs n.toNat))) := by
  have := con_itoa n.toNat (by omega)
  rwa [show ((n.toNat : Nat) : Int) = n by omega] at this
/-- A word, and numbers. -/
def spd (nm : ByteArray) (l : List Int) : ByteArray := l.foldl (fun a n => a ++ ((⟨#[32]⟩ : ByteArray) ++ bb (dgs n.toNat))) nm
theorem spd_snoc (nm : ByteArray) (l : List Int) (n : Int) : spd nm (l ++ [n]) = spd nm l ++ ((⟨#[32]⟩ : ByteArray) ++ bb (dgs n.toNat)) := by simp [spd]
theorem spd_size (nm : ByteArray) : ∀ l : List Int, (∀ x ∈ l, 0 ≤ x ∧ x < 256) → (spd nm l).size ≤ nm.size + 4 * l.length := by
  suffices h : ∀ (k : Nat) (l : List Int), l.length = k → (∀ x ∈ l, 0 ≤ x ∧ x < 256) → (spd nm l).size ≤ nm.size + 4 * l.length from fun l => h _ l rfl
  intro k
  induction k with
  | zero =>
    intro l hl _
    have : l = [] := List.length_eq_zero_iff.1 hl
    subst this
    simp [spd]
  | succ k ih =>
    intro l hl hb
    have hne : l ≠ [] := fun e => by subst e; simp at hl
    obtain ⟨r, x, rfl⟩ : ∃ r x, l = r ++ [x] := ⟨l.dropLast, l.getLast hne, (List.dropLast_concat_getLast hne).symm⟩
    have h1 := ih r (by simp at hl; omega) (fun y hy => hb y (by simp [hy]))
    have hx := hb x (by simp)
    have h2 := (dgs_dig ⟨x.toNat, by omega⟩).2.2.1
    rw [spd_snoc, ByteArray.size_append, ByteArray.size_append, bb_size]
    have h3 : ByteArray.size ⟨#[32]⟩ = 1 := rfl
    simp only [List.length_append, List.length_singleton]
    simp only at h2
    omega
theorem take_snoc {l : List Int} {i : Nat} (h : i < l.length) : l.take (i + 1) = l.take i ++ [l.getD i 0] := by
  rw [List.take_add_one]
  simp [List.getD_eq_getElem?_getD, List.getElem?_eq_getElem h]
theorem con_spaced (nm : ByteArray) (l : List Int) (hb : ∀ x ∈ l, 0 ≤ x ∧ x < 256) (hn : nm.size ≤ 1000) (hl : l.length ≤ 1000) : Con Tryz.prog 30 [] [strV nm, .vs (u8s l) l.length] [] (strV (spd nm l)) := by
  refine Con.of (C := ⟨Tryz.prog, tc, Tryz.f30.ntmps⟩) [] tcok Tryz.func30 rfl rfl (by kernel_rfl) (by kernel_rfl) ?_
  refine AWP.seq ?_
  refine AWP.regionT tcok hmix [] [0, 1, 4] [] (os := []) (s' := St.mk [(0, tp (V.val (Value.string nm))), (1, tp (B8 l)), (4, tp (V.val (Value.string (ByteArray.mk #[]))))] []) (by kernel_rfl) trivial ?_
  refine AWP.seq ?_
  refine xe0 [0, 4, 7, 8, 9] [] (by kernel_rfl) ?_
  refine AWP.block ?_
  refine AWP.loopI [0, 4, 7, 8, 9] [] (fun N s => ∃ (i : Int) (z : ByteArray), s = St.mk [(0, T.plain (strV z)), (4, T.plain (strV ⟨#[]⟩)), (7, T.plain (V.vs (u8s l) (List.length l))), (8, T.plain (i64 (List.length l))), (9, T.plain (i64 i))] []
      ∧ z = spd nm (l.take i.toNat) ∧ 0 ≤ i ∧ i ≤ l.length ∧ (N : Int) = l.length - i) l.length (s0 := St.mk [(0, T.plain (strV nm)), (4, T.plain (strV ⟨#[]⟩)), (7, T.plain (V.vs (u8s l) (List.length l))), (8, T.plain (i64 (List.length l))), (9, T.plain (i64 0))] []) (by kernel_rfl) ?_ ?_
  · exact ⟨0, nm, rfl, by simp [spd], by omega, by omega, by omega⟩
  rintro N s ⟨i, z, rfl, hz, hi, hi2, hN⟩
  have kx := u8s_at l i.toNat
  have hzl : z.size ≤ 5000 := by
    have := spd_size nm (l.take i.toNat) (fun x hx => hb x (List.mem_of_mem_take hx))
    rw [List.length_take] at this
    rw [hz]
    omega
  have hx : i < l.length → 0 ≤ l.getD i.toNat 0 ∧ l.getD i.toNat 0 < 256 := fun h => by
    have h' : i.toNat < l.length := by omega
    rw [List.getD_eq_getElem?_getD, List.getElem?_eq_getElem h']
    exact hb _ (List.getElem_mem h')
  have hs0 : ByteArray.size (ByteArray.mk #[32]) = 1 := rfl
  have hs1 : i < l.length → (bb (dgs (l.getD i.toNat 0).toNat)).size ≤ 3 := fun h => bbd _ (by have := hx h; omega)
  refine AWP.seq ?_
  refine AWP.regionT tcok hmix [] [0, 4, 7, 8, 9, 10] [] (os := []) (s' := St.mk [(0, tp (V.val (Value.string z))), (4, tp (V.val (Value.string (ByteArray.mk #[])))), (7, tp (B8 l)), (8, tp (i64 (↑(List.length l) : Int))), (9, tp (i64 i)), (10, tp (vb (decide (i < (↑(List.length l) : Int)))))] []) (by kernel_rfl) trivial ?_
  refine AWP.seq ?_
  refine AWP.cond (b := decide (i < (↑(List.length l) : Int))) (by kernel_rfl) (fun hq0 => ?_) (fun hq0 => ?_)
  · simp only [decide_eq_true_eq] at hq0
    refine AWP.skip ?_
    refine AWP.seq ?_
    refine AWP.block ?_
    refine AWP.seq ?_
    refine AWP.regionT tcok hmix [(0, ⟨some (V.vp (u8 (List.getD l (Int.toNat i) 0) :: u8s (List.drop (Int.toNat i + 1) l))), none⟩)] [0, 4, 6, 7, 8, 9] [] (os := [(0 : Int) ≤ i ∧ i < (↑(List.length l) : Int), V.vp (List.drop (Int.toNat i * 1) (u8s l)) = V.vp (u8 (List.getD l (Int.toNat i) 0) :: u8s (List.drop (Int.toNat i + 1) l))]) (s' := St.mk [(0, tp (V.val (Value.string z))), (4, tp (V.val (Value.string (ByteArray.mk #[])))), (6, tp (u8 (List.getD l (Int.toNat i) 0))), (7, tp (B8 l)), (8, tp (i64 (↑(List.length l) : Int))), (9, tp (i64 i))] []) (by kernel_rfl) ⟨(by omega), (congrArg V.vp (kx (by omega))), trivial⟩ ?_
    refine AWP.region tcok hmix [(2, ⟨some (i64 (List.getD l (Int.toNat i) 0)), none⟩), (3, ⟨none, some ⟨strV (bb (dgs (Int.toNat (List.getD l (Int.toNat i) 0)))), [], []⟩⟩), (4, ⟨some (V.val (Value.string (ByteArray.mk #[32] ++ bb (dgs (Int.toNat (List.getD l (Int.toNat i) 0)))))), none⟩), (5, ⟨some (V.val (Value.string (z ++ (ByteArray.mk #[32] ++ bb (dgs (Int.toNat (List.getD l (Int.toNat i) 0))))))), none⟩)] (os := [i64 (IntKind.wrap IntKind.i64 (List.getD l (Int.toNat i) 0)) = i64 (List.getD l (Int.toNat i) 0), Con Tryz.prog 32 [] [i64 (List.getD l (Int.toNat i) 0)] [] (V.val (Value.string (bb (dgs (Int.toNat (List.getD l (Int.toNat i) 0)))))), (↑(ByteArray.size (ByteArray.mk #[(32 : UInt8)]) + ByteArray.size (bb (dgs (Int.toNat (List.getD l (Int.toNat i) (0 : Int)))))) : Int) ≤ (9223372036854775807 : Int), V.val (Value.string (ByteArray.mk #[32] ++ bb (dgs (Int.toNat (List.getD l (Int.toNat i) 0))))) = V.val (Value.string (ByteArray.mk #[32] ++ bb (dgs (Int.toNat (List.getD l (Int.toNat i) 0))))), (↑(ByteArray.size z + ByteArray.size (ByteArray.mk #[(32 : UInt8)] ++ bb (dgs (Int.toNat (List.getD l (Int.toNat i) (0 : Int)))))) : Int) ≤ (9223372036854775807 : Int), V.val (Value.string (z ++ (ByteArray.mk #[32] ++ bb (dgs (Int.toNat (List.getD l (Int.toNat i) 0)))))) = V.val (Value.string (z ++ (ByteArray.mk #[32] ++ bb (dgs (Int.toNat (List.getD l (Int.toNat i) 0))))))]) (sf := St.mk [(0, tp (V.val (Value.string (z ++ (ByteArray.mk #[32] ++ bb (dgs (Int.toNat (List.getD l (Int.toNat i) 0)))))))), (4, tp (V.val (Value.string (ByteArray.mk #[])))), (6, tp (u8 (List.getD l (Int.toNat i) 0))), (7, tp (B8 l)), (8, tp (i64 (↑(List.length l) : Int))), (9, tp (i64 i)), (13, tp (V.val (Value.string z))), (14, tp (u8 (List.getD l (Int.toNat i) 0))), (15, tp (i64 (List.getD l (Int.toNat i) 0))), (16, tp (V.val (Value.string (bb (dgs (Int.toNat (List.getD l (Int.toNat i) 0))))))), (17, tp (V.val (Value.string (ByteArray.mk #[32] ++ bb (dgs (Int.toNat (List.getD l (Int.toNat i) 0))))))), (18, tp (V.val (Value.string (z ++ (ByteArray.mk #[32] ++ bb (dgs (Int.toNat (List.getD l (Int.toNat i) 0))))))))] []) (by kernel_rfl) ⟨(wr_i64 (by omega) (by omega)), (con_itoaI (List.getD l (Int.toNat i) 0) (by omega)), (by omega), rfl, (by (simp only [ByteArray.size_append]; omega)), rfl, trivial⟩ ?_
    refine AWP.keep' [0, 4, 7, 8, 9] [] (sf := St.mk [(0, tp (V.val (Value.string (z ++ (ByteArray.mk #[32] ++ bb (dgs (Int.toNat (List.getD l (Int.toNat i) 0)))))))), (4, tp (V.val (Value.string (ByteArray.mk #[])))), (7, tp (B8 l)), (8, tp (i64 (↑(List.length l) : Int))), (9, tp (i64 i))] []) (by kernel_rfl) ?_
    refine AWP.region tcok hmix [(0, ⟨some (i64 (i + 1)), none⟩)] (os := [i64 (IntKind.wrap IntKind.i64 (i + 1)) = i64 (i + 1)]) (sf := St.mk [(0, tp (V.val (Value.string (z ++ (ByteArray.mk #[32] ++ bb (dgs (Int.toNat (List.getD l (Int.toNat i) 0)))))))), (4, tp (V.val (Value.string (ByteArray.mk #[])))), (7, tp (B8 l)), (8, tp (i64 (↑(List.length l) : Int))), (9, tp (i64 (i + 1))), (19, tp (i64 (i + 1)))] []) (by kernel_rfl) ⟨(wr_i64 (by omega) (by omega)), trivial⟩ ?_
    refine ⟨St.mk [(0, tp (V.val (Value.string (z ++ (ByteArray.mk #[32] ++ bb (dgs (Int.toNat (List.getD l (Int.toNat i) 0)))))))), (4, tp (V.val (Value.string (ByteArray.mk #[])))), (7, tp (B8 l)), (8, tp (i64 (↑(List.length l) : Int))), (9, tp (i64 (i + 1)))] [], by kernel_rfl, ?_⟩
    first | (have e := hz; rw [List.take_of_length_le (by omega)] at e; rw [e]; done) | (exact ⟨(l.length - (i + 1)).toNat, (by omega), i + 1, _, rfl, (by rw [show (i + 1).toNat = i.toNat + 1 by omega, take_snoc (by omega), spd_snoc, ← hz]), (by omega), (by omega), (by omega)⟩)
  simp only [decide_eq_false_iff_not] at hq0
  refine AWP.exit ?_
  refine AWP.seq ?_
  refine AWP.regionT tcok hmix [] [4] [] (os := []) (s' := St.mk [(4, tp (V.val (Value.string z)))] []) (by kernel_rfl) trivial ?_
  refine AWP.ret ?_
  refine ⟨Or.inr rfl, Eq.trans (b := some ([], V.val (Value.string z))) (by kernel_rfl) ?_⟩
  first | (have e := hz; rw [List.take_of_length_le (by omega)] at e; rw [e]; done) | (exact ⟨(l.length - (i + 1)).toNat, (by omega), i + 1, _, rfl, (by rw [show (i + 1).toNat = i.toNat + 1 by omega, take_snoc (by omega), spd_snoc, ← hz]), (by omega), (by omega), (by omega)⟩)
end Go.Proofs.YtieoaeidlcdggaaGreatDoor
