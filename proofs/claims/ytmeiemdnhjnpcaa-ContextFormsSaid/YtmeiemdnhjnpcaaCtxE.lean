/- Chapter 8: contexts read of any bytes. -/
import Derived.Test.YtmeiemdnhjnpcaaCtxD
namespace Go.Proofs.Ytmeiemdnhjnpcaa
open Go.Ab
set_option linter.unusedSimpArgs false
set_option linter.unusedVariables false
/-- The bytes are a context. -/
def pB (l : List Int) : Bool := decide (l.length = 21 ∧ (l.getD 10 0 ≤ 16 ∧ l.getD 11 0 ≤ 16 ∧ l.getD 12 0 ≤ 16 ∧ l.getD 13 0 ≤ 16 ∧ l.getD 14 0 ≤ 16 ∧ l.getD 15 0 ≤ 16 ∧ l.getD 16 0 ≤ 3 ∧ l.getD 20 0 ≤ 31) ∧ l.getD 19 0 ≤ 1)
def pW (l : List Int) (x : Int) : Int := if pB l = true then x else 0
def pI (l : List Int) : Int := if pB l = true then 0 else 2
/-- The context that they are. -/
def PV (l : List Int) : V := .agg true [u16 (pW l (l.getD 0 0 * 256 + l.getD 1 0)), u16 (pW l (l.getD 2 0 * 256 + l.getD 3 0)), u8 (pW l (l.getD 4 0)), u8 (pW l (l.getD 5 0)), u8 (pW l (l.getD 6 0)), u8 (pW l (l.getD 7 0)), u8 (pW l (l.getD 8 0)), u8 (pW l (l.getD 9 0)), i8 (pW l (l.getD 10 0 - 1)), i8 (pW l (l.getD 11 0 - 1)), i8 (pW l (l.getD 12 0 - 1)), i8 (pW l (l.getD 13 0 - 1)), i8 (pW l (l.getD 14 0 - 1)), i8 (pW l (l.getD 15 0 - 1)), u8 (pW l (l.getD 16 0)), u16 (pW l (l.getD 17 0 * 256 + l.getD 18 0)), vb (pB l && (l.getD 19 0 == 1)), u8 (pW l (l.getD 20 0))]
theorem len21 (l : List Int) (h : l.length = 21) : ∃ b0 b1 b2 b3 b4 b5 b6 b7 b8 b9 b10 b11 b12 b13 b14 b15 b16 b17 b18 b19 b20, l = [b0, b1, b2, b3, b4, b5, b6, b7, b8, b9, b10, b11, b12, b13, b14, b15, b16, b17, b18, b19, b20] := by
  match l, h with
  | [b0, b1, b2, b3, b4, b5, b6, b7, b8, b9, b10, b11, b12, b13, b14, b15, b16, b17, b18, b19, b20], _ => exact ⟨b0, b1, b2, b3, b4, b5, b6, b7, b8, b9, b10, b11, b12, b13, b14, b15, b16, b17, b18, b19, b20, rfl⟩
theorem con_parse (l : List Int) (n : Nat) (hn : l.length = n) (hl : BL l) (hlen : n ≤ 9223372036854775807) : Con Try.prog 26 [] [.vs (u8s l) n] [] (.tup [PV l, i64 (pI l)]) := by
  subst hn
  by_cases h : l.length = 21
  · obtain ⟨b0, b1, b2, b3, b4, b5, b6, b7, b8, b9, b10, b11, b12, b13, b14, b15, b16, b17, b18, b19, b20, rfl⟩ := len21 l h
    simp only [BL, List.forall_mem_cons, List.not_mem_nil, false_implies, implies_true, and_true] at hl
    by_cases hr : b10 ≤ 16 ∧ b11 ≤ 16 ∧ b12 ≤ 16 ∧ b13 ≤ 16 ∧ b14 ≤ 16 ∧ b15 ≤ 16 ∧ b16 ≤ 3 ∧ b20 ≤ 31
    · by_cases h19 : b19 ≤ 1
      · have e : pB [b0, b1, b2, b3, b4, b5, b6, b7, b8, b9, b10, b11, b12, b13, b14, b15, b16, b17, b18, b19, b20] = true := decide_eq_true ⟨rfl, hr, h19⟩
        have := parse_y b0 b1 b2 b3 b4 b5 b6 b7 b8 b9 b10 b11 b12 b13 b14 b15 b16 b17 b18 b19 b20 (by omega) hr h19
        simp only [PV, pI, pW, e, if_true, Bool.true_and]
        exact this
      · have e : pB [b0, b1, b2, b3, b4, b5, b6, b7, b8, b9, b10, b11, b12, b13, b14, b15, b16, b17, b18, b19, b20] = false := decide_eq_false fun q => h19 q.2.2
        have := parse_n2 b0 b1 b2 b3 b4 b5 b6 b7 b8 b9 b10 b11 b12 b13 b14 b15 b16 b17 b18 b19 b20 (by omega) hr h19
        simp only [PV, pI, pW, e, Bool.false_eq_true, if_false, Bool.false_and]
        exact this
    · have e : pB [b0, b1, b2, b3, b4, b5, b6, b7, b8, b9, b10, b11, b12, b13, b14, b15, b16, b17, b18, b19, b20] = false := decide_eq_false fun q => hr q.2.1
      have := parse_n1 b0 b1 b2 b3 b4 b5 b6 b7 b8 b9 b10 b11 b12 b13 b14 b15 b16 b17 b18 b19 b20 (by omega) hr
      simp only [PV, pI, pW, e, Bool.false_eq_true, if_false, Bool.false_and]
      exact this
  · have e : pB l = false := decide_eq_false fun q => h q.1
    have := parse_l l hlen h
    simp only [PV, pI, pW, e, Bool.false_eq_true, if_false, Bool.false_and]
    exact this
theorem con_rparse (l : List Int) (n : Nat) (hn : l.length = n) (hl : BL l) (hlen : n ≤ 9223372036854775807) : Con Try.prog 27 [] [.vs (u8s l) n] [] (.tup [PV l, vb (pB l)]) := by
  subst hn
  by_cases h : l.length = 21
  · obtain ⟨b0, b1, b2, b3, b4, b5, b6, b7, b8, b9, b10, b11, b12, b13, b14, b15, b16, b17, b18, b19, b20, rfl⟩ := len21 l h
    simp only [BL, List.forall_mem_cons, List.not_mem_nil, false_implies, implies_true, and_true] at hl
    by_cases hr : (b10 ≤ 16 ∧ b11 ≤ 16 ∧ b12 ≤ 16 ∧ b13 ≤ 16 ∧ b14 ≤ 16 ∧ b15 ≤ 16 ∧ b16 ≤ 3 ∧ b20 ≤ 31) ∧ b19 ≤ 1
    · have e : pB [b0, b1, b2, b3, b4, b5, b6, b7, b8, b9, b10, b11, b12, b13, b14, b15, b16, b17, b18, b19, b20] = true := decide_eq_true ⟨rfl, hr⟩
      have := rparse_y b0 b1 b2 b3 b4 b5 b6 b7 b8 b9 b10 b11 b12 b13 b14 b15 b16 b17 b18 b19 b20 (by omega) hr.1 hr.2
      simp only [PV, pW, e, if_true, Bool.true_and]
      exact this
    · have e : pB [b0, b1, b2, b3, b4, b5, b6, b7, b8, b9, b10, b11, b12, b13, b14, b15, b16, b17, b18, b19, b20] = false := decide_eq_false fun q => hr q.2
      have := rparse_n b0 b1 b2 b3 b4 b5 b6 b7 b8 b9 b10 b11 b12 b13 b14 b15 b16 b17 b18 b19 b20 (by omega) hr
      simp only [PV, pW, e, Bool.false_eq_true, if_false, Bool.false_and]
      exact this
  · have e : pB l = false := decide_eq_false fun q => h q.1
    have := rparse_l l hlen h
    simp only [PV, pW, e, Bool.false_eq_true, if_false, Bool.false_and]
    exact this
end Go.Proofs.Ytmeiemdnhjnpcaa
