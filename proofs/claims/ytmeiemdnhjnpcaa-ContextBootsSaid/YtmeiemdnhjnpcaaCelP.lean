/- Cells: what is made is read; what is read is made. -/
import Derived.Test.YtmeiemdnhjnpcaaCelC
namespace Go.Proofs.Ytmeiemdnhjnpcaa
open Go.Ab
set_option linter.unusedSimpArgs false
set_option linter.unusedVariables false
theorem getD_app_l {a b : List Int} {i : Nat} (h : i < a.length) : (a ++ b).getD i 0 = a.getD i 0 := by
  rw [List.getD_eq_getElem?_getD, List.getD_eq_getElem?_getD, List.getElem?_append_left h]
theorem getD_app_r {a b : List Int} {i : Nat} (h : a.length ≤ i) : (a ++ b).getD i 0 = b.getD (i - a.length) 0 := by
  rw [List.getD_eq_getElem?_getD, List.getD_eq_getElem?_getD, List.getElem?_append_right h]
theorem right_app (x : List Int) : iright (x ++ sumB x) = true := by
  have hs := isum_bd x
  have hl : (x ++ sumB x).length = x.length + 2 := by simp [sumB]
  unfold iright
  rw [hl, show x.length + 2 - 2 = x.length by omega, show x.length + 2 - 1 = x.length + 1 by omega, List.take_left' rfl, getD_app_r (Nat.le_refl _), getD_app_r (by omega), show x.length - x.length = 0 by omega, show x.length + 1 - x.length = 1 by omega]
  show (decide (2 ≤ x.length + 2) && (isum x == isum x / 256 * 256 + isum x % 256)) = true
  rw [show isum x / 256 * 256 + isum x % 256 = isum x by omega]
  simp
section
variable {seq : Int} {p : List Int}
theorem mk_len : (mk seq p).length = p.length + 8 := by
  simp [mk, hd, sumB]
theorem mk_getD {i : Nat} (h : i < 6) : (mk seq p).getD i 0 = (hd seq p.length).getD i 0 := by
  unfold mk
  rw [List.append_assoc, getD_app_l (by simpa [hd] using h)]
theorem mk_cF (h : p.length ≤ 200) : cF (mk seq p) = true := by
  unfold cF
  rw [mk_getD (by omega), mk_getD (by omega), mk_len]
  show (decide (8 ≤ p.length + 8) && ((p.length : Int) / 256 * 256 + (p.length : Int) == ((p.length + 8 : Nat) : Int) - 8)) = true
  rw [show (p.length : Int) / 256 * 256 + (p.length : Int) = ((p.length + 8 : Nat) : Int) - 8 by omega]
  simp
theorem mk_cN (hs : 0 ≤ seq ∧ seq < 4294967296) : cN (mk seq p) = seq := by
  unfold cN
  rw [mk_getD (by omega), mk_getD (by omega), mk_getD (by omega), mk_getD (by omega)]
  show seq / 16777216 * 16777216 + seq / 65536 % 256 * 65536 + seq / 256 % 256 * 256 + seq % 256 = seq
  omega
theorem mk_cP : cP (mk seq p) = p := by
  unfold cP
  rw [mk_len]
  unfold mk
  rw [List.take_append_of_le_length (by simp [hd]), List.take_of_length_le (by simp [hd])]
  exact List.drop_left' (l₁ := hd seq (p.length : Int)) rfl
theorem mk_right : iright (mk seq p) = true := right_app _
theorem mk_cOk (h : p.length ≤ 200) : cOk (mk seq p) = true := by
  unfold cOk
  rw [mk_cF h, mk_right, mk_len, decide_eq_true (by omega)]
  rfl
theorem mk_cE (h : p.length ≤ 200) : cE (mk seq p) = 0 := by
  unfold cE
  rw [if_pos (mk_cF h), if_pos mk_right, if_pos (by rw [mk_len]; omega)]
theorem mk_bl (hs : 0 ≤ seq ∧ seq < 4294967296) (hp : BL p) (h : p.length ≤ 200) : BL (mk seq p) := by
  have hb := isum_bd (hd seq p.length ++ p)
  refine BL.app (BL.app (hd_bl hs (by omega)) hp) ?_
  simp only [sumB, BL, List.forall_mem_cons, List.not_mem_nil, false_implies, implies_true, and_true]
  omega
end
theorem cE_ok {q : List Int} : cE q = 0 ↔ cOk q = true := by
  unfold cE cOk
  cases cF q <;> cases iright q <;> by_cases h : q.length ≤ 208 <;> simp [h]
theorem cNo_bd {q : List Int} (h : BL q) : 0 ≤ cNo q ∧ cNo q < 4294967296 := by
  have h0 := h.at_ 0
  have h1 := h.at_ 1
  have h2 := h.at_ 2
  have h3 := h.at_ 3
  unfold cNo cN
  split <;> omega
end Go.Proofs.Ytmeiemdnhjnpcaa
