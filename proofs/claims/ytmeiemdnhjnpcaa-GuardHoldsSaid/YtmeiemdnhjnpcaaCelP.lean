/- Cells: what is made is read; what is read is made. -/
import Derived.Test.YtmeiemdnhjnpcaaCelC
namespace Go.Proofs.Ytmeiemdnhjnpcaa
open Go.Ab
set_option linter.unusedSimpArgs false
set_option linter.unusedVariables false
theorem getD_app_l {a b : List Int} {i : Nat} (h : i < a.length) : (a ++ b).getD i 0 = a.getD i 0 := by
  rw [List.getD_eq_getElem?_getD, List.getD_eq_getElem?_getD, List.getElem?_append_left h]
theorem getD_app_r {a b : List Int} {i : Nat} (h : a.length ≤ i) : (a ++ b).getD i 0 = b.getD (i - a.length) 0 := by
  rw [List.getD_eq_getElem?_getD, List.getD_eq_getElem?_getD, List.getElem?_append_right h]
theorem right_app (x : List Int) : iright (x ++ sumB x) = true := by
  have hs := isum_bd x
  have hl : (x ++ sumB x).length = x.length + 2 := by simp [sumB]
  unfold iright
  rw [hl, show x.length + 2 - 2 = x.length by omega, show x.length + 2 - 1 = x.length + 1 by omega, List.take_left' rfl, getD_app_r (Nat.le_refl _), getD_app_r (by omega), show x.length - x.length = 0 by omega, show x.length + 1 - x.length = 1 by omega]
  show (decide (2 ≤ x.length + 2) && (isum x == isum x / 256 * 256 + isum x % 256)) = true
  rw [show isum x / 256 * 256 + isum x % 256 = isum x by omega]
  simp
section
variable {seq : Int} {p : List Int}
theorem mk_len : (mk seq p).length = p.length + 8 := by
  simp [mk, hd, sumB]
theorem mk_getD {i : Nat} (h : i < 6) : (mk seq p).getD i 0 = (hd seq p.length).getD i 0 := by
  unfold mk
  rw [List.append_assoc, getD_app_l (by simpa [hd] using h)]
theorem mk_cF (h : p.length ≤ 200) : cF (mk seq p) = true := by
  unfold cF
  rw [mk_getD (by omega), mk_getD (by omega), mk_len]
  show (decide (8 ≤ p.length + 8) && ((p.length : Int) / 256 * 256 + (p.length : Int) == ((p.length + 8 : Nat) : Int) - 8)) = true
  rw [show (p.length : Int) / 256 * 256 + (p.length : Int) = ((p.length + 8 : Nat) : Int) - 8 by omega]
  simp
theorem mk_cN (hs : 0 ≤ seq ∧ seq < 4294967296) : cN (mk seq p) = seq := by
  unfold cN
  rw [mk_getD (by omega), mk_getD (by omega), mk_getD (by omega), mk_getD (by omega)]
  show seq / 16777216 * 16777216 + seq / 65536 % 256 * 65536 + seq / 256 % 256 * 256 + seq % 256 = seq
  omega
theorem mk_cP : cP (mk seq p) = p := by
  unfold cP
  rw [mk_len]
  unfold mk
  rw [List.take_append_of_le_length (by simp [hd]), List.take_of_length_le (by simp [hd])]
  exact List.drop_left' (l₁ := hd seq (p.length : Int)) rfl
theorem mk_right : iright (mk seq p) = true := right_app _
theorem mk_cOk (h : p.length ≤ 200) : cOk (mk seq p) = true := by
  unfold cOk
  rw [mk_cF h, mk_right, mk_len, decide_eq_true (by omega)]
  rfl
theorem mk_cE (h : p.length ≤ 200) : cE (mk seq p) = 0 := by
  unfold cE
  rw [if_pos (mk_cF h), if_pos mk_right, if_pos (by rw [mk_len]; omega)]
theorem mk_bl (hs : 0 ≤ seq ∧ seq < 4294967296) (hp : BL p) (h : p.length ≤ 200) : BL (mk seq p) := by
  have hb := isum_bd (hd seq p.length ++ p)
  refine BL.app (BL.app (hd_bl hs (by omega)) hp) ?_
  simp only [sumB, BL, List.forall_mem_cons, List.not_mem_nil, false_implies, implies_true, and_true]
  omega
end
theorem cE_ok {q : List Int} : cE q = 0 ↔ cOk q = true := by
  unfold cE cOk
  cases cF q <;> cases iright q <;> by_cases h : q.length ≤ 208 <;> simp [h]
theorem cNo_bd {q : List Int} (h : BL q) : 0 ≤ cNo q ∧ cNo q < 4294967296 := by
  have h0 := h.at_ 0
  have h1 := h.at_ 1
  have h2 := h.at_ 2
  have h3 := h.at_ 3
  unfold cNo cN
  split <;> omega
theorem cPo_len (q : List Int) : (cPo q).length ≤ 200 := by
  unfold cPo
  split
  · rename_i h
    simp only [cOk, Bool.and_eq_true, decide_eq_true_eq] at h
    rw [cP_len (cF_len h.1)]
    omega
  · simp
theorem cPo_bl {q : List Int} (h : BL q) : BL (cPo q) := by
  unfold cPo
  split
  · exact BL.drop (BL.take h _) _
  · exact BL.nil
theorem list6 (q : List Int) (h : 6 ≤ q.length) : q.take 6 = [q.getD 0 0, q.getD 1 0, q.getD 2 0, q.getD 3 0, q.getD 4 0, q.getD 5 0] := by
  match q, h with
  | a :: b :: c :: d :: e :: f :: r, _ => rfl
theorem last2 (q : List Int) (h : 2 ≤ q.length) : q.drop (q.length - 2) = [q.getD (q.length - 2) 0, q.getD (q.length - 1) 0] := by
  have hl : (q.drop (q.length - 2)).length = 2 := by rw [List.length_drop]; omega
  have e0 : (q.drop (q.length - 2)).getD 0 0 = q.getD (q.length - 2) 0 := drop_getD _ _ _
  have e1 : (q.drop (q.length - 2)).getD 1 0 = q.getD (q.length - 1) 0 := by
    rw [drop_getD, show q.length - 2 + 1 = q.length - 1 by omega]
  rw [← e0, ← e1]
  generalize q.drop (q.length - 2) = r at hl
  match r, hl with
  | [a, b], _ => rfl
/-- What is read is what it was made of. -/
theorem mk_of {q : List Int} (hq : BL q) (h : cE q = 0) : mk (cNo q) (cPo q) = q := by
  have hok := cE_ok.1 h
  have hok' := hok
  simp only [cOk, Bool.and_eq_true, decide_eq_true_eq] at hok
  obtain ⟨hF, hR, hg⟩ := hok
  have h8 := cF_len hF
  have e := cF_yes hF
  rw [drop_getD, drop_getD] at e
  have e : q.getD 4 0 * 256 + q.getD 5 0 = (q.length : Int) - 6 - 2 := e
  have h0 := hq.at_ 0
  have h1 := hq.at_ 1
  have h2 := hq.at_ 2
  have h3 := hq.at_ 3
  have h4 := hq.at_ 4
  have h5 := hq.at_ 5
  have hx := hq.at_ (q.length - 2)
  have hy := hq.at_ (q.length - 1)
  unfold cNo cPo
  rw [if_pos hok', if_pos hok']
  have hh : hd (cN q) ((cP q).length : Int) = q.take 6 := by
    rw [list6 q (by omega), cP_len h8]
    unfold hd cN
    have : ((q.length - 8 : Nat) : Int) = (q.length : Int) - 8 := by omega
    rw [this]
    congr 1
    · omega
    congr 1
    · omega
    congr 1
    · omega
    congr 1
    · omega
    congr 1
    · omega
    congr 1
    omega
  have hf : hd (cN q) ((cP q).length : Int) ++ cP q = q.take (q.length - 2) := by
    rw [hh]
    unfold cP
    have e2 : q.take 6 = (q.take (q.length - 2)).take 6 := by rw [List.take_take, Nat.min_eq_left (by omega)]
    rw [e2, List.take_append_drop]
  unfold mk
  rw [hf]
  have hs : isum (q.take (q.length - 2)) = q.getD (q.length - 2) 0 * 256 + q.getD (q.length - 1) 0 := by
    unfold iright at hR
    simp only [Bool.and_eq_true, beq_iff_eq] at hR
    exact hR.2
  have hb : sumB (q.take (q.length - 2)) = q.drop (q.length - 2) := by
    rw [last2 q (by omega)]
    unfold sumB
    rw [hs]
    congr 1
    · omega
    · congr 1
      omega
  rw [hb, List.take_append_drop]
end Go.Proofs.Ytmeiemdnhjnpcaa
