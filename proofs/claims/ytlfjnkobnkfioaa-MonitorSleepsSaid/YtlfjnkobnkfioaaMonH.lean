/- Chapter 16: a rule looks: what is so in every case. -/
import Derived.Test.YtlfjnkobnkfioaaMonG
namespace Go.Proofs.Ytlfjnkobnkfioaa
open Go.Ab
set_option linter.unusedSimpArgs false
set_option linter.unusedVariables false
set_option maxHeartbeats 8000000
set_option maxRecDepth 100000
/-- A rule, and what it has seen. -/
structure Ru where
  kd : Int
  pa : Int
  lo : Int
  hi : Int
  ma : Int
  wa : Int
  rp : Int
  ev : Int
  lv : Int
  un : Int
  en : Bool
structure Se where
  st : Int
  fo : Int
  ti : Int
  la : Int
  an : Bool
structure AtG (L : List V) (off : Nat) (u : Ru) (e : Se) : Prop where
  f0 : gI L off = u8 u.kd
  f1 : gI L (off + 1) = i64 u.pa
  f2 : gI L (off + 2) = i32 u.lo
  f3 : gI L (off + 3) = i32 u.hi
  f4 : gI L (off + 4) = u32 u.ma
  f5 : gI L (off + 5) = u32 u.wa
  f6 : gI L (off + 6) = u8 u.rp
  f7 : gI L (off + 7) = u8 u.ev
  f8 : gI L (off + 8) = u8 u.lv
  f9 : gI L (off + 9) = i64 u.un
  f10 : gI L (off + 10) = vb u.en
  f11 : gI L (off + 11) = u8 e.st
  f12 : gI L (off + 12) = u8 e.fo
  f13 : gI L (off + 13) = u8 e.ti
  f14 : gI L (off + 14) = i32 e.la
  f15 : gI L (off + 15) = vb e.an
theorem drop_gI {L : List V} {k : Nat} {x : V} (h : k < L.length) (e : gI L k = x) : L.drop k = x :: L.drop (k + 1) := by
  rw [List.drop_eq_getElem_cons h, ← e]
  unfold gI
  rw [List.getD_eq_getElem?_getD, List.getElem?_eq_getElem h]
  rfl
theorem AtG.at {L : List V} {off : Nat} {u : Ru} {e : Se} (h : AtG L off u e) (hl : L.length = 257) (ho : off + 16 ≤ 257) : At L off u.kd u.pa u.lo u.hi u.ma u.wa u.rp u.ev u.lv u.un u.en e.st e.fo e.ti e.la e.an :=
  ⟨hl, ho, h.f6, h.f11, h.f12, h.f13, h.f14, h.f15, L.drop (off + 11), by
    rw [drop_gI (by omega) h.f0, drop_gI (by omega) h.f1, drop_gI (by omega) h.f2, drop_gI (by omega) h.f3, drop_gI (by omega) h.f4, drop_gI (by omega) h.f5, drop_gI (by omega) h.f6, drop_gI (by omega) h.f7, drop_gI (by omega) h.f8, drop_gI (by omega) h.f9, drop_gI (by omega) h.f10]⟩
theorem AtG.other {L L' : List V} {off off2 : Nat} {u : Ru} {e : Se} (h : AtG L off2 u e) (hd : off2 + 16 ≤ off ∨ off + 16 ≤ off2) (hs : ∀ b, (b < off ∨ off + 16 ≤ b) → gI L' b = gI L b) : AtG L' off2 u e :=
  ⟨(hs _ (by omega)).trans h.f0, (hs _ (by omega)).trans h.f1, (hs _ (by omega)).trans h.f2, (hs _ (by omega)).trans h.f3, (hs _ (by omega)).trans h.f4, (hs _ (by omega)).trans h.f5, (hs _ (by omega)).trans h.f6, (hs _ (by omega)).trans h.f7, (hs _ (by omega)).trans h.f8, (hs _ (by omega)).trans h.f9, (hs _ (by omega)).trans h.f10, (hs _ (by omega)).trans h.f11, (hs _ (by omega)).trans h.f12, (hs _ (by omega)).trans h.f13, (hs _ (by omega)).trans h.f14, (hs _ (by omega)).trans h.f15⟩
structure RuOk (u : Ru) : Prop where
  kd : 0 ≤ u.kd ∧ u.kd < 256
  lo : -2147483648 ≤ u.lo ∧ u.lo ≤ 2147483647
  hi : -2147483648 ≤ u.hi ∧ u.hi ≤ 2147483647
  rp : 0 ≤ u.rp ∧ u.rp < 256
structure SeOk (e : Se) : Prop where
  st : 0 ≤ e.st ∧ e.st < 5
  ti : 0 ≤ e.ti ∧ e.ti < 256
  la : -2147483648 ≤ e.la ∧ e.la ≤ 2147483647
theorem look_bd (kd pa lo hi ma wa v la : Int) (f : Bool) : 0 ≤ look kd pa lo hi ma wa v la f ∧ look kd pa lo hi ma wa v la f < 5 := by
  unfold look betw
  (repeat' split) <;> omega
theorem con_look_any (L : List V) (off : Nat) (u : Ru) (e : Se) (v : Int) (hL : L.length = 257) (ho : off + 16 ≤ 257) (h : AtG L off u e) (hu : RuOk u) (he : SeOk e) (hv : -2147483648 ≤ v ∧ v ≤ 2147483647) :
    ∃ (L' : List V) (e' : Se) (ch : Bool), Con Try.prog 43 [(1000000000, ⟨L, true, 257, none⟩)] [.ptr 1000000000 off, i32 v] [(1000000000, ⟨L', true, 257, none⟩)] (vb ch) ∧ L'.length = 257 ∧ AtG L' off u e' ∧ (∀ b, (b < off ∨ off + 16 ≤ b) → gI L' b = gI L b) ∧ SeOk e' ∧
      (ch = true → e'.st ≠ e.st ∧ e'.st ≠ 0) ∧ (ch = false → e'.st = e.st) := by
  have hat := h.at hL ho
  obtain ⟨s, hs⟩ : ∃ s, look u.kd u.pa u.lo u.hi u.ma u.wa v e.la (!e.an) = s := ⟨_, rfl⟩
  have hsb : 0 ≤ s ∧ s < 5 := by rw [← hs]; exact look_bd _ _ _ _ _ _ _ _ _
  have hti := he.ti
  have hst := he.st
  have hrp := hu.rp
  by_cases h0 : s = 0
  · refine ⟨_, ⟨e.st, 0, 0, v, true⟩, false, con_look_U L off _ _ _ _ _ _ _ _ _ _ _ _ _ _ v s _ _ hat hu.kd hu.lo hu.hi hv he.la hs h0, (by simp only [len_putC]; exact hL), ?_, ?_, ⟨he.st, (show (0 : Int) ≤ 0 ∧ (0 : Int) < 256 by omega), hv⟩, fun q => (by cases q), fun _ => rfl⟩
    · constructor <;> (repeat (first | exact h.f0 | exact h.f1 | exact h.f2 | exact h.f3 | exact h.f4 | exact h.f5 | exact h.f6 | exact h.f7 | exact h.f8 | exact h.f9 | exact h.f10 | exact h.f11 | exact h.f12 | exact h.f13 | exact gI_putC_eq (by first | omega | (simp only [len_putC]; omega)) | refine gI_putC_ne (by omega) ?_))
    · intro b hb
      repeat (first | rfl | refine gI_putC_ne (by omega) ?_)
  by_cases hf : s = e.fo
  · by_cases hc : e.st = s
    · by_cases h255 : e.ti < 255
      · refine ⟨_, ⟨e.st, e.fo, e.ti + 1, v, true⟩, false, con_look_A L off _ _ _ _ _ _ _ _ _ _ _ _ _ _ v s _ _ hat hu.kd hu.lo hu.hi hv he.la hs ⟨hti.1, h255⟩ h0 hf (.inr hc), (by simp only [len_putC]; exact hL), ?_, ?_, ⟨he.st, (show 0 ≤ e.ti + 1 ∧ e.ti + 1 < 256 by omega), hv⟩, fun q => (by cases q), fun _ => rfl⟩
        · constructor <;> (repeat (first | exact h.f0 | exact h.f1 | exact h.f2 | exact h.f3 | exact h.f4 | exact h.f5 | exact h.f6 | exact h.f7 | exact h.f8 | exact h.f9 | exact h.f10 | exact h.f11 | exact h.f12 | exact h.f13 | exact gI_putC_eq (by first | omega | (simp only [len_putC]; omega)) | refine gI_putC_ne (by omega) ?_))
        · intro b hb
          repeat (first | rfl | refine gI_putC_ne (by omega) ?_)
      · refine ⟨_, ⟨e.st, e.fo, e.ti, v, true⟩, false, con_look_A2 L off _ _ _ _ _ _ _ _ _ _ _ _ _ _ v s _ _ hat hu.kd hu.lo hu.hi hv he.la hs (by omega) h0 hf (.inr hc), (by simp only [len_putC]; exact hL), ?_, ?_, ⟨he.st, he.ti, hv⟩, fun q => (by cases q), fun _ => rfl⟩
        · constructor <;> (repeat (first | exact h.f0 | exact h.f1 | exact h.f2 | exact h.f3 | exact h.f4 | exact h.f5 | exact h.f6 | exact h.f7 | exact h.f8 | exact h.f9 | exact h.f10 | exact h.f11 | exact h.f12 | exact h.f13 | exact gI_putC_eq (by first | omega | (simp only [len_putC]; omega)) | refine gI_putC_ne (by omega) ?_))
        · intro b hb
          repeat (first | rfl | refine gI_putC_ne (by omega) ?_)
    · by_cases h255 : e.ti < 255
      · by_cases hr : e.ti + 1 < u.rp
        · refine ⟨_, ⟨e.st, e.fo, e.ti + 1, v, true⟩, false, con_look_A L off _ _ _ _ _ _ _ _ _ _ _ _ _ _ v s _ _ hat hu.kd hu.lo hu.hi hv he.la hs ⟨hti.1, h255⟩ h0 hf (.inl hr), (by simp only [len_putC]; exact hL), ?_, ?_, ⟨he.st, (show 0 ≤ e.ti + 1 ∧ e.ti + 1 < 256 by omega), hv⟩, fun q => (by cases q), fun _ => rfl⟩
          · constructor <;> (repeat (first | exact h.f0 | exact h.f1 | exact h.f2 | exact h.f3 | exact h.f4 | exact h.f5 | exact h.f6 | exact h.f7 | exact h.f8 | exact h.f9 | exact h.f10 | exact h.f11 | exact h.f12 | exact h.f13 | exact gI_putC_eq (by first | omega | (simp only [len_putC]; omega)) | refine gI_putC_ne (by omega) ?_))
          · intro b hb
            repeat (first | rfl | refine gI_putC_ne (by omega) ?_)
        · refine ⟨_, ⟨s, e.fo, e.ti + 1, v, true⟩, true, con_look_B L off _ _ _ _ _ _ _ _ _ _ _ _ _ _ v s _ _ hat hu.kd hu.lo hu.hi hv he.la hs ⟨hti.1, h255⟩ h0 hf (by omega) hc, (by simp only [len_putC]; exact hL), ?_, ?_, ⟨hsb, (show 0 ≤ e.ti + 1 ∧ e.ti + 1 < 256 by omega), hv⟩, fun _ => ⟨fun q => hc q.symm, h0⟩, fun q => (by cases q)⟩
          · constructor <;> (repeat (first | exact h.f0 | exact h.f1 | exact h.f2 | exact h.f3 | exact h.f4 | exact h.f5 | exact h.f6 | exact h.f7 | exact h.f8 | exact h.f9 | exact h.f10 | exact h.f11 | exact h.f12 | exact h.f13 | exact gI_putC_eq (by first | omega | (simp only [len_putC]; omega)) | refine gI_putC_ne (by omega) ?_))
          · intro b hb
            repeat (first | rfl | refine gI_putC_ne (by omega) ?_)
      · refine ⟨_, ⟨s, e.fo, e.ti, v, true⟩, true, con_look_B2 L off _ _ _ _ _ _ _ _ _ _ _ _ _ _ v s _ _ hat hu.kd hu.lo hu.hi hv he.la hs (by omega) h0 hf (by omega) hc, (by simp only [len_putC]; exact hL), ?_, ?_, ⟨hsb, he.ti, hv⟩, fun _ => ⟨fun q => hc q.symm, h0⟩, fun q => (by cases q)⟩
        · constructor <;> (repeat (first | exact h.f0 | exact h.f1 | exact h.f2 | exact h.f3 | exact h.f4 | exact h.f5 | exact h.f6 | exact h.f7 | exact h.f8 | exact h.f9 | exact h.f10 | exact h.f11 | exact h.f12 | exact h.f13 | exact gI_putC_eq (by first | omega | (simp only [len_putC]; omega)) | refine gI_putC_ne (by omega) ?_))
        · intro b hb
          repeat (first | rfl | refine gI_putC_ne (by omega) ?_)
  · by_cases hc : e.st = s
    · refine ⟨_, ⟨e.st, s, 1, v, true⟩, false, con_look_C L off _ _ _ _ _ _ _ _ _ _ _ _ _ _ v s _ _ hat hu.kd hu.lo hu.hi hv he.la hs h0 hf (.inr hc), (by simp only [len_putC]; exact hL), ?_, ?_, ⟨he.st, (show (0 : Int) ≤ 1 ∧ (1 : Int) < 256 by omega), hv⟩, fun q => (by cases q), fun _ => rfl⟩
      · constructor <;> (repeat (first | exact h.f0 | exact h.f1 | exact h.f2 | exact h.f3 | exact h.f4 | exact h.f5 | exact h.f6 | exact h.f7 | exact h.f8 | exact h.f9 | exact h.f10 | exact h.f11 | exact h.f12 | exact h.f13 | exact gI_putC_eq (by first | omega | (simp only [len_putC]; omega)) | refine gI_putC_ne (by omega) ?_))
      · intro b hb
        repeat (first | rfl | refine gI_putC_ne (by omega) ?_)
    · by_cases hr : 1 < u.rp
      · refine ⟨_, ⟨e.st, s, 1, v, true⟩, false, con_look_C L off _ _ _ _ _ _ _ _ _ _ _ _ _ _ v s _ _ hat hu.kd hu.lo hu.hi hv he.la hs h0 hf (.inl hr), (by simp only [len_putC]; exact hL), ?_, ?_, ⟨he.st, (show (0 : Int) ≤ 1 ∧ (1 : Int) < 256 by omega), hv⟩, fun q => (by cases q), fun _ => rfl⟩
        · constructor <;> (repeat (first | exact h.f0 | exact h.f1 | exact h.f2 | exact h.f3 | exact h.f4 | exact h.f5 | exact h.f6 | exact h.f7 | exact h.f8 | exact h.f9 | exact h.f10 | exact h.f11 | exact h.f12 | exact h.f13 | exact gI_putC_eq (by first | omega | (simp only [len_putC]; omega)) | refine gI_putC_ne (by omega) ?_))
        · intro b hb
          repeat (first | rfl | refine gI_putC_ne (by omega) ?_)
      · refine ⟨_, ⟨s, s, 1, v, true⟩, true, con_look_D L off _ _ _ _ _ _ _ _ _ _ _ _ _ _ v s _ _ hat hu.kd hu.lo hu.hi hv he.la hs h0 hf (by omega) hc, (by simp only [len_putC]; exact hL), ?_, ?_, ⟨hsb, (show (0 : Int) ≤ 1 ∧ (1 : Int) < 256 by omega), hv⟩, fun _ => ⟨fun q => hc q.symm, h0⟩, fun q => (by cases q)⟩
        · constructor <;> (repeat (first | exact h.f0 | exact h.f1 | exact h.f2 | exact h.f3 | exact h.f4 | exact h.f5 | exact h.f6 | exact h.f7 | exact h.f8 | exact h.f9 | exact h.f10 | exact h.f11 | exact h.f12 | exact h.f13 | exact gI_putC_eq (by first | omega | (simp only [len_putC]; omega)) | refine gI_putC_ne (by omega) ?_))
        · intro b hb
          repeat (first | rfl | refine gI_putC_ne (by omega) ?_)
end Go.Proofs.Ytlfjnkobnkfioaa
