/- Chapter 22: FdirClimbs. -/
import Derived.Test.YtklbonfbiakebaaDoorFdiB
namespace Go.Proofs.YtklbonfbiakebaaDoor
open Go.Ab
set_option linter.unusedSimpArgs false
set_option linter.unusedVariables false
set_option maxHeartbeats 8000000
/-- May this level act, of those from the first on? -/
def lvA (fi inh j : Int) : Bool := decide (fi ≤ j) && al inh j
def sA (fi inh : Int) (m : F5) (i : Int) : Int := (if 0 < i ∧ lvA fi inh 0 = true then m.a0 else 0) + (if 1 < i ∧ lvA fi inh 1 = true then m.a1 else 0) + (if 2 < i ∧ lvA fi inh 2 = true then m.a2 else 0) + (if 3 < i ∧ lvA fi inh 3 = true then m.a3 else 0) + (if 4 < i ∧ lvA fi inh 4 = true then m.a4 else 0)
def tA (fi inh : Int) (i : Int) : Int := if 4 < i ∧ lvA fi inh 4 = true then 4 else if 3 < i ∧ lvA fi inh 3 = true then 3 else if 2 < i ∧ lvA fi inh 2 = true then 2 else if 1 < i ∧ lvA fi inh 1 = true then 1 else if 0 < i ∧ lvA fi inh 0 = true then 0 else -1
def F5.lo (m : F5) : Prop := 0 ≤ m.a0 ∧ m.a0 < 9 ∧ 0 ≤ m.a1 ∧ m.a1 < 9 ∧ 0 ≤ m.a2 ∧ m.a2 < 9 ∧ 0 ≤ m.a3 ∧ m.a3 < 9 ∧ 0 ≤ m.a4 ∧ m.a4 < 9
theorem lo_mk {a b c d e : Int} (h : 0 ≤ a ∧ a < 9 ∧ 0 ≤ b ∧ b < 9 ∧ 0 ≤ c ∧ c < 9 ∧ 0 ≤ d ∧ d < 9 ∧ 0 ≤ e ∧ e < 9) : (F5.mk a b c d e).lo := h
/-- What the level's limit counts for. -/
def tj (a : Bool) (m : Int) : Int := if a = true then m else 0
theorem tj_le {a : Bool} {m c : Int} (h : ¬(a = true ∧ c < m)) (hc : 0 ≤ c) : tj a m ≤ c := by
  unfold tj
  split
  · rename_i h1
    have : ¬ c < m := fun h2 => h ⟨h1, h2⟩
    omega
  · exact hc
theorem tj_nn (a : Bool) {m : Int} (h : 0 ≤ m) : 0 ≤ tj a m := by
  unfold tj
  split <;> omega
theorem tj_t {a : Bool} {m : Int} (h : a = true) : tj a m = m := by
  unfold tj
  rw [if_pos h]
def CI (t c : F5) (v last i : Int) : Prop :=
  (0 ≤ c.a0 ∧ 0 ≤ c.a1 ∧ 0 ≤ c.a2 ∧ 0 ≤ c.a3 ∧ 0 ≤ c.a4) ∧ ((0 < last → c.a0 = t.a0) ∧ (1 < last → c.a1 = t.a1) ∧ (2 < last → c.a2 = t.a2) ∧ (3 < last → c.a3 = t.a3) ∧ (4 < last → c.a4 = t.a4)) ∧ ((last < 0 → c.a0 = 0) ∧ (last < 1 → c.a1 = 0) ∧ (last < 2 → c.a2 = 0) ∧ (last < 3 → c.a3 = 0) ∧ (last < 4 → c.a4 = 0)) ∧ ((last = 0 → v ≠ 0 → c.a0 ≤ t.a0) ∧ (last = 1 → v ≠ 1 → c.a1 ≤ t.a1) ∧ (last = 2 → v ≠ 2 → c.a2 ≤ t.a2) ∧ (last = 3 → v ≠ 3 → c.a3 ≤ t.a3) ∧ (last = 4 → v ≠ 4 → c.a4 ≤ t.a4)) ∧ c.a0 + c.a1 + c.a2 + c.a3 + c.a4 = i ∧ (0 ≤ v → last ≤ v) ∧ (0 ≤ last ∧ last ≤ 4)
def vA (a0 a1 a2 a3 a4 : Bool) : Int := if a4 = true then 4 else if a3 = true then 3 else if a2 = true then 2 else if a1 = true then 1 else if a0 = true then 0 else -1
def tA5 (a0 a1 a2 a3 a4 : Bool) (m : F5) : F5 := ⟨tj a0 m.a0, tj a1 m.a1, tj a2 m.a2, tj a3 m.a3, tj a4 m.a4⟩
def lv5 (a0 a1 a2 a3 a4 : Bool) (m c : F5) : Int := if a0 = true ∧ c.a0 < m.a0 then 0 else if a1 = true ∧ c.a1 < m.a1 then 1 else if a2 = true ∧ c.a2 < m.a2 then 2 else if a3 = true ∧ c.a3 < m.a3 then 3 else if a4 = true ∧ c.a4 < m.a4 then 4 else vA a0 a1 a2 a3 a4
theorem vA_ge0 {a0 a1 a2 a3 a4 : Bool} (h : a0 = true) : 0 ≤ vA a0 a1 a2 a3 a4 := by
  unfold vA
  (repeat' split) <;> first | omega | (exfalso; simp_all; done)
theorem vA_eq0 {a0 a1 a2 a3 a4 : Bool} (h : vA a0 a1 a2 a3 a4 = 0) : a0 = true := by
  unfold vA at h
  (repeat' split at h) <;> first | omega | assumption
theorem vA_ge1 {a0 a1 a2 a3 a4 : Bool} (h : a1 = true) : 1 ≤ vA a0 a1 a2 a3 a4 := by
  unfold vA
  (repeat' split) <;> first | omega | (exfalso; simp_all; done)
theorem vA_eq1 {a0 a1 a2 a3 a4 : Bool} (h : vA a0 a1 a2 a3 a4 = 1) : a1 = true := by
  unfold vA at h
  (repeat' split at h) <;> first | omega | assumption
theorem vA_ge2 {a0 a1 a2 a3 a4 : Bool} (h : a2 = true) : 2 ≤ vA a0 a1 a2 a3 a4 := by
  unfold vA
  (repeat' split) <;> first | omega | (exfalso; simp_all; done)
theorem vA_eq2 {a0 a1 a2 a3 a4 : Bool} (h : vA a0 a1 a2 a3 a4 = 2) : a2 = true := by
  unfold vA at h
  (repeat' split at h) <;> first | omega | assumption
theorem vA_ge3 {a0 a1 a2 a3 a4 : Bool} (h : a3 = true) : 3 ≤ vA a0 a1 a2 a3 a4 := by
  unfold vA
  (repeat' split) <;> first | omega | (exfalso; simp_all; done)
theorem vA_eq3 {a0 a1 a2 a3 a4 : Bool} (h : vA a0 a1 a2 a3 a4 = 3) : a3 = true := by
  unfold vA at h
  (repeat' split at h) <;> first | omega | assumption
theorem vA_ge4 {a0 a1 a2 a3 a4 : Bool} (h : a4 = true) : 4 ≤ vA a0 a1 a2 a3 a4 := by
  unfold vA
  (repeat' split) <;> first | omega | (exfalso; simp_all; done)
theorem vA_eq4 {a0 a1 a2 a3 a4 : Bool} (h : vA a0 a1 a2 a3 a4 = 4) : a4 = true := by
  unfold vA at h
  (repeat' split at h) <;> first | omega | assumption
theorem lev_lv5 (fi inh : Int) (m c : F5) (h : 0 ≤ fi ∧ fi < 5) : lev inh m c (5 - fi).toNat fi (-1) = lv5 (lvA fi inh 0) (lvA fi inh 1) (lvA fi inh 2) (lvA fi inh 3) (lvA fi inh 4) m c := by
  rcases (by omega : fi = 0 ∨ fi = 1 ∨ fi = 2 ∨ fi = 3 ∨ fi = 4) with rfl | rfl | rfl | rfl | rfl
  · show lev inh m c 5 0 (-1) = _
    simp only [lev, lvA, lv5, vA, F5.get]
    simp
    generalize al inh 0 = b0
    generalize al inh 1 = b1
    generalize al inh 2 = b2
    generalize al inh 3 = b3
    generalize al inh 4 = b4
    cases b0 <;> cases b1 <;> cases b2 <;> cases b3 <;> cases b4 <;> simp
  · show lev inh m c 4 1 (-1) = _
    simp only [lev, lvA, lv5, vA, F5.get]
    simp
    generalize al inh 0 = b0
    generalize al inh 1 = b1
    generalize al inh 2 = b2
    generalize al inh 3 = b3
    generalize al inh 4 = b4
    cases b0 <;> cases b1 <;> cases b2 <;> cases b3 <;> cases b4 <;> simp
  · show lev inh m c 3 2 (-1) = _
    simp only [lev, lvA, lv5, vA, F5.get]
    simp
    generalize al inh 0 = b0
    generalize al inh 1 = b1
    generalize al inh 2 = b2
    generalize al inh 3 = b3
    generalize al inh 4 = b4
    cases b0 <;> cases b1 <;> cases b2 <;> cases b3 <;> cases b4 <;> simp
  · show lev inh m c 2 3 (-1) = _
    simp only [lev, lvA, lv5, vA, F5.get]
    simp
    generalize al inh 0 = b0
    generalize al inh 1 = b1
    generalize al inh 2 = b2
    generalize al inh 3 = b3
    generalize al inh 4 = b4
    cases b0 <;> cases b1 <;> cases b2 <;> cases b3 <;> cases b4 <;> simp
  · show lev inh m c 1 4 (-1) = _
    simp only [lev, lvA, lv5, vA, F5.get]
    simp
    generalize al inh 0 = b0
    generalize al inh 1 = b1
    generalize al inh 2 = b2
    generalize al inh 3 = b3
    generalize al inh 4 = b4
    cases b0 <;> cases b1 <;> cases b2 <;> cases b3 <;> cases b4 <;> simp
theorem lv5_bd (a0 a1 a2 a3 a4 : Bool) (m c : F5) : lv5 a0 a1 a2 a3 a4 m c = -1 ∨ lv5 a0 a1 a2 a3 a4 m c = 0 ∨ lv5 a0 a1 a2 a3 a4 m c = 1 ∨ lv5 a0 a1 a2 a3 a4 m c = 2 ∨ lv5 a0 a1 a2 a3 a4 m c = 3 ∨ lv5 a0 a1 a2 a3 a4 m c = 4 := by
  unfold lv5 vA
  (repeat' split) <;> simp
theorem lv5_none {a0 a1 a2 a3 a4 : Bool} {m c : F5} (h : lv5 a0 a1 a2 a3 a4 m c = -1) : vA a0 a1 a2 a3 a4 = -1 := by
  unfold lv5 at h
  (repeat' split at h) <;> first | omega | exact h
theorem vA_none {a0 a1 a2 a3 a4 : Bool} (h : vA a0 a1 a2 a3 a4 = -1) : a0 = false ∧ a1 = false ∧ a2 = false ∧ a3 = false ∧ a4 = false := by
  unfold vA at h
  (repeat' split at h) <;> first | omega | simp_all
theorem ci_none {a0 a1 a2 a3 a4 : Bool} {m c : F5} {last i : Int} (h : CI (tA5 a0 a1 a2 a3 a4 m) c (-1) last i) (hv : vA a0 a1 a2 a3 a4 = -1) : i = 0 := by
  obtain ⟨rfl, rfl, rfl, rfl, rfl⟩ := vA_none hv
  simp only [CI, tA5, tj] at h
  simp at h
  obtain ⟨h1, h2, h3, h4, h5, h6⟩ := h
  rcases (by omega : last = 0 ∨ last = 1 ∨ last = 2 ∨ last = 3 ∨ last = 4) with rfl | rfl | rfl | rfl | rfl <;> simp at h2 h3 h4 <;> omega
theorem lv5_0 {a0 a1 a2 a3 a4 : Bool} {m c t : F5} (ht : t = tA5 a0 a1 a2 a3 a4 m) (hc : 0 ≤ c.a0 ∧ 0 ≤ c.a1 ∧ 0 ≤ c.a2 ∧ 0 ≤ c.a3 ∧ 0 ≤ c.a4) (h : lv5 a0 a1 a2 a3 a4 m c = 0) : a0 = true ∧ (((c.a0 < t.a0) ∧ 0 ≤ vA a0 a1 a2 a3 a4) ∨ ((t.a0 ≤ c.a0 ∧ t.a1 ≤ c.a1 ∧ t.a2 ≤ c.a2 ∧ t.a3 ≤ c.a3 ∧ t.a4 ≤ c.a4) ∧ vA a0 a1 a2 a3 a4 = 0)) := by
  subst ht
  obtain ⟨c0, c1, c2, c3, c4⟩ := hc
  unfold lv5 at h
  (repeat' split at h) <;> first
    | omega
    | (rename_i hx; refine ⟨hx.1, .inl ⟨(by simp only [tA5]; rw [tj_t hx.1]; exact hx.2), vA_ge0 hx.1⟩⟩; done)
    | (refine ⟨vA_eq0 h, .inr ⟨⟨tj_le (by assumption) (by assumption), tj_le (by assumption) (by assumption), tj_le (by assumption) (by assumption), tj_le (by assumption) (by assumption), tj_le (by assumption) (by assumption)⟩, h⟩⟩; done)
theorem ci_0 {t c : F5} {v last i : Int} (h : CI t c v last i) (ht : 0 ≤ t.a0 ∧ 0 ≤ t.a1 ∧ 0 ≤ t.a2 ∧ 0 ≤ t.a3 ∧ 0 ≤ t.a4) (hM : ((c.a0 < t.a0) ∧ 0 ≤ v) ∨ ((t.a0 ≤ c.a0 ∧ t.a1 ≤ c.a1 ∧ t.a2 ≤ c.a2 ∧ t.a3 ≤ c.a3 ∧ t.a4 ≤ c.a4) ∧ v = 0)) : last ≤ 0 ∧ (t.a0 + t.a1 + t.a2 + t.a3 + t.a4 ≤ i → v = 0) ∧ (v ≠ 0 → c.a0 + 1 ≤ t.a0) ∧ CI t ⟨c.a0 + 1, c.a1, c.a2, c.a3, c.a4⟩ v 0 (i + 1) := by
  obtain ⟨h1, h2, h3, h4, h5, h6, h7⟩ := h
  rcases (by omega : last = 0 ∨ last = 1 ∨ last = 2 ∨ last = 3 ∨ last = 4) with rfl | rfl | rfl | rfl | rfl <;> simp at h2 h3 h4 <;> rcases hM with ⟨hM, hv⟩ | ⟨hM, rfl⟩ <;>
    refine ⟨by omega, by omega, by omega, ?_⟩ <;> simp only [CI] <;>
    exact ⟨by omega, ⟨by omega, by omega, by omega, by omega, by omega⟩, ⟨by omega, by omega, by omega, by omega, by omega⟩, ⟨by omega, by omega, by omega, by omega, by omega⟩, by omega, by omega, by omega⟩
theorem lv5_1 {a0 a1 a2 a3 a4 : Bool} {m c t : F5} (ht : t = tA5 a0 a1 a2 a3 a4 m) (hc : 0 ≤ c.a0 ∧ 0 ≤ c.a1 ∧ 0 ≤ c.a2 ∧ 0 ≤ c.a3 ∧ 0 ≤ c.a4) (h : lv5 a0 a1 a2 a3 a4 m c = 1) : a1 = true ∧ (((c.a1 < t.a1 ∧ t.a0 ≤ c.a0) ∧ 1 ≤ vA a0 a1 a2 a3 a4) ∨ ((t.a0 ≤ c.a0 ∧ t.a1 ≤ c.a1 ∧ t.a2 ≤ c.a2 ∧ t.a3 ≤ c.a3 ∧ t.a4 ≤ c.a4) ∧ vA a0 a1 a2 a3 a4 = 1)) := by
  subst ht
  obtain ⟨c0, c1, c2, c3, c4⟩ := hc
  unfold lv5 at h
  (repeat' split at h) <;> first
    | omega
    | (rename_i hx; refine ⟨hx.1, .inl ⟨⟨by simp only [tA5]; rw [tj_t hx.1]; exact hx.2, tj_le (by assumption) (by assumption)⟩, vA_ge1 hx.1⟩⟩; done)
    | (refine ⟨vA_eq1 h, .inr ⟨⟨tj_le (by assumption) (by assumption), tj_le (by assumption) (by assumption), tj_le (by assumption) (by assumption), tj_le (by assumption) (by assumption), tj_le (by assumption) (by assumption)⟩, h⟩⟩; done)
theorem ci_1 {t c : F5} {v last i : Int} (h : CI t c v last i) (ht : 0 ≤ t.a0 ∧ 0 ≤ t.a1 ∧ 0 ≤ t.a2 ∧ 0 ≤ t.a3 ∧ 0 ≤ t.a4) (hM : ((c.a1 < t.a1 ∧ t.a0 ≤ c.a0) ∧ 1 ≤ v) ∨ ((t.a0 ≤ c.a0 ∧ t.a1 ≤ c.a1 ∧ t.a2 ≤ c.a2 ∧ t.a3 ≤ c.a3 ∧ t.a4 ≤ c.a4) ∧ v = 1)) : last ≤ 1 ∧ (t.a0 + t.a1 + t.a2 + t.a3 + t.a4 ≤ i → v = 1) ∧ (v ≠ 1 → c.a1 + 1 ≤ t.a1) ∧ CI t ⟨c.a0, c.a1 + 1, c.a2, c.a3, c.a4⟩ v 1 (i + 1) := by
  obtain ⟨h1, h2, h3, h4, h5, h6, h7⟩ := h
  rcases (by omega : last = 0 ∨ last = 1 ∨ last = 2 ∨ last = 3 ∨ last = 4) with rfl | rfl | rfl | rfl | rfl <;> simp at h2 h3 h4 <;> rcases hM with ⟨hM, hv⟩ | ⟨hM, rfl⟩ <;>
    refine ⟨by omega, by omega, by omega, ?_⟩ <;> simp only [CI] <;>
    exact ⟨by omega, ⟨by omega, by omega, by omega, by omega, by omega⟩, ⟨by omega, by omega, by omega, by omega, by omega⟩, ⟨by omega, by omega, by omega, by omega, by omega⟩, by omega, by omega, by omega⟩
theorem lv5_2 {a0 a1 a2 a3 a4 : Bool} {m c t : F5} (ht : t = tA5 a0 a1 a2 a3 a4 m) (hc : 0 ≤ c.a0 ∧ 0 ≤ c.a1 ∧ 0 ≤ c.a2 ∧ 0 ≤ c.a3 ∧ 0 ≤ c.a4) (h : lv5 a0 a1 a2 a3 a4 m c = 2) : a2 = true ∧ (((c.a2 < t.a2 ∧ t.a0 ≤ c.a0 ∧ t.a1 ≤ c.a1) ∧ 2 ≤ vA a0 a1 a2 a3 a4) ∨ ((t.a0 ≤ c.a0 ∧ t.a1 ≤ c.a1 ∧ t.a2 ≤ c.a2 ∧ t.a3 ≤ c.a3 ∧ t.a4 ≤ c.a4) ∧ vA a0 a1 a2 a3 a4 = 2)) := by
  subst ht
  obtain ⟨c0, c1, c2, c3, c4⟩ := hc
  unfold lv5 at h
  (repeat' split at h) <;> first
    | omega
    | (rename_i hx; refine ⟨hx.1, .inl ⟨⟨by simp only [tA5]; rw [tj_t hx.1]; exact hx.2, tj_le (by assumption) (by assumption), tj_le (by assumption) (by assumption)⟩, vA_ge2 hx.1⟩⟩; done)
    | (refine ⟨vA_eq2 h, .inr ⟨⟨tj_le (by assumption) (by assumption), tj_le (by assumption) (by assumption), tj_le (by assumption) (by assumption), tj_le (by assumption) (by assumption), tj_le (by assumption) (by assumption)⟩, h⟩⟩; done)
theorem ci_2 {t c : F5} {v last i : Int} (h : CI t c v last i) (ht : 0 ≤ t.a0 ∧ 0 ≤ t.a1 ∧ 0 ≤ t.a2 ∧ 0 ≤ t.a3 ∧ 0 ≤ t.a4) (hM : ((c.a2 < t.a2 ∧ t.a0 ≤ c.a0 ∧ t.a1 ≤ c.a1) ∧ 2 ≤ v) ∨ ((t.a0 ≤ c.a0 ∧ t.a1 ≤ c.a1 ∧ t.a2 ≤ c.a2 ∧ t.a3 ≤ c.a3 ∧ t.a4 ≤ c.a4) ∧ v = 2)) : last ≤ 2 ∧ (t.a0 + t.a1 + t.a2 + t.a3 + t.a4 ≤ i → v = 2) ∧ (v ≠ 2 → c.a2 + 1 ≤ t.a2) ∧ CI t ⟨c.a0, c.a1, c.a2 + 1, c.a3, c.a4⟩ v 2 (i + 1) := by
  obtain ⟨h1, h2, h3, h4, h5, h6, h7⟩ := h
  rcases (by omega : last = 0 ∨ last = 1 ∨ last = 2 ∨ last = 3 ∨ last = 4) with rfl | rfl | rfl | rfl | rfl <;> simp at h2 h3 h4 <;> rcases hM with ⟨hM, hv⟩ | ⟨hM, rfl⟩ <;>
    refine ⟨by omega, by omega, by omega, ?_⟩ <;> simp only [CI] <;>
    exact ⟨by omega, ⟨by omega, by omega, by omega, by omega, by omega⟩, ⟨by omega, by omega, by omega, by omega, by omega⟩, ⟨by omega, by omega, by omega, by omega, by omega⟩, by omega, by omega, by omega⟩
theorem lv5_3 {a0 a1 a2 a3 a4 : Bool} {m c t : F5} (ht : t = tA5 a0 a1 a2 a3 a4 m) (hc : 0 ≤ c.a0 ∧ 0 ≤ c.a1 ∧ 0 ≤ c.a2 ∧ 0 ≤ c.a3 ∧ 0 ≤ c.a4) (h : lv5 a0 a1 a2 a3 a4 m c = 3) : a3 = true ∧ (((c.a3 < t.a3 ∧ t.a0 ≤ c.a0 ∧ t.a1 ≤ c.a1 ∧ t.a2 ≤ c.a2) ∧ 3 ≤ vA a0 a1 a2 a3 a4) ∨ ((t.a0 ≤ c.a0 ∧ t.a1 ≤ c.a1 ∧ t.a2 ≤ c.a2 ∧ t.a3 ≤ c.a3 ∧ t.a4 ≤ c.a4) ∧ vA a0 a1 a2 a3 a4 = 3)) := by
  subst ht
  obtain ⟨c0, c1, c2, c3, c4⟩ := hc
  unfold lv5 at h
  (repeat' split at h) <;> first
    | omega
    | (rename_i hx; refine ⟨hx.1, .inl ⟨⟨by simp only [tA5]; rw [tj_t hx.1]; exact hx.2, tj_le (by assumption) (by assumption), tj_le (by assumption) (by assumption), tj_le (by assumption) (by assumption)⟩, vA_ge3 hx.1⟩⟩; done)
    | (refine ⟨vA_eq3 h, .inr ⟨⟨tj_le (by assumption) (by assumption), tj_le (by assumption) (by assumption), tj_le (by assumption) (by assumption), tj_le (by assumption) (by assumption), tj_le (by assumption) (by assumption)⟩, h⟩⟩; done)
theorem ci_3 {t c : F5} {v last i : Int} (h : CI t c v last i) (ht : 0 ≤ t.a0 ∧ 0 ≤ t.a1 ∧ 0 ≤ t.a2 ∧ 0 ≤ t.a3 ∧ 0 ≤ t.a4) (hM : ((c.a3 < t.a3 ∧ t.a0 ≤ c.a0 ∧ t.a1 ≤ c.a1 ∧ t.a2 ≤ c.a2) ∧ 3 ≤ v) ∨ ((t.a0 ≤ c.a0 ∧ t.a1 ≤ c.a1 ∧ t.a2 ≤ c.a2 ∧ t.a3 ≤ c.a3 ∧ t.a4 ≤ c.a4) ∧ v = 3)) : last ≤ 3 ∧ (t.a0 + t.a1 + t.a2 + t.a3 + t.a4 ≤ i → v = 3) ∧ (v ≠ 3 → c.a3 + 1 ≤ t.a3) ∧ CI t ⟨c.a0, c.a1, c.a2, c.a3 + 1, c.a4⟩ v 3 (i + 1) := by
  obtain ⟨h1, h2, h3, h4, h5, h6, h7⟩ := h
  rcases (by omega : last = 0 ∨ last = 1 ∨ last = 2 ∨ last = 3 ∨ last = 4) with rfl | rfl | rfl | rfl | rfl <;> simp at h2 h3 h4 <;> rcases hM with ⟨hM, hv⟩ | ⟨hM, rfl⟩ <;>
    refine ⟨by omega, by omega, by omega, ?_⟩ <;> simp only [CI] <;>
    exact ⟨by omega, ⟨by omega, by omega, by omega, by omega, by omega⟩, ⟨by omega, by omega, by omega, by omega, by omega⟩, ⟨by omega, by omega, by omega, by omega, by omega⟩, by omega, by omega, by omega⟩
theorem lv5_4 {a0 a1 a2 a3 a4 : Bool} {m c t : F5} (ht : t = tA5 a0 a1 a2 a3 a4 m) (hc : 0 ≤ c.a0 ∧ 0 ≤ c.a1 ∧ 0 ≤ c.a2 ∧ 0 ≤ c.a3 ∧ 0 ≤ c.a4) (h : lv5 a0 a1 a2 a3 a4 m c = 4) : a4 = true ∧ (((c.a4 < t.a4 ∧ t.a0 ≤ c.a0 ∧ t.a1 ≤ c.a1 ∧ t.a2 ≤ c.a2 ∧ t.a3 ≤ c.a3) ∧ 4 ≤ vA a0 a1 a2 a3 a4) ∨ ((t.a0 ≤ c.a0 ∧ t.a1 ≤ c.a1 ∧ t.a2 ≤ c.a2 ∧ t.a3 ≤ c.a3 ∧ t.a4 ≤ c.a4) ∧ vA a0 a1 a2 a3 a4 = 4)) := by
  subst ht
  obtain ⟨c0, c1, c2, c3, c4⟩ := hc
  unfold lv5 at h
  (repeat' split at h) <;> first
    | omega
    | (rename_i hx; refine ⟨hx.1, .inl ⟨⟨by simp only [tA5]; rw [tj_t hx.1]; exact hx.2, tj_le (by assumption) (by assumption), tj_le (by assumption) (by assumption), tj_le (by assumption) (by assumption), tj_le (by assumption) (by assumption)⟩, vA_ge4 hx.1⟩⟩; done)
    | (refine ⟨vA_eq4 h, .inr ⟨⟨tj_le (by assumption) (by assumption), tj_le (by assumption) (by assumption), tj_le (by assumption) (by assumption), tj_le (by assumption) (by assumption), tj_le (by assumption) (by assumption)⟩, h⟩⟩; done)
theorem ci_4 {t c : F5} {v last i : Int} (h : CI t c v last i) (ht : 0 ≤ t.a0 ∧ 0 ≤ t.a1 ∧ 0 ≤ t.a2 ∧ 0 ≤ t.a3 ∧ 0 ≤ t.a4) (hM : ((c.a4 < t.a4 ∧ t.a0 ≤ c.a0 ∧ t.a1 ≤ c.a1 ∧ t.a2 ≤ c.a2 ∧ t.a3 ≤ c.a3) ∧ 4 ≤ v) ∨ ((t.a0 ≤ c.a0 ∧ t.a1 ≤ c.a1 ∧ t.a2 ≤ c.a2 ∧ t.a3 ≤ c.a3 ∧ t.a4 ≤ c.a4) ∧ v = 4)) : last ≤ 4 ∧ (t.a0 + t.a1 + t.a2 + t.a3 + t.a4 ≤ i → v = 4) ∧ (v ≠ 4 → c.a4 + 1 ≤ t.a4) ∧ CI t ⟨c.a0, c.a1, c.a2, c.a3, c.a4 + 1⟩ v 4 (i + 1) := by
  obtain ⟨h1, h2, h3, h4, h5, h6, h7⟩ := h
  rcases (by omega : last = 0 ∨ last = 1 ∨ last = 2 ∨ last = 3 ∨ last = 4) with rfl | rfl | rfl | rfl | rfl <;> simp at h2 h3 h4 <;> rcases hM with ⟨hM, hv⟩ | ⟨hM, rfl⟩ <;>
    refine ⟨by omega, by omega, by omega, ?_⟩ <;> simp only [CI] <;>
    exact ⟨by omega, ⟨by omega, by omega, by omega, by omega, by omega⟩, ⟨by omega, by omega, by omega, by omega, by omega⟩, ⟨by omega, by omega, by omega, by omega, by omega⟩, by omega, by omega, by omega⟩
theorem ci_start {fi inh : Int} {m : F5} (h : 0 ≤ fi ∧ fi < 5) (hm : m.lo) : CI (tA5 (lvA fi inh 0) (lvA fi inh 1) (lvA fi inh 2) (lvA fi inh 3) (lvA fi inh 4) m) ⟨0, 0, 0, 0, 0⟩ (vA (lvA fi inh 0) (lvA fi inh 1) (lvA fi inh 2) (lvA fi inh 3) (lvA fi inh 4)) fi 0 := by
  obtain ⟨m1, m2, m3, m4, m5, m6, m7, m8, m9, m0⟩ := hm
  have b0 := tj_nn (lvA fi inh 0) m1
  have b1 := tj_nn (lvA fi inh 1) m3
  have b2 := tj_nn (lvA fi inh 2) m5
  have b3 := tj_nn (lvA fi inh 3) m7
  have b4 := tj_nn (lvA fi inh 4) m9
  have key : ∀ j x : Int, j < fi → tj (lvA fi inh j) x = 0 := fun j x hj => by
    unfold tj lvA
    rw [decide_eq_false (by omega)]
    simp
  have hv : 0 ≤ vA (lvA fi inh 0) (lvA fi inh 1) (lvA fi inh 2) (lvA fi inh 3) (lvA fi inh 4) → fi ≤ vA (lvA fi inh 0) (lvA fi inh 1) (lvA fi inh 2) (lvA fi inh 3) (lvA fi inh 4) := by
    have k2 : ∀ j : Int, lvA fi inh j = true → fi ≤ j := fun j h => by
      unfold lvA at h
      simp only [Bool.and_eq_true, decide_eq_true_eq] at h
      exact h.1
    unfold vA
    (repeat' split) <;> intro _ <;> first | omega | exact k2 _ (by assumption)
  refine ⟨by simp, ?_, by simp, ?_, by simp, hv, by omega⟩
  · refine ⟨?_, ?_, ?_, ?_, ?_⟩ <;> intro hj <;> exact (key _ _ hj).symm
  · exact ⟨fun _ _ => b0, fun _ _ => b1, fun _ _ => b2, fun _ _ => b3, fun _ _ => b4⟩
theorem sA_uA (fi inh : Int) (m : F5) : sA fi inh m 5 = (tA5 (lvA fi inh 0) (lvA fi inh 1) (lvA fi inh 2) (lvA fi inh 3) (lvA fi inh 4) m).a0 + (tA5 (lvA fi inh 0) (lvA fi inh 1) (lvA fi inh 2) (lvA fi inh 3) (lvA fi inh 4) m).a1 + (tA5 (lvA fi inh 0) (lvA fi inh 1) (lvA fi inh 2) (lvA fi inh 3) (lvA fi inh 4) m).a2 + (tA5 (lvA fi inh 0) (lvA fi inh 1) (lvA fi inh 2) (lvA fi inh 3) (lvA fi inh 4) m).a3 + (tA5 (lvA fi inh 0) (lvA fi inh 1) (lvA fi inh 2) (lvA fi inh 3) (lvA fi inh 4) m).a4 := by
  simp [sA, tA5, tj]
theorem tA_vA (fi inh : Int) : tA fi inh 5 = vA (lvA fi inh 0) (lvA fi inh 1) (lvA fi inh 2) (lvA fi inh 3) (lvA fi inh 4) := by
  simp [tA, vA]
theorem lvA_al {fi inh j : Int} (h : lvA fi inh j = true) : al inh j = true := by
  unfold lvA at h
  simp only [Bool.and_eq_true] at h
  exact h.2
theorem law_climbs (l : F5) (st inh mo : Int) (hi : 0 ≤ inh ∧ inh < 256) (hl : l.ok) (hst : 0 ≤ st ∧ st < 256) (hmo : 0 ≤ mo ∧ mo < 256) :
    Con Tryd.prog 3 [] [f5V l, u8 st, u8 inh, u8 mo] [] (vb true) := by
  obtain ⟨l1, l2, l3, l4, l5, l6, l7, l8, l9, l0⟩ := hl
  refine Con.of (C := ⟨Tryd.prog, tc, Tryd.f3.ntmps⟩) [] tcok Tryd.func3 rfl rfl (by kernel_rfl) (by kernel_rfl) ?_
  refine AWP.seq ?_
  refine AWP.regionT tcok hmix [] [1, 2, 3, 4, 8] [4] (os := []) (s' := St.mk [(1, tp (u8 st)), (2, tp (u8 inh)), (3, tp (u8 mo)), (4, tp (V.ptr 4 0)), (8, tp (vb false))] [(4, Blk.mk [u8 l.a0, u8 l.a1, u8 l.a2, u8 l.a3, u8 l.a4] true 5 none)]) (by kernel_rfl) trivial ?_
  refine AWP.seq ?_
  refine AWP.seq ?_
  refine AWP.regionT tcok hmix [(0, ⟨none, some ⟨vb true, [], []⟩⟩)] [1, 2, 3, 4, 8, 22] [4] (os := [Con Tryd.prog 11 [] [] [] (vb true)]) (s' := St.mk [(1, tp (u8 st)), (2, tp (u8 inh)), (3, tp (u8 mo)), (4, tp (V.ptr 4 0)), (8, tp (vb false)), (22, tp (vb false))] [(4, Blk.mk [u8 l.a0, u8 l.a1, u8 l.a2, u8 l.a3, u8 l.a4] true 5 none)]) (by kernel_rfl) ⟨(con_awake22 ), trivial⟩ ?_
  refine AWP.cond (b := false) (by kernel_rfl) (fun h => by cases h) (fun _ => ?_)
  refine AWP.skip ?_
  refine AWP.seq ?_
  refine AWP.regionT tcok hmix [] [1, 2, 3, 4, 8, 9] [4, 9] (os := []) (s' := St.mk [(1, tp (u8 st)), (2, tp (u8 inh)), (3, tp (u8 mo)), (4, tp (V.ptr 4 0)), (8, tp (vb false)), (9, tp (V.ptr 9 0))] [(4, Blk.mk [u8 l.a0, u8 l.a1, u8 l.a2, u8 l.a3, u8 l.a4] true 5 none), (9, Blk.mk [u8 0, u8 0, u8 0, u8 0, u8 0, u8 0, u8 0, u8 0, u8 0, u8 0] true 10 none)]) (by kernel_rfl) trivial ?_
  refine AWP.seq ?_
  refine AWP.regionT tcok hmix [] [1, 2, 3, 4, 8, 9, 10, 11] [4, 9] (os := []) (s' := St.mk [(1, tp (u8 st)), (2, tp (u8 inh)), (3, tp (u8 mo)), (4, tp (V.ptr 4 0)), (8, tp (vb false)), (9, tp (V.ptr 9 0)), (10, tp (i64 0)), (11, tp (i64 (-1)))] [(4, Blk.mk [u8 l.a0, u8 l.a1, u8 l.a2, u8 l.a3, u8 l.a4] true 5 none), (9, Blk.mk [u8 0, u8 0, u8 0, u8 0, u8 0, u8 0, u8 0, u8 0, u8 0, u8 0] true 10 none)]) (by kernel_rfl) trivial ?_
  refine AWP.seq ?_
  refine AWP.regionT tcok hmix [(1, ⟨some (u8 (st % 5)), none⟩), (2, ⟨some (i64 (st % 5)), none⟩)] [2, 3, 4, 8, 9, 10, 11, 12] [4, 9] (os := [(5 : Int) ≠ (0 : Int), u8 (Int.tmod st 5) = u8 (st % 5), i64 (IntKind.wrap IntKind.i64 (st % 5)) = i64 (st % 5)]) (s' := St.mk [(2, tp (u8 inh)), (3, tp (u8 mo)), (4, tp (V.ptr 4 0)), (8, tp (vb false)), (9, tp (V.ptr 9 0)), (10, tp (i64 0)), (11, tp (i64 (-1))), (12, tp (i64 (st % 5)))] [(4, Blk.mk [u8 l.a0, u8 l.a1, u8 l.a2, u8 l.a3, u8 l.a4] true 5 none), (9, Blk.mk [u8 0, u8 0, u8 0, u8 0, u8 0, u8 0, u8 0, u8 0, u8 0, u8 0] true 10 none)]) (by kernel_rfl) ⟨(by omega), (tm_ (by omega)), (wr_i64 (by omega) (by omega)), trivial⟩ ?_
  refine AWP.seq ?_
  refine AWP.seq ?_
  refine AWP.regionT tcok hmix [] [2, 3, 4, 8, 9, 10, 11, 12, 27] [4, 9] (os := []) (s' := St.mk [(2, tp (u8 inh)), (3, tp (u8 mo)), (4, tp (V.ptr 4 0)), (8, tp (vb false)), (9, tp (V.ptr 9 0)), (10, tp (i64 0)), (11, tp (i64 (-1))), (12, tp (i64 (st % 5))), (27, tp (i64 0))] [(4, Blk.mk [u8 l.a0, u8 l.a1, u8 l.a2, u8 l.a3, u8 l.a4] true 5 none), (9, Blk.mk [u8 0, u8 0, u8 0, u8 0, u8 0, u8 0, u8 0, u8 0, u8 0, u8 0] true 10 none)]) (by kernel_rfl) trivial ?_
  refine AWP.block ?_
  refine AWP.loopI [2, 3, 4, 8, 9, 10, 11, 12, 27] [4, 9] (fun N s' => ∃ (i : Int) (m : F5) (u v : Int), s' = St.mk [(2, T.plain (u8 inh)), (3, T.plain (u8 mo)), (4, T.plain (V.ptr 4 0)), (8, T.plain (vb false)), (9, T.plain (V.ptr 9 0)), (10, T.plain (i64 u)), (11, T.plain (i64 v)), (12, T.plain (i64 (st % 5))), (27, T.plain (i64 i))] [(4, Blk.mk [u8 l.a0, u8 l.a1, u8 l.a2, u8 l.a3, u8 l.a4] true 5 none), (9, Blk.mk [u8 m.a0, u8 m.a1, u8 m.a2, u8 m.a3, u8 m.a4, u8 0, u8 0, u8 0, u8 0, u8 0] true 10 none)] ∧ m.lo ∧ (0 ≤ i ∧ i ≤ 5) ∧ u = sA (st % 5) inh m i ∧ v = tA (st % 5) inh i ∧ (0 ≤ u ∧ u ≤ 8 * i) ∧ (N : Int) = 5 - i) 5 (s0 := St.mk [(2, T.plain (u8 inh)), (3, T.plain (u8 mo)), (4, T.plain (V.ptr 4 0)), (8, T.plain (vb false)), (9, T.plain (V.ptr 9 0)), (10, T.plain (i64 0)), (11, T.plain (i64 (-1))), (12, T.plain (i64 (st % 5))), (27, T.plain (i64 0))] [(4, Blk.mk [u8 l.a0, u8 l.a1, u8 l.a2, u8 l.a3, u8 l.a4] true 5 none), (9, Blk.mk [u8 0, u8 0, u8 0, u8 0, u8 0, u8 0, u8 0, u8 0, u8 0, u8 0] true 10 none)]) (by kernel_rfl) ?_ ?_
  · exact ⟨0, ⟨0, 0, 0, 0, 0⟩, 0, -1, rfl, lo_mk (by omega), by omega, by simp [sA], by simp [tA], by omega, by omega⟩
  rintro N s' ⟨i, m, u, v, rfl, hm, hi5, hu, hv, hub, hN⟩
  have hm' := hm
  obtain ⟨m1, m2, m3, m4, m5, m6, m7, m8, m9, m0⟩ := hm
  rcases (by omega : i = 0 ∨ i = 1 ∨ i = 2 ∨ i = 3 ∨ i = 4 ∨ i = 5) with rfl | rfl | rfl | rfl | rfl | rfl
  · cases hA : lvA (st % 5) inh 0
    all_goals
      have hA' := hA
      simp only [lvA] at hA'
      simp [sA, hA] at hu
      simp [tA, hA] at hv
    · refine AWP.seq ?_
      refine AWP.regionT tcok hmix [] [2, 3, 4, 8, 9, 10, 11, 12, 27, 28] [4, 9] (os := []) (s' := St.mk [(2, tp (u8 inh)), (3, tp (u8 mo)), (4, tp (V.ptr 4 0)), (8, tp (vb false)), (9, tp (V.ptr 9 0)), (10, tp (i64 u)), (11, tp (i64 v)), (12, tp (i64 (st % 5))), (27, tp (i64 0)), (28, tp (vb true))] [(4, Blk.mk [u8 l.a0, u8 l.a1, u8 l.a2, u8 l.a3, u8 l.a4] true 5 none), (9, Blk.mk [u8 m.a0, u8 m.a1, u8 m.a2, u8 m.a3, u8 m.a4, u8 0, u8 0, u8 0, u8 0, u8 0] true 10 none)]) (by kernel_rfl) trivial ?_
      refine AWP.seq ?_
      refine AWP.cond (b := true) (by kernel_rfl) (fun _ => ?_) (fun h => by cases h)
      refine AWP.skip ?_
      refine AWP.seq ?_
      refine AWP.block ?_
      refine AWP.seq ?_
      refine AWP.regionT tcok hmix [] [2, 3, 4, 8, 9, 10, 11, 12, 13, 27] [4, 9] (os := []) (s' := St.mk [(2, tp (u8 inh)), (3, tp (u8 mo)), (4, tp (V.ptr 4 0)), (8, tp (vb false)), (9, tp (V.ptr 9 0)), (10, tp (i64 u)), (11, tp (i64 v)), (12, tp (i64 (st % 5))), (13, tp (i64 0)), (27, tp (i64 0))] [(4, Blk.mk [u8 l.a0, u8 l.a1, u8 l.a2, u8 l.a3, u8 l.a4] true 5 none), (9, Blk.mk [u8 m.a0, u8 m.a1, u8 m.a2, u8 m.a3, u8 m.a4, u8 0, u8 0, u8 0, u8 0, u8 0] true 10 none)]) (by kernel_rfl) trivial ?_
      refine AWP.seq ?_
      refine AWP.regionT tcok hmix [(4, ⟨some (u8 (l.a0 % 9)), none⟩)] [2, 3, 4, 8, 9, 10, 11, 12, 13, 27] [4, 9] (os := [(9 : Int) ≠ (0 : Int), u8 (Int.tmod l.a0 9) = u8 (l.a0 % 9)]) (s' := St.mk [(2, tp (u8 inh)), (3, tp (u8 mo)), (4, tp (V.ptr 4 0)), (8, tp (vb false)), (9, tp (V.ptr 9 0)), (10, tp (i64 u)), (11, tp (i64 v)), (12, tp (i64 (st % 5))), (13, tp (i64 0)), (27, tp (i64 0))] [(4, Blk.mk [u8 l.a0, u8 l.a1, u8 l.a2, u8 l.a3, u8 l.a4] true 5 none), (9, Blk.mk [u8 (l.a0 % 9), u8 m.a1, u8 m.a2, u8 m.a3, u8 m.a4, u8 0, u8 0, u8 0, u8 0, u8 0] true 10 none)]) (by kernel_rfl) ⟨(by omega), (tm_ (by omega)), trivial⟩ ?_
      refine AWP.seq ?_
      refine AWP.regionT tcok hmix [(6, ⟨none, some ⟨vb (al inh 0), [], []⟩⟩)] [2, 3, 4, 8, 9, 10, 11, 12, 13, 27, 44] [4, 9] (os := [decide ((0 : Int) ≥ st % (5 : Int)) = true → Con Tryd.prog (12 : Nat) [] [u8 inh, i64 (0 : Int)] [] (vb (al inh (0 : Int))) ∧ True]) (s' := St.mk [(2, tp (u8 inh)), (3, tp (u8 mo)), (4, tp (V.ptr 4 0)), (8, tp (vb false)), (9, tp (V.ptr 9 0)), (10, tp (i64 u)), (11, tp (i64 v)), (12, tp (i64 (st % 5))), (13, tp (i64 0)), (27, tp (i64 0)), (44, tp (vb (decide (0 ≥ st % 5) && al inh 0)))] [(4, Blk.mk [u8 l.a0, u8 l.a1, u8 l.a2, u8 l.a3, u8 l.a4] true 5 none), (9, Blk.mk [u8 (l.a0 % 9), u8 m.a1, u8 m.a2, u8 m.a3, u8 m.a4, u8 0, u8 0, u8 0, u8 0, u8 0] true 10 none)]) (by kernel_rfl) ⟨(by intro hc0; first | (cases hc0; done) | (try simp only [Bool.or_false, Bool.false_or, Bool.true_and, Bool.and_true, decide_eq_true_eq, decide_eq_false_iff_not, Bool.and_eq_true, Bool.or_eq_true, Bool.or_eq_false_iff, Bool.not_eq_true', Bool.and_eq_false_iff, beq_iff_eq, bne_iff_ne, bne_eq_false_iff_eq, beq_eq_false_iff_ne, Bool.not_eq_false'] at hc0; exact ⟨(con_rallowed (inh) (0) (by assumption) (by omega)), trivial⟩)), trivial⟩ ?_
      refine AWP.cond (b := decide (0 ≥ st % 5) && al inh 0) (by kernel_rfl) (fun hq2 => ?_) (fun hq2 => ?_)
      · simp only [decide_eq_true_eq, Bool.and_eq_true] at hq2
        (simp_all; done)
      simp only [decide_eq_false_iff_not, Bool.and_eq_false_iff] at hq2
      refine AWP.skip ?_
      refine AWP.region tcok hmix [] (os := []) (sf := St.mk [(2, tp (u8 inh)), (3, tp (u8 mo)), (4, tp (V.ptr 4 0)), (8, tp (vb false)), (9, tp (V.ptr 9 0)), (10, tp (i64 u)), (11, tp (i64 v)), (12, tp (i64 (st % 5))), (13, tp (i64 0)), (27, tp (i64 1)), (44, tp (vb (decide (0 ≥ st % 5) && al inh 0))), (53, tp (i64 1))] [(4, Blk.mk [u8 l.a0, u8 l.a1, u8 l.a2, u8 l.a3, u8 l.a4] true 5 none), (9, Blk.mk [u8 (l.a0 % 9), u8 m.a1, u8 m.a2, u8 m.a3, u8 m.a4, u8 0, u8 0, u8 0, u8 0, u8 0] true 10 none)]) (by kernel_rfl) trivial ?_
      refine ⟨St.mk [(2, tp (u8 inh)), (3, tp (u8 mo)), (4, tp (V.ptr 4 0)), (8, tp (vb false)), (9, tp (V.ptr 9 0)), (10, tp (i64 u)), (11, tp (i64 v)), (12, tp (i64 (st % 5))), (27, tp (i64 1))] [(4, Blk.mk [u8 l.a0, u8 l.a1, u8 l.a2, u8 l.a3, u8 l.a4] true 5 none), (9, Blk.mk [u8 (l.a0 % 9), u8 m.a1, u8 m.a2, u8 m.a3, u8 m.a4, u8 0, u8 0, u8 0, u8 0, u8 0] true 10 none)], by kernel_rfl, ?_⟩
      first | (exfalso; simp_all; done) | (exact ⟨4, (by omega), 1, ⟨l.a0 % 9, m.a1, m.a2, m.a3, m.a4⟩, _, _, rfl, lo_mk (by omega), (by omega), (by simp [sA, hA]; try omega), (by simp [tA, hA]; try omega), (by omega), (by omega)⟩)
    · refine AWP.seq ?_
      refine AWP.regionT tcok hmix [] [2, 3, 4, 8, 9, 10, 11, 12, 27, 28] [4, 9] (os := []) (s' := St.mk [(2, tp (u8 inh)), (3, tp (u8 mo)), (4, tp (V.ptr 4 0)), (8, tp (vb false)), (9, tp (V.ptr 9 0)), (10, tp (i64 u)), (11, tp (i64 v)), (12, tp (i64 (st % 5))), (27, tp (i64 0)), (28, tp (vb true))] [(4, Blk.mk [u8 l.a0, u8 l.a1, u8 l.a2, u8 l.a3, u8 l.a4] true 5 none), (9, Blk.mk [u8 m.a0, u8 m.a1, u8 m.a2, u8 m.a3, u8 m.a4, u8 0, u8 0, u8 0, u8 0, u8 0] true 10 none)]) (by kernel_rfl) trivial ?_
      refine AWP.seq ?_
      refine AWP.cond (b := true) (by kernel_rfl) (fun _ => ?_) (fun h => by cases h)
      refine AWP.skip ?_
      refine AWP.seq ?_
      refine AWP.block ?_
      refine AWP.seq ?_
      refine AWP.regionT tcok hmix [] [2, 3, 4, 8, 9, 10, 11, 12, 13, 27] [4, 9] (os := []) (s' := St.mk [(2, tp (u8 inh)), (3, tp (u8 mo)), (4, tp (V.ptr 4 0)), (8, tp (vb false)), (9, tp (V.ptr 9 0)), (10, tp (i64 u)), (11, tp (i64 v)), (12, tp (i64 (st % 5))), (13, tp (i64 0)), (27, tp (i64 0))] [(4, Blk.mk [u8 l.a0, u8 l.a1, u8 l.a2, u8 l.a3, u8 l.a4] true 5 none), (9, Blk.mk [u8 m.a0, u8 m.a1, u8 m.a2, u8 m.a3, u8 m.a4, u8 0, u8 0, u8 0, u8 0, u8 0] true 10 none)]) (by kernel_rfl) trivial ?_
      refine AWP.seq ?_
      refine AWP.regionT tcok hmix [(4, ⟨some (u8 (l.a0 % 9)), none⟩)] [2, 3, 4, 8, 9, 10, 11, 12, 13, 27] [4, 9] (os := [(9 : Int) ≠ (0 : Int), u8 (Int.tmod l.a0 9) = u8 (l.a0 % 9)]) (s' := St.mk [(2, tp (u8 inh)), (3, tp (u8 mo)), (4, tp (V.ptr 4 0)), (8, tp (vb false)), (9, tp (V.ptr 9 0)), (10, tp (i64 u)), (11, tp (i64 v)), (12, tp (i64 (st % 5))), (13, tp (i64 0)), (27, tp (i64 0))] [(4, Blk.mk [u8 l.a0, u8 l.a1, u8 l.a2, u8 l.a3, u8 l.a4] true 5 none), (9, Blk.mk [u8 (l.a0 % 9), u8 m.a1, u8 m.a2, u8 m.a3, u8 m.a4, u8 0, u8 0, u8 0, u8 0, u8 0] true 10 none)]) (by kernel_rfl) ⟨(by omega), (tm_ (by omega)), trivial⟩ ?_
      refine AWP.seq ?_
      refine AWP.regionT tcok hmix [(6, ⟨none, some ⟨vb (al inh 0), [], []⟩⟩)] [2, 3, 4, 8, 9, 10, 11, 12, 13, 27, 44] [4, 9] (os := [decide ((0 : Int) ≥ st % (5 : Int)) = true → Con Tryd.prog (12 : Nat) [] [u8 inh, i64 (0 : Int)] [] (vb (al inh (0 : Int))) ∧ True]) (s' := St.mk [(2, tp (u8 inh)), (3, tp (u8 mo)), (4, tp (V.ptr 4 0)), (8, tp (vb false)), (9, tp (V.ptr 9 0)), (10, tp (i64 u)), (11, tp (i64 v)), (12, tp (i64 (st % 5))), (13, tp (i64 0)), (27, tp (i64 0)), (44, tp (vb (decide (0 ≥ st % 5) && al inh 0)))] [(4, Blk.mk [u8 l.a0, u8 l.a1, u8 l.a2, u8 l.a3, u8 l.a4] true 5 none), (9, Blk.mk [u8 (l.a0 % 9), u8 m.a1, u8 m.a2, u8 m.a3, u8 m.a4, u8 0, u8 0, u8 0, u8 0, u8 0] true 10 none)]) (by kernel_rfl) ⟨(by intro hc0; first | (cases hc0; done) | (try simp only [Bool.or_false, Bool.false_or, Bool.true_and, Bool.and_true, decide_eq_true_eq, decide_eq_false_iff_not, Bool.and_eq_true, Bool.or_eq_true, Bool.or_eq_false_iff, Bool.not_eq_true', Bool.and_eq_false_iff, beq_iff_eq, bne_iff_ne, bne_eq_false_iff_eq, beq_eq_false_iff_ne, Bool.not_eq_false'] at hc0; exact ⟨(con_rallowed (inh) (0) (by assumption) (by omega)), trivial⟩)), trivial⟩ ?_
      refine AWP.cond (b := decide (0 ≥ st % 5) && al inh 0) (by kernel_rfl) (fun hq4 => ?_) (fun hq4 => ?_)
      · simp only [decide_eq_true_eq, Bool.and_eq_true] at hq4
        refine AWP.seq ?_
        refine AWP.regionT tcok hmix [(0, ⟨some (i64 0), none⟩), (5, ⟨some (i64 (l.a0 % 9)), none⟩), (6, ⟨some (i64 (0 + l.a0 % 9)), none⟩)] [2, 3, 4, 8, 9, 10, 11, 12, 13, 27] [4, 9] (os := [i64 u = i64 0, i64 (IntKind.wrap IntKind.i64 (l.a0 % 9)) = i64 (l.a0 % 9), i64 (IntKind.wrap IntKind.i64 (0 + l.a0 % 9)) = i64 (0 + l.a0 % 9)]) (s' := St.mk [(2, tp (u8 inh)), (3, tp (u8 mo)), (4, tp (V.ptr 4 0)), (8, tp (vb false)), (9, tp (V.ptr 9 0)), (10, tp (i64 (0 + l.a0 % 9))), (11, tp (i64 v)), (12, tp (i64 (st % 5))), (13, tp (i64 0)), (27, tp (i64 0))] [(4, Blk.mk [u8 l.a0, u8 l.a1, u8 l.a2, u8 l.a3, u8 l.a4] true 5 none), (9, Blk.mk [u8 (l.a0 % 9), u8 m.a1, u8 m.a2, u8 m.a3, u8 m.a4, u8 0, u8 0, u8 0, u8 0, u8 0] true 10 none)]) (by kernel_rfl) ⟨(in_eq hu), (wr_i64 (by omega) (by omega)), (wr_i64 (by omega) (by omega)), trivial⟩ ?_
        refine AWP.region tcok hmix [] (os := []) (sf := St.mk [(2, tp (u8 inh)), (3, tp (u8 mo)), (4, tp (V.ptr 4 0)), (8, tp (vb false)), (9, tp (V.ptr 9 0)), (10, tp (i64 (0 + l.a0 % 9))), (11, tp (i64 0)), (12, tp (i64 (st % 5))), (13, tp (i64 0)), (27, tp (i64 0)), (52, tp (i64 0))] [(4, Blk.mk [u8 l.a0, u8 l.a1, u8 l.a2, u8 l.a3, u8 l.a4] true 5 none), (9, Blk.mk [u8 (l.a0 % 9), u8 m.a1, u8 m.a2, u8 m.a3, u8 m.a4, u8 0, u8 0, u8 0, u8 0, u8 0] true 10 none)]) (by kernel_rfl) trivial ?_
        refine AWP.keep' [2, 3, 4, 8, 9, 10, 11, 12, 27] [4, 9] (sf := St.mk [(2, tp (u8 inh)), (3, tp (u8 mo)), (4, tp (V.ptr 4 0)), (8, tp (vb false)), (9, tp (V.ptr 9 0)), (10, tp (i64 (0 + l.a0 % 9))), (11, tp (i64 0)), (12, tp (i64 (st % 5))), (27, tp (i64 0))] [(4, Blk.mk [u8 l.a0, u8 l.a1, u8 l.a2, u8 l.a3, u8 l.a4] true 5 none), (9, Blk.mk [u8 (l.a0 % 9), u8 m.a1, u8 m.a2, u8 m.a3, u8 m.a4, u8 0, u8 0, u8 0, u8 0, u8 0] true 10 none)]) (by kernel_rfl) ?_
        refine AWP.region tcok hmix [] (os := []) (sf := St.mk [(2, tp (u8 inh)), (3, tp (u8 mo)), (4, tp (V.ptr 4 0)), (8, tp (vb false)), (9, tp (V.ptr 9 0)), (10, tp (i64 (0 + l.a0 % 9))), (11, tp (i64 0)), (12, tp (i64 (st % 5))), (27, tp (i64 1)), (53, tp (i64 1))] [(4, Blk.mk [u8 l.a0, u8 l.a1, u8 l.a2, u8 l.a3, u8 l.a4] true 5 none), (9, Blk.mk [u8 (l.a0 % 9), u8 m.a1, u8 m.a2, u8 m.a3, u8 m.a4, u8 0, u8 0, u8 0, u8 0, u8 0] true 10 none)]) (by kernel_rfl) trivial ?_
        refine ⟨St.mk [(2, tp (u8 inh)), (3, tp (u8 mo)), (4, tp (V.ptr 4 0)), (8, tp (vb false)), (9, tp (V.ptr 9 0)), (10, tp (i64 (0 + l.a0 % 9))), (11, tp (i64 0)), (12, tp (i64 (st % 5))), (27, tp (i64 1))] [(4, Blk.mk [u8 l.a0, u8 l.a1, u8 l.a2, u8 l.a3, u8 l.a4] true 5 none), (9, Blk.mk [u8 (l.a0 % 9), u8 m.a1, u8 m.a2, u8 m.a3, u8 m.a4, u8 0, u8 0, u8 0, u8 0, u8 0] true 10 none)], by kernel_rfl, ?_⟩
        first | (exfalso; simp_all; done) | (exact ⟨4, (by omega), 1, ⟨l.a0 % 9, m.a1, m.a2, m.a3, m.a4⟩, _, _, rfl, lo_mk (by omega), (by omega), (by simp [sA, hA]; try omega), (by simp [tA, hA]), (by omega), (by omega)⟩)
      simp only [decide_eq_false_iff_not, Bool.and_eq_false_iff] at hq4
      (simp_all; done)
  · cases hA : lvA (st % 5) inh 1
    all_goals
      have hA' := hA
      simp only [lvA] at hA'
      simp [sA, hA] at hu
      simp [tA, hA] at hv
    · refine AWP.seq ?_
      refine AWP.regionT tcok hmix [] [2, 3, 4, 8, 9, 10, 11, 12, 27, 28] [4, 9] (os := []) (s' := St.mk [(2, tp (u8 inh)), (3, tp (u8 mo)), (4, tp (V.ptr 4 0)), (8, tp (vb false)), (9, tp (V.ptr 9 0)), (10, tp (i64 u)), (11, tp (i64 v)), (12, tp (i64 (st % 5))), (27, tp (i64 1)), (28, tp (vb true))] [(4, Blk.mk [u8 l.a0, u8 l.a1, u8 l.a2, u8 l.a3, u8 l.a4] true 5 none), (9, Blk.mk [u8 m.a0, u8 m.a1, u8 m.a2, u8 m.a3, u8 m.a4, u8 0, u8 0, u8 0, u8 0, u8 0] true 10 none)]) (by kernel_rfl) trivial ?_
      refine AWP.seq ?_
      refine AWP.cond (b := true) (by kernel_rfl) (fun _ => ?_) (fun h => by cases h)
      refine AWP.skip ?_
      refine AWP.seq ?_
      refine AWP.block ?_
      refine AWP.seq ?_
      refine AWP.regionT tcok hmix [] [2, 3, 4, 8, 9, 10, 11, 12, 13, 27] [4, 9] (os := []) (s' := St.mk [(2, tp (u8 inh)), (3, tp (u8 mo)), (4, tp (V.ptr 4 0)), (8, tp (vb false)), (9, tp (V.ptr 9 0)), (10, tp (i64 u)), (11, tp (i64 v)), (12, tp (i64 (st % 5))), (13, tp (i64 1)), (27, tp (i64 1))] [(4, Blk.mk [u8 l.a0, u8 l.a1, u8 l.a2, u8 l.a3, u8 l.a4] true 5 none), (9, Blk.mk [u8 m.a0, u8 m.a1, u8 m.a2, u8 m.a3, u8 m.a4, u8 0, u8 0, u8 0, u8 0, u8 0] true 10 none)]) (by kernel_rfl) trivial ?_
      refine AWP.seq ?_
      refine AWP.regionT tcok hmix [(4, ⟨some (u8 (l.a1 % 9)), none⟩)] [2, 3, 4, 8, 9, 10, 11, 12, 13, 27] [4, 9] (os := [(9 : Int) ≠ (0 : Int), u8 (Int.tmod l.a1 9) = u8 (l.a1 % 9)]) (s' := St.mk [(2, tp (u8 inh)), (3, tp (u8 mo)), (4, tp (V.ptr 4 0)), (8, tp (vb false)), (9, tp (V.ptr 9 0)), (10, tp (i64 u)), (11, tp (i64 v)), (12, tp (i64 (st % 5))), (13, tp (i64 1)), (27, tp (i64 1))] [(4, Blk.mk [u8 l.a0, u8 l.a1, u8 l.a2, u8 l.a3, u8 l.a4] true 5 none), (9, Blk.mk [u8 m.a0, u8 (l.a1 % 9), u8 m.a2, u8 m.a3, u8 m.a4, u8 0, u8 0, u8 0, u8 0, u8 0] true 10 none)]) (by kernel_rfl) ⟨(by omega), (tm_ (by omega)), trivial⟩ ?_
      refine AWP.seq ?_
      refine AWP.regionT tcok hmix [(6, ⟨none, some ⟨vb (al inh 1), [], []⟩⟩)] [2, 3, 4, 8, 9, 10, 11, 12, 13, 27, 44] [4, 9] (os := [decide ((1 : Int) ≥ st % (5 : Int)) = true → Con Tryd.prog (12 : Nat) [] [u8 inh, i64 (1 : Int)] [] (vb (al inh (1 : Int))) ∧ True]) (s' := St.mk [(2, tp (u8 inh)), (3, tp (u8 mo)), (4, tp (V.ptr 4 0)), (8, tp (vb false)), (9, tp (V.ptr 9 0)), (10, tp (i64 u)), (11, tp (i64 v)), (12, tp (i64 (st % 5))), (13, tp (i64 1)), (27, tp (i64 1)), (44, tp (vb (decide (1 ≥ st % 5) && al inh 1)))] [(4, Blk.mk [u8 l.a0, u8 l.a1, u8 l.a2, u8 l.a3, u8 l.a4] true 5 none), (9, Blk.mk [u8 m.a0, u8 (l.a1 % 9), u8 m.a2, u8 m.a3, u8 m.a4, u8 0, u8 0, u8 0, u8 0, u8 0] true 10 none)]) (by kernel_rfl) ⟨(by intro hc0; first | (cases hc0; done) | (try simp only [Bool.or_false, Bool.false_or, Bool.true_and, Bool.and_true, decide_eq_true_eq, decide_eq_false_iff_not, Bool.and_eq_true, Bool.or_eq_true, Bool.or_eq_false_iff, Bool.not_eq_true', Bool.and_eq_false_iff, beq_iff_eq, bne_iff_ne, bne_eq_false_iff_eq, beq_eq_false_iff_ne, Bool.not_eq_false'] at hc0; exact ⟨(con_rallowed (inh) (1) (by assumption) (by omega)), trivial⟩)), trivial⟩ ?_
      refine AWP.cond (b := decide (1 ≥ st % 5) && al inh 1) (by kernel_rfl) (fun hq6 => ?_) (fun hq6 => ?_)
      · simp only [decide_eq_true_eq, Bool.and_eq_true] at hq6
        (simp_all; done)
      simp only [decide_eq_false_iff_not, Bool.and_eq_false_iff] at hq6
      refine AWP.skip ?_
      refine AWP.region tcok hmix [] (os := []) (sf := St.mk [(2, tp (u8 inh)), (3, tp (u8 mo)), (4, tp (V.ptr 4 0)), (8, tp (vb false)), (9, tp (V.ptr 9 0)), (10, tp (i64 u)), (11, tp (i64 v)), (12, tp (i64 (st % 5))), (13, tp (i64 1)), (27, tp (i64 2)), (44, tp (vb (decide (1 ≥ st % 5) && al inh 1))), (53, tp (i64 2))] [(4, Blk.mk [u8 l.a0, u8 l.a1, u8 l.a2, u8 l.a3, u8 l.a4] true 5 none), (9, Blk.mk [u8 m.a0, u8 (l.a1 % 9), u8 m.a2, u8 m.a3, u8 m.a4, u8 0, u8 0, u8 0, u8 0, u8 0] true 10 none)]) (by kernel_rfl) trivial ?_
      refine ⟨St.mk [(2, tp (u8 inh)), (3, tp (u8 mo)), (4, tp (V.ptr 4 0)), (8, tp (vb false)), (9, tp (V.ptr 9 0)), (10, tp (i64 u)), (11, tp (i64 v)), (12, tp (i64 (st % 5))), (27, tp (i64 2))] [(4, Blk.mk [u8 l.a0, u8 l.a1, u8 l.a2, u8 l.a3, u8 l.a4] true 5 none), (9, Blk.mk [u8 m.a0, u8 (l.a1 % 9), u8 m.a2, u8 m.a3, u8 m.a4, u8 0, u8 0, u8 0, u8 0, u8 0] true 10 none)], by kernel_rfl, ?_⟩
      first | (exfalso; simp_all; done) | (exact ⟨3, (by omega), 2, ⟨m.a0, l.a1 % 9, m.a2, m.a3, m.a4⟩, _, _, rfl, lo_mk (by omega), (by omega), (by simp [sA, hA]; try omega), (by simp [tA, hA]; try omega), (by omega), (by omega)⟩)
    · refine AWP.seq ?_
      refine AWP.regionT tcok hmix [] [2, 3, 4, 8, 9, 10, 11, 12, 27, 28] [4, 9] (os := []) (s' := St.mk [(2, tp (u8 inh)), (3, tp (u8 mo)), (4, tp (V.ptr 4 0)), (8, tp (vb false)), (9, tp (V.ptr 9 0)), (10, tp (i64 u)), (11, tp (i64 v)), (12, tp (i64 (st % 5))), (27, tp (i64 1)), (28, tp (vb true))] [(4, Blk.mk [u8 l.a0, u8 l.a1, u8 l.a2, u8 l.a3, u8 l.a4] true 5 none), (9, Blk.mk [u8 m.a0, u8 m.a1, u8 m.a2, u8 m.a3, u8 m.a4, u8 0, u8 0, u8 0, u8 0, u8 0] true 10 none)]) (by kernel_rfl) trivial ?_
      refine AWP.seq ?_
      refine AWP.cond (b := true) (by kernel_rfl) (fun _ => ?_) (fun h => by cases h)
      refine AWP.skip ?_
      refine AWP.seq ?_
      refine AWP.block ?_
      refine AWP.seq ?_
      refine AWP.regionT tcok hmix [] [2, 3, 4, 8, 9, 10, 11, 12, 13, 27] [4, 9] (os := []) (s' := St.mk [(2, tp (u8 inh)), (3, tp (u8 mo)), (4, tp (V.ptr 4 0)), (8, tp (vb false)), (9, tp (V.ptr 9 0)), (10, tp (i64 u)), (11, tp (i64 v)), (12, tp (i64 (st % 5))), (13, tp (i64 1)), (27, tp (i64 1))] [(4, Blk.mk [u8 l.a0, u8 l.a1, u8 l.a2, u8 l.a3, u8 l.a4] true 5 none), (9, Blk.mk [u8 m.a0, u8 m.a1, u8 m.a2, u8 m.a3, u8 m.a4, u8 0, u8 0, u8 0, u8 0, u8 0] true 10 none)]) (by kernel_rfl) trivial ?_
      refine AWP.seq ?_
      refine AWP.regionT tcok hmix [(4, ⟨some (u8 (l.a1 % 9)), none⟩)] [2, 3, 4, 8, 9, 10, 11, 12, 13, 27] [4, 9] (os := [(9 : Int) ≠ (0 : Int), u8 (Int.tmod l.a1 9) = u8 (l.a1 % 9)]) (s' := St.mk [(2, tp (u8 inh)), (3, tp (u8 mo)), (4, tp (V.ptr 4 0)), (8, tp (vb false)), (9, tp (V.ptr 9 0)), (10, tp (i64 u)), (11, tp (i64 v)), (12, tp (i64 (st % 5))), (13, tp (i64 1)), (27, tp (i64 1))] [(4, Blk.mk [u8 l.a0, u8 l.a1, u8 l.a2, u8 l.a3, u8 l.a4] true 5 none), (9, Blk.mk [u8 m.a0, u8 (l.a1 % 9), u8 m.a2, u8 m.a3, u8 m.a4, u8 0, u8 0, u8 0, u8 0, u8 0] true 10 none)]) (by kernel_rfl) ⟨(by omega), (tm_ (by omega)), trivial⟩ ?_
      refine AWP.seq ?_
      refine AWP.regionT tcok hmix [(6, ⟨none, some ⟨vb (al inh 1), [], []⟩⟩)] [2, 3, 4, 8, 9, 10, 11, 12, 13, 27, 44] [4, 9] (os := [decide ((1 : Int) ≥ st % (5 : Int)) = true → Con Tryd.prog (12 : Nat) [] [u8 inh, i64 (1 : Int)] [] (vb (al inh (1 : Int))) ∧ True]) (s' := St.mk [(2, tp (u8 inh)), (3, tp (u8 mo)), (4, tp (V.ptr 4 0)), (8, tp (vb false)), (9, tp (V.ptr 9 0)), (10, tp (i64 u)), (11, tp (i64 v)), (12, tp (i64 (st % 5))), (13, tp (i64 1)), (27, tp (i64 1)), (44, tp (vb (decide (1 ≥ st % 5) && al inh 1)))] [(4, Blk.mk [u8 l.a0, u8 l.a1, u8 l.a2, u8 l.a3, u8 l.a4] true 5 none), (9, Blk.mk [u8 m.a0, u8 (l.a1 % 9), u8 m.a2, u8 m.a3, u8 m.a4, u8 0, u8 0, u8 0, u8 0, u8 0] true 10 none)]) (by kernel_rfl) ⟨(by intro hc0; first | (cases hc0; done) | (try simp only [Bool.or_false, Bool.false_or, Bool.true_and, Bool.and_true, decide_eq_true_eq, decide_eq_false_iff_not, Bool.and_eq_true, Bool.or_eq_true, Bool.or_eq_false_iff, Bool.not_eq_true', Bool.and_eq_false_iff, beq_iff_eq, bne_iff_ne, bne_eq_false_iff_eq, beq_eq_false_iff_ne, Bool.not_eq_false'] at hc0; exact ⟨(con_rallowed (inh) (1) (by assumption) (by omega)), trivial⟩)), trivial⟩ ?_
      refine AWP.cond (b := decide (1 ≥ st % 5) && al inh 1) (by kernel_rfl) (fun hq8 => ?_) (fun hq8 => ?_)
      · simp only [decide_eq_true_eq, Bool.and_eq_true] at hq8
        refine AWP.seq ?_
        refine AWP.regionT tcok hmix [(5, ⟨some (i64 (l.a1 % 9)), none⟩), (6, ⟨some (i64 (u + l.a1 % 9)), none⟩)] [2, 3, 4, 8, 9, 10, 11, 12, 13, 27] [4, 9] (os := [i64 (IntKind.wrap IntKind.i64 (l.a1 % 9)) = i64 (l.a1 % 9), i64 (IntKind.wrap IntKind.i64 (u + l.a1 % 9)) = i64 (u + l.a1 % 9)]) (s' := St.mk [(2, tp (u8 inh)), (3, tp (u8 mo)), (4, tp (V.ptr 4 0)), (8, tp (vb false)), (9, tp (V.ptr 9 0)), (10, tp (i64 (u + l.a1 % 9))), (11, tp (i64 v)), (12, tp (i64 (st % 5))), (13, tp (i64 1)), (27, tp (i64 1))] [(4, Blk.mk [u8 l.a0, u8 l.a1, u8 l.a2, u8 l.a3, u8 l.a4] true 5 none), (9, Blk.mk [u8 m.a0, u8 (l.a1 % 9), u8 m.a2, u8 m.a3, u8 m.a4, u8 0, u8 0, u8 0, u8 0, u8 0] true 10 none)]) (by kernel_rfl) ⟨(wr_i64 (by omega) (by omega)), (wr_i64 (by omega) (by omega)), trivial⟩ ?_
        refine AWP.region tcok hmix [] (os := []) (sf := St.mk [(2, tp (u8 inh)), (3, tp (u8 mo)), (4, tp (V.ptr 4 0)), (8, tp (vb false)), (9, tp (V.ptr 9 0)), (10, tp (i64 (u + l.a1 % 9))), (11, tp (i64 1)), (12, tp (i64 (st % 5))), (13, tp (i64 1)), (27, tp (i64 1)), (52, tp (i64 1))] [(4, Blk.mk [u8 l.a0, u8 l.a1, u8 l.a2, u8 l.a3, u8 l.a4] true 5 none), (9, Blk.mk [u8 m.a0, u8 (l.a1 % 9), u8 m.a2, u8 m.a3, u8 m.a4, u8 0, u8 0, u8 0, u8 0, u8 0] true 10 none)]) (by kernel_rfl) trivial ?_
        refine AWP.keep' [2, 3, 4, 8, 9, 10, 11, 12, 27] [4, 9] (sf := St.mk [(2, tp (u8 inh)), (3, tp (u8 mo)), (4, tp (V.ptr 4 0)), (8, tp (vb false)), (9, tp (V.ptr 9 0)), (10, tp (i64 (u + l.a1 % 9))), (11, tp (i64 1)), (12, tp (i64 (st % 5))), (27, tp (i64 1))] [(4, Blk.mk [u8 l.a0, u8 l.a1, u8 l.a2, u8 l.a3, u8 l.a4] true 5 none), (9, Blk.mk [u8 m.a0, u8 (l.a1 % 9), u8 m.a2, u8 m.a3, u8 m.a4, u8 0, u8 0, u8 0, u8 0, u8 0] true 10 none)]) (by kernel_rfl) ?_
        refine AWP.region tcok hmix [] (os := []) (sf := St.mk [(2, tp (u8 inh)), (3, tp (u8 mo)), (4, tp (V.ptr 4 0)), (8, tp (vb false)), (9, tp (V.ptr 9 0)), (10, tp (i64 (u + l.a1 % 9))), (11, tp (i64 1)), (12, tp (i64 (st % 5))), (27, tp (i64 2)), (53, tp (i64 2))] [(4, Blk.mk [u8 l.a0, u8 l.a1, u8 l.a2, u8 l.a3, u8 l.a4] true 5 none), (9, Blk.mk [u8 m.a0, u8 (l.a1 % 9), u8 m.a2, u8 m.a3, u8 m.a4, u8 0, u8 0, u8 0, u8 0, u8 0] true 10 none)]) (by kernel_rfl) trivial ?_
        refine ⟨St.mk [(2, tp (u8 inh)), (3, tp (u8 mo)), (4, tp (V.ptr 4 0)), (8, tp (vb false)), (9, tp (V.ptr 9 0)), (10, tp (i64 (u + l.a1 % 9))), (11, tp (i64 1)), (12, tp (i64 (st % 5))), (27, tp (i64 2))] [(4, Blk.mk [u8 l.a0, u8 l.a1, u8 l.a2, u8 l.a3, u8 l.a4] true 5 none), (9, Blk.mk [u8 m.a0, u8 (l.a1 % 9), u8 m.a2, u8 m.a3, u8 m.a4, u8 0, u8 0, u8 0, u8 0, u8 0] true 10 none)], by kernel_rfl, ?_⟩
        first | (exfalso; simp_all; done) | (exact ⟨3, (by omega), 2, ⟨m.a0, l.a1 % 9, m.a2, m.a3, m.a4⟩, _, _, rfl, lo_mk (by omega), (by omega), (by simp [sA, hA]; try omega), (by simp [tA, hA]), (by omega), (by omega)⟩)
      simp only [decide_eq_false_iff_not, Bool.and_eq_false_iff] at hq8
      (simp_all; done)
  · cases hA : lvA (st % 5) inh 2
    all_goals
      have hA' := hA
      simp only [lvA] at hA'
      simp [sA, hA] at hu
      simp [tA, hA] at hv
    · refine AWP.seq ?_
      refine AWP.regionT tcok hmix [] [2, 3, 4, 8, 9, 10, 11, 12, 27, 28] [4, 9] (os := []) (s' := St.mk [(2, tp (u8 inh)), (3, tp (u8 mo)), (4, tp (V.ptr 4 0)), (8, tp (vb false)), (9, tp (V.ptr 9 0)), (10, tp (i64 u)), (11, tp (i64 v)), (12, tp (i64 (st % 5))), (27, tp (i64 2)), (28, tp (vb true))] [(4, Blk.mk [u8 l.a0, u8 l.a1, u8 l.a2, u8 l.a3, u8 l.a4] true 5 none), (9, Blk.mk [u8 m.a0, u8 m.a1, u8 m.a2, u8 m.a3, u8 m.a4, u8 0, u8 0, u8 0, u8 0, u8 0] true 10 none)]) (by kernel_rfl) trivial ?_
      refine AWP.seq ?_
      refine AWP.cond (b := true) (by kernel_rfl) (fun _ => ?_) (fun h => by cases h)
      refine AWP.skip ?_
      refine AWP.seq ?_
      refine AWP.block ?_
      refine AWP.seq ?_
      refine AWP.regionT tcok hmix [] [2, 3, 4, 8, 9, 10, 11, 12, 13, 27] [4, 9] (os := []) (s' := St.mk [(2, tp (u8 inh)), (3, tp (u8 mo)), (4, tp (V.ptr 4 0)), (8, tp (vb false)), (9, tp (V.ptr 9 0)), (10, tp (i64 u)), (11, tp (i64 v)), (12, tp (i64 (st % 5))), (13, tp (i64 2)), (27, tp (i64 2))] [(4, Blk.mk [u8 l.a0, u8 l.a1, u8 l.a2, u8 l.a3, u8 l.a4] true 5 none), (9, Blk.mk [u8 m.a0, u8 m.a1, u8 m.a2, u8 m.a3, u8 m.a4, u8 0, u8 0, u8 0, u8 0, u8 0] true 10 none)]) (by kernel_rfl) trivial ?_
      refine AWP.seq ?_
      refine AWP.regionT tcok hmix [(4, ⟨some (u8 (l.a2 % 9)), none⟩)] [2, 3, 4, 8, 9, 10, 11, 12, 13, 27] [4, 9] (os := [(9 : Int) ≠ (0 : Int), u8 (Int.tmod l.a2 9) = u8 (l.a2 % 9)]) (s' := St.mk [(2, tp (u8 inh)), (3, tp (u8 mo)), (4, tp (V.ptr 4 0)), (8, tp (vb false)), (9, tp (V.ptr 9 0)), (10, tp (i64 u)), (11, tp (i64 v)), (12, tp (i64 (st % 5))), (13, tp (i64 2)), (27, tp (i64 2))] [(4, Blk.mk [u8 l.a0, u8 l.a1, u8 l.a2, u8 l.a3, u8 l.a4] true 5 none), (9, Blk.mk [u8 m.a0, u8 m.a1, u8 (l.a2 % 9), u8 m.a3, u8 m.a4, u8 0, u8 0, u8 0, u8 0, u8 0] true 10 none)]) (by kernel_rfl) ⟨(by omega), (tm_ (by omega)), trivial⟩ ?_
      refine AWP.seq ?_
      refine AWP.regionT tcok hmix [(6, ⟨none, some ⟨vb (al inh 2), [], []⟩⟩)] [2, 3, 4, 8, 9, 10, 11, 12, 13, 27, 44] [4, 9] (os := [decide ((2 : Int) ≥ st % (5 : Int)) = true → Con Tryd.prog (12 : Nat) [] [u8 inh, i64 (2 : Int)] [] (vb (al inh (2 : Int))) ∧ True]) (s' := St.mk [(2, tp (u8 inh)), (3, tp (u8 mo)), (4, tp (V.ptr 4 0)), (8, tp (vb false)), (9, tp (V.ptr 9 0)), (10, tp (i64 u)), (11, tp (i64 v)), (12, tp (i64 (st % 5))), (13, tp (i64 2)), (27, tp (i64 2)), (44, tp (vb (decide (2 ≥ st % 5) && al inh 2)))] [(4, Blk.mk [u8 l.a0, u8 l.a1, u8 l.a2, u8 l.a3, u8 l.a4] true 5 none), (9, Blk.mk [u8 m.a0, u8 m.a1, u8 (l.a2 % 9), u8 m.a3, u8 m.a4, u8 0, u8 0, u8 0, u8 0, u8 0] true 10 none)]) (by kernel_rfl) ⟨(by intro hc0; first | (cases hc0; done) | (try simp only [Bool.or_false, Bool.false_or, Bool.true_and, Bool.and_true, decide_eq_true_eq, decide_eq_false_iff_not, Bool.and_eq_true, Bool.or_eq_true, Bool.or_eq_false_iff, Bool.not_eq_true', Bool.and_eq_false_iff, beq_iff_eq, bne_iff_ne, bne_eq_false_iff_eq, beq_eq_false_iff_ne, Bool.not_eq_false'] at hc0; exact ⟨(con_rallowed (inh) (2) (by assumption) (by omega)), trivial⟩)), trivial⟩ ?_
      refine AWP.cond (b := decide (2 ≥ st % 5) && al inh 2) (by kernel_rfl) (fun hq10 => ?_) (fun hq10 => ?_)
      · simp only [decide_eq_true_eq, Bool.and_eq_true] at hq10
        (simp_all; done)
      simp only [decide_eq_false_iff_not, Bool.and_eq_false_iff] at hq10
      refine AWP.skip ?_
      refine AWP.region tcok hmix [] (os := []) (sf := St.mk [(2, tp (u8 inh)), (3, tp (u8 mo)), (4, tp (V.ptr 4 0)), (8, tp (vb false)), (9, tp (V.ptr 9 0)), (10, tp (i64 u)), (11, tp (i64 v)), (12, tp (i64 (st % 5))), (13, tp (i64 2)), (27, tp (i64 3)), (44, tp (vb (decide (2 ≥ st % 5) && al inh 2))), (53, tp (i64 3))] [(4, Blk.mk [u8 l.a0, u8 l.a1, u8 l.a2, u8 l.a3, u8 l.a4] true 5 none), (9, Blk.mk [u8 m.a0, u8 m.a1, u8 (l.a2 % 9), u8 m.a3, u8 m.a4, u8 0, u8 0, u8 0, u8 0, u8 0] true 10 none)]) (by kernel_rfl) trivial ?_
      refine ⟨St.mk [(2, tp (u8 inh)), (3, tp (u8 mo)), (4, tp (V.ptr 4 0)), (8, tp (vb false)), (9, tp (V.ptr 9 0)), (10, tp (i64 u)), (11, tp (i64 v)), (12, tp (i64 (st % 5))), (27, tp (i64 3))] [(4, Blk.mk [u8 l.a0, u8 l.a1, u8 l.a2, u8 l.a3, u8 l.a4] true 5 none), (9, Blk.mk [u8 m.a0, u8 m.a1, u8 (l.a2 % 9), u8 m.a3, u8 m.a4, u8 0, u8 0, u8 0, u8 0, u8 0] true 10 none)], by kernel_rfl, ?_⟩
      first | (exfalso; simp_all; done) | (exact ⟨2, (by omega), 3, ⟨m.a0, m.a1, l.a2 % 9, m.a3, m.a4⟩, _, _, rfl, lo_mk (by omega), (by omega), (by simp [sA, hA]; try omega), (by simp [tA, hA]; try omega), (by omega), (by omega)⟩)
    · refine AWP.seq ?_
      refine AWP.regionT tcok hmix [] [2, 3, 4, 8, 9, 10, 11, 12, 27, 28] [4, 9] (os := []) (s' := St.mk [(2, tp (u8 inh)), (3, tp (u8 mo)), (4, tp (V.ptr 4 0)), (8, tp (vb false)), (9, tp (V.ptr 9 0)), (10, tp (i64 u)), (11, tp (i64 v)), (12, tp (i64 (st % 5))), (27, tp (i64 2)), (28, tp (vb true))] [(4, Blk.mk [u8 l.a0, u8 l.a1, u8 l.a2, u8 l.a3, u8 l.a4] true 5 none), (9, Blk.mk [u8 m.a0, u8 m.a1, u8 m.a2, u8 m.a3, u8 m.a4, u8 0, u8 0, u8 0, u8 0, u8 0] true 10 none)]) (by kernel_rfl) trivial ?_
      refine AWP.seq ?_
      refine AWP.cond (b := true) (by kernel_rfl) (fun _ => ?_) (fun h => by cases h)
      refine AWP.skip ?_
      refine AWP.seq ?_
      refine AWP.block ?_
      refine AWP.seq ?_
      refine AWP.regionT tcok hmix [] [2, 3, 4, 8, 9, 10, 11, 12, 13, 27] [4, 9] (os := []) (s' := St.mk [(2, tp (u8 inh)), (3, tp (u8 mo)), (4, tp (V.ptr 4 0)), (8, tp (vb false)), (9, tp (V.ptr 9 0)), (10, tp (i64 u)), (11, tp (i64 v)), (12, tp (i64 (st % 5))), (13, tp (i64 2)), (27, tp (i64 2))] [(4, Blk.mk [u8 l.a0, u8 l.a1, u8 l.a2, u8 l.a3, u8 l.a4] true 5 none), (9, Blk.mk [u8 m.a0, u8 m.a1, u8 m.a2, u8 m.a3, u8 m.a4, u8 0, u8 0, u8 0, u8 0, u8 0] true 10 none)]) (by kernel_rfl) trivial ?_
      refine AWP.seq ?_
      refine AWP.regionT tcok hmix [(4, ⟨some (u8 (l.a2 % 9)), none⟩)] [2, 3, 4, 8, 9, 10, 11, 12, 13, 27] [4, 9] (os := [(9 : Int) ≠ (0 : Int), u8 (Int.tmod l.a2 9) = u8 (l.a2 % 9)]) (s' := St.mk [(2, tp (u8 inh)), (3, tp (u8 mo)), (4, tp (V.ptr 4 0)), (8, tp (vb false)), (9, tp (V.ptr 9 0)), (10, tp (i64 u)), (11, tp (i64 v)), (12, tp (i64 (st % 5))), (13, tp (i64 2)), (27, tp (i64 2))] [(4, Blk.mk [u8 l.a0, u8 l.a1, u8 l.a2, u8 l.a3, u8 l.a4] true 5 none), (9, Blk.mk [u8 m.a0, u8 m.a1, u8 (l.a2 % 9), u8 m.a3, u8 m.a4, u8 0, u8 0, u8 0, u8 0, u8 0] true 10 none)]) (by kernel_rfl) ⟨(by omega), (tm_ (by omega)), trivial⟩ ?_
      refine AWP.seq ?_
      refine AWP.regionT tcok hmix [(6, ⟨none, some ⟨vb (al inh 2), [], []⟩⟩)] [2, 3, 4, 8, 9, 10, 11, 12, 13, 27, 44] [4, 9] (os := [decide ((2 : Int) ≥ st % (5 : Int)) = true → Con Tryd.prog (12 : Nat) [] [u8 inh, i64 (2 : Int)] [] (vb (al inh (2 : Int))) ∧ True]) (s' := St.mk [(2, tp (u8 inh)), (3, tp (u8 mo)), (4, tp (V.ptr 4 0)), (8, tp (vb false)), (9, tp (V.ptr 9 0)), (10, tp (i64 u)), (11, tp (i64 v)), (12, tp (i64 (st % 5))), (13, tp (i64 2)), (27, tp (i64 2)), (44, tp (vb (decide (2 ≥ st % 5) && al inh 2)))] [(4, Blk.mk [u8 l.a0, u8 l.a1, u8 l.a2, u8 l.a3, u8 l.a4] true 5 none), (9, Blk.mk [u8 m.a0, u8 m.a1, u8 (l.a2 % 9), u8 m.a3, u8 m.a4, u8 0, u8 0, u8 0, u8 0, u8 0] true 10 none)]) (by kernel_rfl) ⟨(by intro hc0; first | (cases hc0; done) | (try simp only [Bool.or_false, Bool.false_or, Bool.true_and, Bool.and_true, decide_eq_true_eq, decide_eq_false_iff_not, Bool.and_eq_true, Bool.or_eq_true, Bool.or_eq_false_iff, Bool.not_eq_true', Bool.and_eq_false_iff, beq_iff_eq, bne_iff_ne, bne_eq_false_iff_eq, beq_eq_false_iff_ne, Bool.not_eq_false'] at hc0; exact ⟨(con_rallowed (inh) (2) (by assumption) (by omega)), trivial⟩)), trivial⟩ ?_
      refine AWP.cond (b := decide (2 ≥ st % 5) && al inh 2) (by kernel_rfl) (fun hq12 => ?_) (fun hq12 => ?_)
      · simp only [decide_eq_true_eq, Bool.and_eq_true] at hq12
        refine AWP.seq ?_
        refine AWP.regionT tcok hmix [(5, ⟨some (i64 (l.a2 % 9)), none⟩), (6, ⟨some (i64 (u + l.a2 % 9)), none⟩)] [2, 3, 4, 8, 9, 10, 11, 12, 13, 27] [4, 9] (os := [i64 (IntKind.wrap IntKind.i64 (l.a2 % 9)) = i64 (l.a2 % 9), i64 (IntKind.wrap IntKind.i64 (u + l.a2 % 9)) = i64 (u + l.a2 % 9)]) (s' := St.mk [(2, tp (u8 inh)), (3, tp (u8 mo)), (4, tp (V.ptr 4 0)), (8, tp (vb false)), (9, tp (V.ptr 9 0)), (10, tp (i64 (u + l.a2 % 9))), (11, tp (i64 v)), (12, tp (i64 (st % 5))), (13, tp (i64 2)), (27, tp (i64 2))] [(4, Blk.mk [u8 l.a0, u8 l.a1, u8 l.a2, u8 l.a3, u8 l.a4] true 5 none), (9, Blk.mk [u8 m.a0, u8 m.a1, u8 (l.a2 % 9), u8 m.a3, u8 m.a4, u8 0, u8 0, u8 0, u8 0, u8 0] true 10 none)]) (by kernel_rfl) ⟨(wr_i64 (by omega) (by omega)), (wr_i64 (by omega) (by omega)), trivial⟩ ?_
        refine AWP.region tcok hmix [] (os := []) (sf := St.mk [(2, tp (u8 inh)), (3, tp (u8 mo)), (4, tp (V.ptr 4 0)), (8, tp (vb false)), (9, tp (V.ptr 9 0)), (10, tp (i64 (u + l.a2 % 9))), (11, tp (i64 2)), (12, tp (i64 (st % 5))), (13, tp (i64 2)), (27, tp (i64 2)), (52, tp (i64 2))] [(4, Blk.mk [u8 l.a0, u8 l.a1, u8 l.a2, u8 l.a3, u8 l.a4] true 5 none), (9, Blk.mk [u8 m.a0, u8 m.a1, u8 (l.a2 % 9), u8 m.a3, u8 m.a4, u8 0, u8 0, u8 0, u8 0, u8 0] true 10 none)]) (by kernel_rfl) trivial ?_
        refine AWP.keep' [2, 3, 4, 8, 9, 10, 11, 12, 27] [4, 9] (sf := St.mk [(2, tp (u8 inh)), (3, tp (u8 mo)), (4, tp (V.ptr 4 0)), (8, tp (vb false)), (9, tp (V.ptr 9 0)), (10, tp (i64 (u + l.a2 % 9))), (11, tp (i64 2)), (12, tp (i64 (st % 5))), (27, tp (i64 2))] [(4, Blk.mk [u8 l.a0, u8 l.a1, u8 l.a2, u8 l.a3, u8 l.a4] true 5 none), (9, Blk.mk [u8 m.a0, u8 m.a1, u8 (l.a2 % 9), u8 m.a3, u8 m.a4, u8 0, u8 0, u8 0, u8 0, u8 0] true 10 none)]) (by kernel_rfl) ?_
        refine AWP.region tcok hmix [] (os := []) (sf := St.mk [(2, tp (u8 inh)), (3, tp (u8 mo)), (4, tp (V.ptr 4 0)), (8, tp (vb false)), (9, tp (V.ptr 9 0)), (10, tp (i64 (u + l.a2 % 9))), (11, tp (i64 2)), (12, tp (i64 (st % 5))), (27, tp (i64 3)), (53, tp (i64 3))] [(4, Blk.mk [u8 l.a0, u8 l.a1, u8 l.a2, u8 l.a3, u8 l.a4] true 5 none), (9, Blk.mk [u8 m.a0, u8 m.a1, u8 (l.a2 % 9), u8 m.a3, u8 m.a4, u8 0, u8 0, u8 0, u8 0, u8 0] true 10 none)]) (by kernel_rfl) trivial ?_
        refine ⟨St.mk [(2, tp (u8 inh)), (3, tp (u8 mo)), (4, tp (V.ptr 4 0)), (8, tp (vb false)), (9, tp (V.ptr 9 0)), (10, tp (i64 (u + l.a2 % 9))), (11, tp (i64 2)), (12, tp (i64 (st % 5))), (27, tp (i64 3))] [(4, Blk.mk [u8 l.a0, u8 l.a1, u8 l.a2, u8 l.a3, u8 l.a4] true 5 none), (9, Blk.mk [u8 m.a0, u8 m.a1, u8 (l.a2 % 9), u8 m.a3, u8 m.a4, u8 0, u8 0, u8 0, u8 0, u8 0] true 10 none)], by kernel_rfl, ?_⟩
        first | (exfalso; simp_all; done) | (exact ⟨2, (by omega), 3, ⟨m.a0, m.a1, l.a2 % 9, m.a3, m.a4⟩, _, _, rfl, lo_mk (by omega), (by omega), (by simp [sA, hA]; try omega), (by simp [tA, hA]), (by omega), (by omega)⟩)
      simp only [decide_eq_false_iff_not, Bool.and_eq_false_iff] at hq12
      (simp_all; done)
  · cases hA : lvA (st % 5) inh 3
    all_goals
      have hA' := hA
      simp only [lvA] at hA'
      simp [sA, hA] at hu
      simp [tA, hA] at hv
    · refine AWP.seq ?_
      refine AWP.regionT tcok hmix [] [2, 3, 4, 8, 9, 10, 11, 12, 27, 28] [4, 9] (os := []) (s' := St.mk [(2, tp (u8 inh)), (3, tp (u8 mo)), (4, tp (V.ptr 4 0)), (8, tp (vb false)), (9, tp (V.ptr 9 0)), (10, tp (i64 u)), (11, tp (i64 v)), (12, tp (i64 (st % 5))), (27, tp (i64 3)), (28, tp (vb true))] [(4, Blk.mk [u8 l.a0, u8 l.a1, u8 l.a2, u8 l.a3, u8 l.a4] true 5 none), (9, Blk.mk [u8 m.a0, u8 m.a1, u8 m.a2, u8 m.a3, u8 m.a4, u8 0, u8 0, u8 0, u8 0, u8 0] true 10 none)]) (by kernel_rfl) trivial ?_
      refine AWP.seq ?_
      refine AWP.cond (b := true) (by kernel_rfl) (fun _ => ?_) (fun h => by cases h)
      refine AWP.skip ?_
      refine AWP.seq ?_
      refine AWP.block ?_
      refine AWP.seq ?_
      refine AWP.regionT tcok hmix [] [2, 3, 4, 8, 9, 10, 11, 12, 13, 27] [4, 9] (os := []) (s' := St.mk [(2, tp (u8 inh)), (3, tp (u8 mo)), (4, tp (V.ptr 4 0)), (8, tp (vb false)), (9, tp (V.ptr 9 0)), (10, tp (i64 u)), (11, tp (i64 v)), (12, tp (i64 (st % 5))), (13, tp (i64 3)), (27, tp (i64 3))] [(4, Blk.mk [u8 l.a0, u8 l.a1, u8 l.a2, u8 l.a3, u8 l.a4] true 5 none), (9, Blk.mk [u8 m.a0, u8 m.a1, u8 m.a2, u8 m.a3, u8 m.a4, u8 0, u8 0, u8 0, u8 0, u8 0] true 10 none)]) (by kernel_rfl) trivial ?_
      refine AWP.seq ?_
      refine AWP.regionT tcok hmix [(4, ⟨some (u8 (l.a3 % 9)), none⟩)] [2, 3, 4, 8, 9, 10, 11, 12, 13, 27] [4, 9] (os := [(9 : Int) ≠ (0 : Int), u8 (Int.tmod l.a3 9) = u8 (l.a3 % 9)]) (s' := St.mk [(2, tp (u8 inh)), (3, tp (u8 mo)), (4, tp (V.ptr 4 0)), (8, tp (vb false)), (9, tp (V.ptr 9 0)), (10, tp (i64 u)), (11, tp (i64 v)), (12, tp (i64 (st % 5))), (13, tp (i64 3)), (27, tp (i64 3))] [(4, Blk.mk [u8 l.a0, u8 l.a1, u8 l.a2, u8 l.a3, u8 l.a4] true 5 none), (9, Blk.mk [u8 m.a0, u8 m.a1, u8 m.a2, u8 (l.a3 % 9), u8 m.a4, u8 0, u8 0, u8 0, u8 0, u8 0] true 10 none)]) (by kernel_rfl) ⟨(by omega), (tm_ (by omega)), trivial⟩ ?_
      refine AWP.seq ?_
      refine AWP.regionT tcok hmix [(6, ⟨none, some ⟨vb (al inh 3), [], []⟩⟩)] [2, 3, 4, 8, 9, 10, 11, 12, 13, 27, 44] [4, 9] (os := [decide ((3 : Int) ≥ st % (5 : Int)) = true → Con Tryd.prog (12 : Nat) [] [u8 inh, i64 (3 : Int)] [] (vb (al inh (3 : Int))) ∧ True]) (s' := St.mk [(2, tp (u8 inh)), (3, tp (u8 mo)), (4, tp (V.ptr 4 0)), (8, tp (vb false)), (9, tp (V.ptr 9 0)), (10, tp (i64 u)), (11, tp (i64 v)), (12, tp (i64 (st % 5))), (13, tp (i64 3)), (27, tp (i64 3)), (44, tp (vb (decide (3 ≥ st % 5) && al inh 3)))] [(4, Blk.mk [u8 l.a0, u8 l.a1, u8 l.a2, u8 l.a3, u8 l.a4] true 5 none), (9, Blk.mk [u8 m.a0, u8 m.a1, u8 m.a2, u8 (l.a3 % 9), u8 m.a4, u8 0, u8 0, u8 0, u8 0, u8 0] true 10 none)]) (by kernel_rfl) ⟨(by intro hc0; first | (cases hc0; done) | (try simp only [Bool.or_false, Bool.false_or, Bool.true_and, Bool.and_true, decide_eq_true_eq, decide_eq_false_iff_not, Bool.and_eq_true, Bool.or_eq_true, Bool.or_eq_false_iff, Bool.not_eq_true', Bool.and_eq_false_iff, beq_iff_eq, bne_iff_ne, bne_eq_false_iff_eq, beq_eq_false_iff_ne, Bool.not_eq_false'] at hc0; exact ⟨(con_rallowed (inh) (3) (by assumption) (by omega)), trivial⟩)), trivial⟩ ?_
      refine AWP.cond (b := decide (3 ≥ st % 5) && al inh 3) (by kernel_rfl) (fun hq14 => ?_) (fun hq14 => ?_)
      · simp only [decide_eq_true_eq, Bool.and_eq_true] at hq14
        (simp_all; done)
      simp only [decide_eq_false_iff_not, Bool.and_eq_false_iff] at hq14
      refine AWP.skip ?_
      refine AWP.region tcok hmix [] (os := []) (sf := St.mk [(2, tp (u8 inh)), (3, tp (u8 mo)), (4, tp (V.ptr 4 0)), (8, tp (vb false)), (9, tp (V.ptr 9 0)), (10, tp (i64 u)), (11, tp (i64 v)), (12, tp (i64 (st % 5))), (13, tp (i64 3)), (27, tp (i64 4)), (44, tp (vb (decide (3 ≥ st % 5) && al inh 3))), (53, tp (i64 4))] [(4, Blk.mk [u8 l.a0, u8 l.a1, u8 l.a2, u8 l.a3, u8 l.a4] true 5 none), (9, Blk.mk [u8 m.a0, u8 m.a1, u8 m.a2, u8 (l.a3 % 9), u8 m.a4, u8 0, u8 0, u8 0, u8 0, u8 0] true 10 none)]) (by kernel_rfl) trivial ?_
      refine ⟨St.mk [(2, tp (u8 inh)), (3, tp (u8 mo)), (4, tp (V.ptr 4 0)), (8, tp (vb false)), (9, tp (V.ptr 9 0)), (10, tp (i64 u)), (11, tp (i64 v)), (12, tp (i64 (st % 5))), (27, tp (i64 4))] [(4, Blk.mk [u8 l.a0, u8 l.a1, u8 l.a2, u8 l.a3, u8 l.a4] true 5 none), (9, Blk.mk [u8 m.a0, u8 m.a1, u8 m.a2, u8 (l.a3 % 9), u8 m.a4, u8 0, u8 0, u8 0, u8 0, u8 0] true 10 none)], by kernel_rfl, ?_⟩
      first | (exfalso; simp_all; done) | (exact ⟨1, (by omega), 4, ⟨m.a0, m.a1, m.a2, l.a3 % 9, m.a4⟩, _, _, rfl, lo_mk (by omega), (by omega), (by simp [sA, hA]; try omega), (by simp [tA, hA]; try omega), (by omega), (by omega)⟩)
    · refine AWP.seq ?_
      refine AWP.regionT tcok hmix [] [2, 3, 4, 8, 9, 10, 11, 12, 27, 28] [4, 9] (os := []) (s' := St.mk [(2, tp (u8 inh)), (3, tp (u8 mo)), (4, tp (V.ptr 4 0)), (8, tp (vb false)), (9, tp (V.ptr 9 0)), (10, tp (i64 u)), (11, tp (i64 v)), (12, tp (i64 (st % 5))), (27, tp (i64 3)), (28, tp (vb true))] [(4, Blk.mk [u8 l.a0, u8 l.a1, u8 l.a2, u8 l.a3, u8 l.a4] true 5 none), (9, Blk.mk [u8 m.a0, u8 m.a1, u8 m.a2, u8 m.a3, u8 m.a4, u8 0, u8 0, u8 0, u8 0, u8 0] true 10 none)]) (by kernel_rfl) trivial ?_
      refine AWP.seq ?_
      refine AWP.cond (b := true) (by kernel_rfl) (fun _ => ?_) (fun h => by cases h)
      refine AWP.skip ?_
      refine AWP.seq ?_
      refine AWP.block ?_
      refine AWP.seq ?_
      refine AWP.regionT tcok hmix [] [2, 3, 4, 8, 9, 10, 11, 12, 13, 27] [4, 9] (os := []) (s' := St.mk [(2, tp (u8 inh)), (3, tp (u8 mo)), (4, tp (V.ptr 4 0)), (8, tp (vb false)), (9, tp (V.ptr 9 0)), (10, tp (i64 u)), (11, tp (i64 v)), (12, tp (i64 (st % 5))), (13, tp (i64 3)), (27, tp (i64 3))] [(4, Blk.mk [u8 l.a0, u8 l.a1, u8 l.a2, u8 l.a3, u8 l.a4] true 5 none), (9, Blk.mk [u8 m.a0, u8 m.a1, u8 m.a2, u8 m.a3, u8 m.a4, u8 0, u8 0, u8 0, u8 0, u8 0] true 10 none)]) (by kernel_rfl) trivial ?_
      refine AWP.seq ?_
      refine AWP.regionT tcok hmix [(4, ⟨some (u8 (l.a3 % 9)), none⟩)] [2, 3, 4, 8, 9, 10, 11, 12, 13, 27] [4, 9] (os := [(9 : Int) ≠ (0 : Int), u8 (Int.tmod l.a3 9) = u8 (l.a3 % 9)]) (s' := St.mk [(2, tp (u8 inh)), (3, tp (u8 mo)), (4, tp (V.ptr 4 0)), (8, tp (vb false)), (9, tp (V.ptr 9 0)), (10, tp (i64 u)), (11, tp (i64 v)), (12, tp (i64 (st % 5))), (13, tp (i64 3)), (27, tp (i64 3))] [(4, Blk.mk [u8 l.a0, u8 l.a1, u8 l.a2, u8 l.a3, u8 l.a4] true 5 none), (9, Blk.mk [u8 m.a0, u8 m.a1, u8 m.a2, u8 (l.a3 % 9), u8 m.a4, u8 0, u8 0, u8 0, u8 0, u8 0] true 10 none)]) (by kernel_rfl) ⟨(by omega), (tm_ (by omega)), trivial⟩ ?_
      refine AWP.seq ?_
      refine AWP.regionT tcok hmix [(6, ⟨none, some ⟨vb (al inh 3), [], []⟩⟩)] [2, 3, 4, 8, 9, 10, 11, 12, 13, 27, 44] [4, 9] (os := [decide ((3 : Int) ≥ st % (5 : Int)) = true → Con Tryd.prog (12 : Nat) [] [u8 inh, i64 (3 : Int)] [] (vb (al inh (3 : Int))) ∧ True]) (s' := St.mk [(2, tp (u8 inh)), (3, tp (u8 mo)), (4, tp (V.ptr 4 0)), (8, tp (vb false)), (9, tp (V.ptr 9 0)), (10, tp (i64 u)), (11, tp (i64 v)), (12, tp (i64 (st % 5))), (13, tp (i64 3)), (27, tp (i64 3)), (44, tp (vb (decide (3 ≥ st % 5) && al inh 3)))] [(4, Blk.mk [u8 l.a0, u8 l.a1, u8 l.a2, u8 l.a3, u8 l.a4] true 5 none), (9, Blk.mk [u8 m.a0, u8 m.a1, u8 m.a2, u8 (l.a3 % 9), u8 m.a4, u8 0, u8 0, u8 0, u8 0, u8 0] true 10 none)]) (by kernel_rfl) ⟨(by intro hc0; first | (cases hc0; done) | (try simp only [Bool.or_false, Bool.false_or, Bool.true_and, Bool.and_true, decide_eq_true_eq, decide_eq_false_iff_not, Bool.and_eq_true, Bool.or_eq_true, Bool.or_eq_false_iff, Bool.not_eq_true', Bool.and_eq_false_iff, beq_iff_eq, bne_iff_ne, bne_eq_false_iff_eq, beq_eq_false_iff_ne, Bool.not_eq_false'] at hc0; exact ⟨(con_rallowed (inh) (3) (by assumption) (by omega)), trivial⟩)), trivial⟩ ?_
      refine AWP.cond (b := decide (3 ≥ st % 5) && al inh 3) (by kernel_rfl) (fun hq16 => ?_) (fun hq16 => ?_)
      · simp only [decide_eq_true_eq, Bool.and_eq_true] at hq16
        refine AWP.seq ?_
        refine AWP.regionT tcok hmix [(5, ⟨some (i64 (l.a3 % 9)), none⟩), (6, ⟨some (i64 (u + l.a3 % 9)), none⟩)] [2, 3, 4, 8, 9, 10, 11, 12, 13, 27] [4, 9] (os := [i64 (IntKind.wrap IntKind.i64 (l.a3 % 9)) = i64 (l.a3 % 9), i64 (IntKind.wrap IntKind.i64 (u + l.a3 % 9)) = i64 (u + l.a3 % 9)]) (s' := St.mk [(2, tp (u8 inh)), (3, tp (u8 mo)), (4, tp (V.ptr 4 0)), (8, tp (vb false)), (9, tp (V.ptr 9 0)), (10, tp (i64 (u + l.a3 % 9))), (11, tp (i64 v)), (12, tp (i64 (st % 5))), (13, tp (i64 3)), (27, tp (i64 3))] [(4, Blk.mk [u8 l.a0, u8 l.a1, u8 l.a2, u8 l.a3, u8 l.a4] true 5 none), (9, Blk.mk [u8 m.a0, u8 m.a1, u8 m.a2, u8 (l.a3 % 9), u8 m.a4, u8 0, u8 0, u8 0, u8 0, u8 0] true 10 none)]) (by kernel_rfl) ⟨(wr_i64 (by omega) (by omega)), (wr_i64 (by omega) (by omega)), trivial⟩ ?_
        refine AWP.region tcok hmix [] (os := []) (sf := St.mk [(2, tp (u8 inh)), (3, tp (u8 mo)), (4, tp (V.ptr 4 0)), (8, tp (vb false)), (9, tp (V.ptr 9 0)), (10, tp (i64 (u + l.a3 % 9))), (11, tp (i64 3)), (12, tp (i64 (st % 5))), (13, tp (i64 3)), (27, tp (i64 3)), (52, tp (i64 3))] [(4, Blk.mk [u8 l.a0, u8 l.a1, u8 l.a2, u8 l.a3, u8 l.a4] true 5 none), (9, Blk.mk [u8 m.a0, u8 m.a1, u8 m.a2, u8 (l.a3 % 9), u8 m.a4, u8 0, u8 0, u8 0, u8 0, u8 0] true 10 none)]) (by kernel_rfl) trivial ?_
        refine AWP.keep' [2, 3, 4, 8, 9, 10, 11, 12, 27] [4, 9] (sf := St.mk [(2, tp (u8 inh)), (3, tp (u8 mo)), (4, tp (V.ptr 4 0)), (8, tp (vb false)), (9, tp (V.ptr 9 0)), (10, tp (i64 (u + l.a3 % 9))), (11, tp (i64 3)), (12, tp (i64 (st % 5))), (27, tp (i64 3))] [(4, Blk.mk [u8 l.a0, u8 l.a1, u8 l.a2, u8 l.a3, u8 l.a4] true 5 none), (9, Blk.mk [u8 m.a0, u8 m.a1, u8 m.a2, u8 (l.a3 % 9), u8 m.a4, u8 0, u8 0, u8 0, u8 0, u8 0] true 10 none)]) (by kernel_rfl) ?_
        refine AWP.region tcok hmix [] (os := []) (sf := St.mk [(2, tp (u8 inh)), (3, tp (u8 mo)), (4, tp (V.ptr 4 0)), (8, tp (vb false)), (9, tp (V.ptr 9 0)), (10, tp (i64 (u + l.a3 % 9))), (11, tp (i64 3)), (12, tp (i64 (st % 5))), (27, tp (i64 4)), (53, tp (i64 4))] [(4, Blk.mk [u8 l.a0, u8 l.a1, u8 l.a2, u8 l.a3, u8 l.a4] true 5 none), (9, Blk.mk [u8 m.a0, u8 m.a1, u8 m.a2, u8 (l.a3 % 9), u8 m.a4, u8 0, u8 0, u8 0, u8 0, u8 0] true 10 none)]) (by kernel_rfl) trivial ?_
        refine ⟨St.mk [(2, tp (u8 inh)), (3, tp (u8 mo)), (4, tp (V.ptr 4 0)), (8, tp (vb false)), (9, tp (V.ptr 9 0)), (10, tp (i64 (u + l.a3 % 9))), (11, tp (i64 3)), (12, tp (i64 (st % 5))), (27, tp (i64 4))] [(4, Blk.mk [u8 l.a0, u8 l.a1, u8 l.a2, u8 l.a3, u8 l.a4] true 5 none), (9, Blk.mk [u8 m.a0, u8 m.a1, u8 m.a2, u8 (l.a3 % 9), u8 m.a4, u8 0, u8 0, u8 0, u8 0, u8 0] true 10 none)], by kernel_rfl, ?_⟩
        first | (exfalso; simp_all; done) | (exact ⟨1, (by omega), 4, ⟨m.a0, m.a1, m.a2, l.a3 % 9, m.a4⟩, _, _, rfl, lo_mk (by omega), (by omega), (by simp [sA, hA]; try omega), (by simp [tA, hA]), (by omega), (by omega)⟩)
      simp only [decide_eq_false_iff_not, Bool.and_eq_false_iff] at hq16
      (simp_all; done)
  · cases hA : lvA (st % 5) inh 4
    all_goals
      have hA' := hA
      simp only [lvA] at hA'
      simp [sA, hA] at hu
      simp [tA, hA] at hv
    · refine AWP.seq ?_
      refine AWP.regionT tcok hmix [] [2, 3, 4, 8, 9, 10, 11, 12, 27, 28] [4, 9] (os := []) (s' := St.mk [(2, tp (u8 inh)), (3, tp (u8 mo)), (4, tp (V.ptr 4 0)), (8, tp (vb false)), (9, tp (V.ptr 9 0)), (10, tp (i64 u)), (11, tp (i64 v)), (12, tp (i64 (st % 5))), (27, tp (i64 4)), (28, tp (vb true))] [(4, Blk.mk [u8 l.a0, u8 l.a1, u8 l.a2, u8 l.a3, u8 l.a4] true 5 none), (9, Blk.mk [u8 m.a0, u8 m.a1, u8 m.a2, u8 m.a3, u8 m.a4, u8 0, u8 0, u8 0, u8 0, u8 0] true 10 none)]) (by kernel_rfl) trivial ?_
      refine AWP.seq ?_
      refine AWP.cond (b := true) (by kernel_rfl) (fun _ => ?_) (fun h => by cases h)
      refine AWP.skip ?_
      refine AWP.seq ?_
      refine AWP.block ?_
      refine AWP.seq ?_
      refine AWP.regionT tcok hmix [] [2, 3, 4, 8, 9, 10, 11, 12, 13, 27] [4, 9] (os := []) (s' := St.mk [(2, tp (u8 inh)), (3, tp (u8 mo)), (4, tp (V.ptr 4 0)), (8, tp (vb false)), (9, tp (V.ptr 9 0)), (10, tp (i64 u)), (11, tp (i64 v)), (12, tp (i64 (st % 5))), (13, tp (i64 4)), (27, tp (i64 4))] [(4, Blk.mk [u8 l.a0, u8 l.a1, u8 l.a2, u8 l.a3, u8 l.a4] true 5 none), (9, Blk.mk [u8 m.a0, u8 m.a1, u8 m.a2, u8 m.a3, u8 m.a4, u8 0, u8 0, u8 0, u8 0, u8 0] true 10 none)]) (by kernel_rfl) trivial ?_
      refine AWP.seq ?_
      refine AWP.regionT tcok hmix [(4, ⟨some (u8 (l.a4 % 9)), none⟩)] [2, 3, 4, 8, 9, 10, 11, 12, 13, 27] [4, 9] (os := [(9 : Int) ≠ (0 : Int), u8 (Int.tmod l.a4 9) = u8 (l.a4 % 9)]) (s' := St.mk [(2, tp (u8 inh)), (3, tp (u8 mo)), (4, tp (V.ptr 4 0)), (8, tp (vb false)), (9, tp (V.ptr 9 0)), (10, tp (i64 u)), (11, tp (i64 v)), (12, tp (i64 (st % 5))), (13, tp (i64 4)), (27, tp (i64 4))] [(4, Blk.mk [u8 l.a0, u8 l.a1, u8 l.a2, u8 l.a3, u8 l.a4] true 5 none), (9, Blk.mk [u8 m.a0, u8 m.a1, u8 m.a2, u8 m.a3, u8 (l.a4 % 9), u8 0, u8 0, u8 0, u8 0, u8 0] true 10 none)]) (by kernel_rfl) ⟨(by omega), (tm_ (by omega)), trivial⟩ ?_
      refine AWP.seq ?_
      refine AWP.regionT tcok hmix [(6, ⟨none, some ⟨vb (al inh 4), [], []⟩⟩)] [2, 3, 4, 8, 9, 10, 11, 12, 13, 27, 44] [4, 9] (os := [decide ((4 : Int) ≥ st % (5 : Int)) = true → Con Tryd.prog (12 : Nat) [] [u8 inh, i64 (4 : Int)] [] (vb (al inh (4 : Int))) ∧ True]) (s' := St.mk [(2, tp (u8 inh)), (3, tp (u8 mo)), (4, tp (V.ptr 4 0)), (8, tp (vb false)), (9, tp (V.ptr 9 0)), (10, tp (i64 u)), (11, tp (i64 v)), (12, tp (i64 (st % 5))), (13, tp (i64 4)), (27, tp (i64 4)), (44, tp (vb (decide (4 ≥ st % 5) && al inh 4)))] [(4, Blk.mk [u8 l.a0, u8 l.a1, u8 l.a2, u8 l.a3, u8 l.a4] true 5 none), (9, Blk.mk [u8 m.a0, u8 m.a1, u8 m.a2, u8 m.a3, u8 (l.a4 % 9), u8 0, u8 0, u8 0, u8 0, u8 0] true 10 none)]) (by kernel_rfl) ⟨(by intro hc0; first | (cases hc0; done) | (try simp only [Bool.or_false, Bool.false_or, Bool.true_and, Bool.and_true, decide_eq_true_eq, decide_eq_false_iff_not, Bool.and_eq_true, Bool.or_eq_true, Bool.or_eq_false_iff, Bool.not_eq_true', Bool.and_eq_false_iff, beq_iff_eq, bne_iff_ne, bne_eq_false_iff_eq, beq_eq_false_iff_ne, Bool.not_eq_false'] at hc0; exact ⟨(con_rallowed (inh) (4) (by assumption) (by omega)), trivial⟩)), trivial⟩ ?_
      refine AWP.cond (b := decide (4 ≥ st % 5) && al inh 4) (by kernel_rfl) (fun hq18 => ?_) (fun hq18 => ?_)
      · simp only [decide_eq_true_eq, Bool.and_eq_true] at hq18
        (simp_all; done)
      simp only [decide_eq_false_iff_not, Bool.and_eq_false_iff] at hq18
      refine AWP.skip ?_
      refine AWP.region tcok hmix [] (os := []) (sf := St.mk [(2, tp (u8 inh)), (3, tp (u8 mo)), (4, tp (V.ptr 4 0)), (8, tp (vb false)), (9, tp (V.ptr 9 0)), (10, tp (i64 u)), (11, tp (i64 v)), (12, tp (i64 (st % 5))), (13, tp (i64 4)), (27, tp (i64 5)), (44, tp (vb (decide (4 ≥ st % 5) && al inh 4))), (53, tp (i64 5))] [(4, Blk.mk [u8 l.a0, u8 l.a1, u8 l.a2, u8 l.a3, u8 l.a4] true 5 none), (9, Blk.mk [u8 m.a0, u8 m.a1, u8 m.a2, u8 m.a3, u8 (l.a4 % 9), u8 0, u8 0, u8 0, u8 0, u8 0] true 10 none)]) (by kernel_rfl) trivial ?_
      refine ⟨St.mk [(2, tp (u8 inh)), (3, tp (u8 mo)), (4, tp (V.ptr 4 0)), (8, tp (vb false)), (9, tp (V.ptr 9 0)), (10, tp (i64 u)), (11, tp (i64 v)), (12, tp (i64 (st % 5))), (27, tp (i64 5))] [(4, Blk.mk [u8 l.a0, u8 l.a1, u8 l.a2, u8 l.a3, u8 l.a4] true 5 none), (9, Blk.mk [u8 m.a0, u8 m.a1, u8 m.a2, u8 m.a3, u8 (l.a4 % 9), u8 0, u8 0, u8 0, u8 0, u8 0] true 10 none)], by kernel_rfl, ?_⟩
      first | (exfalso; simp_all; done) | (exact ⟨0, (by omega), 5, ⟨m.a0, m.a1, m.a2, m.a3, l.a4 % 9⟩, _, _, rfl, lo_mk (by omega), (by omega), (by simp [sA, hA]; try omega), (by simp [tA, hA]; try omega), (by omega), (by omega)⟩)
    · refine AWP.seq ?_
      refine AWP.regionT tcok hmix [] [2, 3, 4, 8, 9, 10, 11, 12, 27, 28] [4, 9] (os := []) (s' := St.mk [(2, tp (u8 inh)), (3, tp (u8 mo)), (4, tp (V.ptr 4 0)), (8, tp (vb false)), (9, tp (V.ptr 9 0)), (10, tp (i64 u)), (11, tp (i64 v)), (12, tp (i64 (st % 5))), (27, tp (i64 4)), (28, tp (vb true))] [(4, Blk.mk [u8 l.a0, u8 l.a1, u8 l.a2, u8 l.a3, u8 l.a4] true 5 none), (9, Blk.mk [u8 m.a0, u8 m.a1, u8 m.a2, u8 m.a3, u8 m.a4, u8 0, u8 0, u8 0, u8 0, u8 0] true 10 none)]) (by kernel_rfl) trivial ?_
      refine AWP.seq ?_
      refine AWP.cond (b := true) (by kernel_rfl) (fun _ => ?_) (fun h => by cases h)
      refine AWP.skip ?_
      refine AWP.seq ?_
      refine AWP.block ?_
      refine AWP.seq ?_
      refine AWP.regionT tcok hmix [] [2, 3, 4, 8, 9, 10, 11, 12, 13, 27] [4, 9] (os := []) (s' := St.mk [(2, tp (u8 inh)), (3, tp (u8 mo)), (4, tp (V.ptr 4 0)), (8, tp (vb false)), (9, tp (V.ptr 9 0)), (10, tp (i64 u)), (11, tp (i64 v)), (12, tp (i64 (st % 5))), (13, tp (i64 4)), (27, tp (i64 4))] [(4, Blk.mk [u8 l.a0, u8 l.a1, u8 l.a2, u8 l.a3, u8 l.a4] true 5 none), (9, Blk.mk [u8 m.a0, u8 m.a1, u8 m.a2, u8 m.a3, u8 m.a4, u8 0, u8 0, u8 0, u8 0, u8 0] true 10 none)]) (by kernel_rfl) trivial ?_
      refine AWP.seq ?_
      refine AWP.regionT tcok hmix [(4, ⟨some (u8 (l.a4 % 9)), none⟩)] [2, 3, 4, 8, 9, 10, 11, 12, 13, 27] [4, 9] (os := [(9 : Int) ≠ (0 : Int), u8 (Int.tmod l.a4 9) = u8 (l.a4 % 9)]) (s' := St.mk [(2, tp (u8 inh)), (3, tp (u8 mo)), (4, tp (V.ptr 4 0)), (8, tp (vb false)), (9, tp (V.ptr 9 0)), (10, tp (i64 u)), (11, tp (i64 v)), (12, tp (i64 (st % 5))), (13, tp (i64 4)), (27, tp (i64 4))] [(4, Blk.mk [u8 l.a0, u8 l.a1, u8 l.a2, u8 l.a3, u8 l.a4] true 5 none), (9, Blk.mk [u8 m.a0, u8 m.a1, u8 m.a2, u8 m.a3, u8 (l.a4 % 9), u8 0, u8 0, u8 0, u8 0, u8 0] true 10 none)]) (by kernel_rfl) ⟨(by omega), (tm_ (by omega)), trivial⟩ ?_
      refine AWP.seq ?_
      refine AWP.regionT tcok hmix [(6, ⟨none, some ⟨vb (al inh 4), [], []⟩⟩)] [2, 3, 4, 8, 9, 10, 11, 12, 13, 27, 44] [4, 9] (os := [decide ((4 : Int) ≥ st % (5 : Int)) = true → Con Tryd.prog (12 : Nat) [] [u8 inh, i64 (4 : Int)] [] (vb (al inh (4 : Int))) ∧ True]) (s' := St.mk [(2, tp (u8 inh)), (3, tp (u8 mo)), (4, tp (V.ptr 4 0)), (8, tp (vb false)), (9, tp (V.ptr 9 0)), (10, tp (i64 u)), (11, tp (i64 v)), (12, tp (i64 (st % 5))), (13, tp (i64 4)), (27, tp (i64 4)), (44, tp (vb (decide (4 ≥ st % 5) && al inh 4)))] [(4, Blk.mk [u8 l.a0, u8 l.a1, u8 l.a2, u8 l.a3, u8 l.a4] true 5 none), (9, Blk.mk [u8 m.a0, u8 m.a1, u8 m.a2, u8 m.a3, u8 (l.a4 % 9), u8 0, u8 0, u8 0, u8 0, u8 0] true 10 none)]) (by kernel_rfl) ⟨(by intro hc0; first | (cases hc0; done) | (try simp only [Bool.or_false, Bool.false_or, Bool.true_and, Bool.and_true, decide_eq_true_eq, decide_eq_false_iff_not, Bool.and_eq_true, Bool.or_eq_true, Bool.or_eq_false_iff, Bool.not_eq_true', Bool.and_eq_false_iff, beq_iff_eq, bne_iff_ne, bne_eq_false_iff_eq, beq_eq_false_iff_ne, Bool.not_eq_false'] at hc0; exact ⟨(con_rallowed (inh) (4) (by assumption) (by omega)), trivial⟩)), trivial⟩ ?_
      refine AWP.cond (b := decide (4 ≥ st % 5) && al inh 4) (by kernel_rfl) (fun hq20 => ?_) (fun hq20 => ?_)
      · simp only [decide_eq_true_eq, Bool.and_eq_true] at hq20
        refine AWP.seq ?_
        refine AWP.regionT tcok hmix [(5, ⟨some (i64 (l.a4 % 9)), none⟩), (6, ⟨some (i64 (u + l.a4 % 9)), none⟩)] [2, 3, 4, 8, 9, 10, 11, 12, 13, 27] [4, 9] (os := [i64 (IntKind.wrap IntKind.i64 (l.a4 % 9)) = i64 (l.a4 % 9), i64 (IntKind.wrap IntKind.i64 (u + l.a4 % 9)) = i64 (u + l.a4 % 9)]) (s' := St.mk [(2, tp (u8 inh)), (3, tp (u8 mo)), (4, tp (V.ptr 4 0)), (8, tp (vb false)), (9, tp (V.ptr 9 0)), (10, tp (i64 (u + l.a4 % 9))), (11, tp (i64 v)), (12, tp (i64 (st % 5))), (13, tp (i64 4)), (27, tp (i64 4))] [(4, Blk.mk [u8 l.a0, u8 l.a1, u8 l.a2, u8 l.a3, u8 l.a4] true 5 none), (9, Blk.mk [u8 m.a0, u8 m.a1, u8 m.a2, u8 m.a3, u8 (l.a4 % 9), u8 0, u8 0, u8 0, u8 0, u8 0] true 10 none)]) (by kernel_rfl) ⟨(wr_i64 (by omega) (by omega)), (wr_i64 (by omega) (by omega)), trivial⟩ ?_
        refine AWP.region tcok hmix [] (os := []) (sf := St.mk [(2, tp (u8 inh)), (3, tp (u8 mo)), (4, tp (V.ptr 4 0)), (8, tp (vb false)), (9, tp (V.ptr 9 0)), (10, tp (i64 (u + l.a4 % 9))), (11, tp (i64 4)), (12, tp (i64 (st % 5))), (13, tp (i64 4)), (27, tp (i64 4)), (52, tp (i64 4))] [(4, Blk.mk [u8 l.a0, u8 l.a1, u8 l.a2, u8 l.a3, u8 l.a4] true 5 none), (9, Blk.mk [u8 m.a0, u8 m.a1, u8 m.a2, u8 m.a3, u8 (l.a4 % 9), u8 0, u8 0, u8 0, u8 0, u8 0] true 10 none)]) (by kernel_rfl) trivial ?_
        refine AWP.keep' [2, 3, 4, 8, 9, 10, 11, 12, 27] [4, 9] (sf := St.mk [(2, tp (u8 inh)), (3, tp (u8 mo)), (4, tp (V.ptr 4 0)), (8, tp (vb false)), (9, tp (V.ptr 9 0)), (10, tp (i64 (u + l.a4 % 9))), (11, tp (i64 4)), (12, tp (i64 (st % 5))), (27, tp (i64 4))] [(4, Blk.mk [u8 l.a0, u8 l.a1, u8 l.a2, u8 l.a3, u8 l.a4] true 5 none), (9, Blk.mk [u8 m.a0, u8 m.a1, u8 m.a2, u8 m.a3, u8 (l.a4 % 9), u8 0, u8 0, u8 0, u8 0, u8 0] true 10 none)]) (by kernel_rfl) ?_
        refine AWP.region tcok hmix [] (os := []) (sf := St.mk [(2, tp (u8 inh)), (3, tp (u8 mo)), (4, tp (V.ptr 4 0)), (8, tp (vb false)), (9, tp (V.ptr 9 0)), (10, tp (i64 (u + l.a4 % 9))), (11, tp (i64 4)), (12, tp (i64 (st % 5))), (27, tp (i64 5)), (53, tp (i64 5))] [(4, Blk.mk [u8 l.a0, u8 l.a1, u8 l.a2, u8 l.a3, u8 l.a4] true 5 none), (9, Blk.mk [u8 m.a0, u8 m.a1, u8 m.a2, u8 m.a3, u8 (l.a4 % 9), u8 0, u8 0, u8 0, u8 0, u8 0] true 10 none)]) (by kernel_rfl) trivial ?_
        refine ⟨St.mk [(2, tp (u8 inh)), (3, tp (u8 mo)), (4, tp (V.ptr 4 0)), (8, tp (vb false)), (9, tp (V.ptr 9 0)), (10, tp (i64 (u + l.a4 % 9))), (11, tp (i64 4)), (12, tp (i64 (st % 5))), (27, tp (i64 5))] [(4, Blk.mk [u8 l.a0, u8 l.a1, u8 l.a2, u8 l.a3, u8 l.a4] true 5 none), (9, Blk.mk [u8 m.a0, u8 m.a1, u8 m.a2, u8 m.a3, u8 (l.a4 % 9), u8 0, u8 0, u8 0, u8 0, u8 0] true 10 none)], by kernel_rfl, ?_⟩
        first | (exfalso; simp_all; done) | (exact ⟨0, (by omega), 5, ⟨m.a0, m.a1, m.a2, m.a3, l.a4 % 9⟩, _, _, rfl, lo_mk (by omega), (by omega), (by simp [sA, hA]; try omega), (by simp [tA, hA]), (by omega), (by omega)⟩)
      simp only [decide_eq_false_iff_not, Bool.and_eq_false_iff] at hq20
      (simp_all; done)
  · refine AWP.seq ?_
    refine AWP.regionT tcok hmix [] [2, 3, 4, 8, 9, 10, 11, 12, 27, 28] [4, 9] (os := []) (s' := St.mk [(2, tp (u8 inh)), (3, tp (u8 mo)), (4, tp (V.ptr 4 0)), (8, tp (vb false)), (9, tp (V.ptr 9 0)), (10, tp (i64 u)), (11, tp (i64 v)), (12, tp (i64 (st % 5))), (27, tp (i64 5)), (28, tp (vb false))] [(4, Blk.mk [u8 l.a0, u8 l.a1, u8 l.a2, u8 l.a3, u8 l.a4] true 5 none), (9, Blk.mk [u8 m.a0, u8 m.a1, u8 m.a2, u8 m.a3, u8 m.a4, u8 0, u8 0, u8 0, u8 0, u8 0] true 10 none)]) (by kernel_rfl) trivial ?_
    refine AWP.seq ?_
    refine AWP.cond (b := false) (by kernel_rfl) (fun h => by cases h) (fun _ => ?_)
    refine AWP.exit ?_
    refine AWP.seq ?_
    refine AWP.regionT tcok hmix [] [2, 3, 8, 9, 10, 11, 12, 14] [9] (os := []) (s' := St.mk [(2, tp (u8 inh)), (3, tp (u8 mo)), (8, tp (vb false)), (9, tp (V.ptr 9 0)), (10, tp (i64 u)), (11, tp (i64 v)), (12, tp (i64 (st % 5))), (14, tp (i64 (st % 5)))] [(9, Blk.mk [u8 m.a0, u8 m.a1, u8 m.a2, u8 m.a3, u8 m.a4, u8 0, u8 0, u8 0, u8 0, u8 0] true 10 none)]) (by kernel_rfl) trivial ?_
    refine AWP.seq ?_
    refine AWP.regionT tcok hmix [] [2, 3, 8, 9, 10, 11, 12, 14, 15] [9, 15] (os := []) (s' := St.mk [(2, tp (u8 inh)), (3, tp (u8 mo)), (8, tp (vb false)), (9, tp (V.ptr 9 0)), (10, tp (i64 u)), (11, tp (i64 v)), (12, tp (i64 (st % 5))), (14, tp (i64 (st % 5))), (15, tp (V.ptr 15 0))] [(9, Blk.mk [u8 m.a0, u8 m.a1, u8 m.a2, u8 m.a3, u8 m.a4, u8 0, u8 0, u8 0, u8 0, u8 0] true 10 none), (15, Blk.mk [i64 0, i64 0, i64 0, i64 0, i64 0] true 5 none)]) (by kernel_rfl) trivial ?_
    refine AWP.seq ?_
    refine AWP.seq ?_
    refine AWP.regionT tcok hmix [] [2, 3, 8, 9, 10, 11, 12, 14, 15, 16] [9, 15] (os := []) (s' := St.mk [(2, tp (u8 inh)), (3, tp (u8 mo)), (8, tp (vb false)), (9, tp (V.ptr 9 0)), (10, tp (i64 u)), (11, tp (i64 v)), (12, tp (i64 (st % 5))), (14, tp (i64 (st % 5))), (15, tp (V.ptr 15 0)), (16, tp (i64 0))] [(9, Blk.mk [u8 m.a0, u8 m.a1, u8 m.a2, u8 m.a3, u8 m.a4, u8 0, u8 0, u8 0, u8 0, u8 0] true 10 none), (15, Blk.mk [i64 0, i64 0, i64 0, i64 0, i64 0] true 5 none)]) (by kernel_rfl) trivial ?_
    refine AWP.block ?_
    have hf0 : 0 ≤ st % 5 ∧ st % 5 < 5 := by omega
    have hci := ci_start (inh := inh) hf0 hm'
    have hvv := tA_vA (st % 5) inh
    have huu := sA_uA (st % 5) inh m
    have hll := fun c => lev_lv5 (st % 5) inh m c hf0
    rw [hvv] at hv
    rw [huu] at hu
    have ht0 := tj_nn (lvA (st % 5) inh 0) m1
    have ht1 := tj_nn (lvA (st % 5) inh 1) m3
    have ht2 := tj_nn (lvA (st % 5) inh 2) m5
    have ht3 := tj_nn (lvA (st % 5) inh 3) m7
    have ht4 := tj_nn (lvA (st % 5) inh 4) m9
    have hal : ∀ j, lvA (st % 5) inh j = true → al inh j = true := fun j h => lvA_al h
    have ha0 := hal 0
    have ha1 := hal 1
    have ha2 := hal 2
    have ha3 := hal 3
    have ha4 := hal 4
    clear hal hvv huu hN
    generalize st % 5 = fi at *
    generalize hA0 : lvA fi inh 0 = A0 at *
    generalize hA1 : lvA fi inh 1 = A1 at *
    generalize hA2 : lvA fi inh 2 = A2 at *
    generalize hA3 : lvA fi inh 3 = A3 at *
    generalize hA4 : lvA fi inh 4 = A4 at *
    clear hA0 hA1 hA2 hA3 hA4
    subst hv
    generalize hv : vA A0 A1 A2 A3 A4 = v at *
    refine AWP.loopI [2, 3, 8, 9, 10, 11, 12, 14, 15, 16] [9, 15] (fun N s' => ∃ (c : F5) (last i : Int), s' = St.mk [(2, T.plain (u8 inh)), (3, T.plain (u8 mo)), (8, T.plain (vb false)), (9, T.plain (V.ptr 9 0)), (10, T.plain (i64 u)), (11, T.plain (i64 v)), (12, T.plain (i64 fi)), (14, T.plain (i64 last)), (15, T.plain (V.ptr 15 0)), (16, T.plain (i64 i))] [(9, Blk.mk [u8 m.a0, u8 m.a1, u8 m.a2, u8 m.a3, u8 m.a4, u8 c.a0, u8 c.a1, u8 c.a2, u8 c.a3, u8 c.a4] true 10 none), (15, Blk.mk [i64 c.a0, i64 c.a1, i64 c.a2, i64 c.a3, i64 c.a4] true 5 none)] ∧ CI (tA5 A0 A1 A2 A3 A4 m) c v last i ∧ (0 ≤ i ∧ i ≤ u + mo % 8) ∧ (N : Int) = u + mo % 8 - i) (u + mo % 8).toNat (s0 := St.mk [(2, T.plain (u8 inh)), (3, T.plain (u8 mo)), (8, T.plain (vb false)), (9, T.plain (V.ptr 9 0)), (10, T.plain (i64 u)), (11, T.plain (i64 v)), (12, T.plain (i64 fi)), (14, T.plain (i64 fi)), (15, T.plain (V.ptr 15 0)), (16, T.plain (i64 0))] [(9, Blk.mk [u8 m.a0, u8 m.a1, u8 m.a2, u8 m.a3, u8 m.a4, u8 0, u8 0, u8 0, u8 0, u8 0] true 10 none), (15, Blk.mk [i64 0, i64 0, i64 0, i64 0, i64 0] true 5 none)]) (by kernel_rfl) ?_ ?_
    · exact ⟨⟨0, 0, 0, 0, 0⟩, fi, 0, rfl, hci, by omega, by omega⟩
    rintro N s' ⟨c, last, i, rfl, hC, hi2, hN⟩
    by_cases hlt : i < u + mo % 8
    case neg =>
      refine AWP.seq ?_
      refine AWP.seq ?_
      refine AWP.regionT tcok hmix [(3, ⟨some (u8 (mo % 8)), none⟩), (4, ⟨some (i64 (mo % 8)), none⟩), (5, ⟨some (i64 (u + mo % 8)), none⟩)] [2, 3, 8, 9, 10, 11, 12, 14, 15, 16, 61] [9, 15] (os := [(8 : Int) ≠ (0 : Int), u8 (Int.tmod mo 8) = u8 (mo % 8), i64 (IntKind.wrap IntKind.i64 (mo % 8)) = i64 (mo % 8), i64 (IntKind.wrap IntKind.i64 (u + mo % 8)) = i64 (u + mo % 8)]) (s' := St.mk [(2, tp (u8 inh)), (3, tp (u8 mo)), (8, tp (vb false)), (9, tp (V.ptr 9 0)), (10, tp (i64 u)), (11, tp (i64 v)), (12, tp (i64 fi)), (14, tp (i64 last)), (15, tp (V.ptr 15 0)), (16, tp (i64 i)), (61, tp (vb (decide (i < u + mo % 8))))] [(9, Blk.mk [u8 m.a0, u8 m.a1, u8 m.a2, u8 m.a3, u8 m.a4, u8 c.a0, u8 c.a1, u8 c.a2, u8 c.a3, u8 c.a4] true 10 none), (15, Blk.mk [i64 c.a0, i64 c.a1, i64 c.a2, i64 c.a3, i64 c.a4] true 5 none)]) (by kernel_rfl) ⟨(by omega), (tm_ (by omega)), (wr_i64 (by omega) (by omega)), (wr_i64 (by omega) (by omega)), trivial⟩ ?_
      refine AWP.cond (b := decide (i < u + mo % 8)) (by kernel_rfl) (fun hq22 => ?_) (fun hq22 => ?_)
      · simp only [decide_eq_true_eq] at hq22
        (exfalso; omega)
      simp only [decide_eq_false_iff_not] at hq22
      refine AWP.exit ?_
      refine AWP.seq ?_
      refine AWP.regionT tcok hmix [] [8] [] (os := []) (s' := St.mk [(8, tp (vb true))] []) (by kernel_rfl) trivial ?_
      refine AWP.ret ?_
      refine ⟨Or.inr rfl, Eq.trans (b := some ([], vb true)) (by kernel_rfl) ?_⟩
      first | rfl | (exfalso; omega)
    have hcb : (0 ≤ c.a0 ∧ 0 ≤ c.a1 ∧ 0 ≤ c.a2 ∧ 0 ≤ c.a3 ∧ 0 ≤ c.a4) ∧ c.a0 + c.a1 + c.a2 + c.a3 + c.a4 = i := ⟨hC.1, hC.2.2.2.2.1⟩
    have hck : c.ok := ⟨by omega, by omega, by omega, by omega, by omega, by omega, by omega, by omega, by omega, by omega⟩
    have hr : aright fi 3 = true := by simp [aright]; omega
    rcases lv5_bd A0 A1 A2 A3 A4 m c with hM | hM | hM | hM | hM | hM
    · have hv1 := lv5_none hM
      have hv2 : v = -1 := hv.symm.trans hv1
      subst hv2
      have hi0 := ci_none hC hv1
      have c1 : Con Tryd.prog 13 [] [ladV m c, .agg true [u8 fi, i64 3, u8 0], u8 inh] [] (.tup [ladV m c, .agg true [u8 0, i64 0, u8 0], vb false]) := con_raise inh m c fi 3 0 (-1) hi hck hf0 hr ((hll c).trans hM)
      refine AWP.seq ?_
      refine AWP.seq ?_
      refine AWP.regionT tcok hmix [(0, ⟨some (i64 0), none⟩), (3, ⟨some (u8 (mo % 8)), none⟩), (4, ⟨some (i64 (mo % 8)), none⟩), (5, ⟨some (i64 (u + mo % 8)), none⟩)] [2, 3, 8, 9, 10, 11, 12, 14, 15, 16, 61] [9, 15] (os := [i64 i = i64 0, (8 : Int) ≠ (0 : Int), u8 (Int.tmod mo 8) = u8 (mo % 8), i64 (IntKind.wrap IntKind.i64 (mo % 8)) = i64 (mo % 8), i64 (IntKind.wrap IntKind.i64 (u + mo % 8)) = i64 (u + mo % 8)]) (s' := St.mk [(2, tp (u8 inh)), (3, tp (u8 mo)), (8, tp (vb false)), (9, tp (V.ptr 9 0)), (10, tp (i64 u)), (11, tp (i64 (-1))), (12, tp (i64 fi)), (14, tp (i64 last)), (15, tp (V.ptr 15 0)), (16, tp (i64 i)), (61, tp (vb (decide (0 < u + mo % 8))))] [(9, Blk.mk [u8 m.a0, u8 m.a1, u8 m.a2, u8 m.a3, u8 m.a4, u8 c.a0, u8 c.a1, u8 c.a2, u8 c.a3, u8 c.a4] true 10 none), (15, Blk.mk [i64 c.a0, i64 c.a1, i64 c.a2, i64 c.a3, i64 c.a4] true 5 none)]) (by kernel_rfl) ⟨(in_eq hi0), (by omega), (tm_ (by omega)), (wr_i64 (by omega) (by omega)), (wr_i64 (by omega) (by omega)), trivial⟩ ?_
      refine AWP.cond (b := decide (0 < u + mo % 8)) (by kernel_rfl) (fun hq23 => ?_) (fun hq23 => ?_)
      · simp only [decide_eq_true_eq] at hq23
        refine AWP.skip ?_
        refine AWP.seq ?_
        refine AWP.block ?_
        refine AWP.seq ?_
        refine AWP.regionT tcok hmix [(2, ⟨some (u8 fi), none⟩), (5, ⟨none, some ⟨V.tup [ladV m c, V.agg true [u8 0, i64 0, u8 0], vb false], [], []⟩⟩)] [2, 3, 8, 9, 10, 11, 12, 14, 15, 16, 17, 18, 19] [9, 15, 17, 18] (os := [u8 (IntKind.wrap IntKind.u8 fi) = u8 fi, Con Tryd.prog 13 [] [V.agg true [u8 m.a0, u8 m.a1, u8 m.a2, u8 m.a3, u8 m.a4, u8 c.a0, u8 c.a1, u8 c.a2, u8 c.a3, u8 c.a4], V.agg true [u8 fi, i64 3, u8 0], u8 inh] [] (V.tup [V.agg true [u8 m.a0, u8 m.a1, u8 m.a2, u8 m.a3, u8 m.a4, u8 c.a0, u8 c.a1, u8 c.a2, u8 c.a3, u8 c.a4], V.agg true [u8 0, i64 0, u8 0], vb false])]) (s' := St.mk [(2, tp (u8 inh)), (3, tp (u8 mo)), (8, tp (vb false)), (9, tp (V.ptr 9 0)), (10, tp (i64 u)), (11, tp (i64 (-1))), (12, tp (i64 fi)), (14, tp (i64 last)), (15, tp (V.ptr 15 0)), (16, tp (i64 i)), (17, tp (V.ptr 17 0)), (18, tp (V.ptr 18 0)), (19, tp (vb false))] [(9, Blk.mk [u8 m.a0, u8 m.a1, u8 m.a2, u8 m.a3, u8 m.a4, u8 c.a0, u8 c.a1, u8 c.a2, u8 c.a3, u8 c.a4] true 10 none), (15, Blk.mk [i64 c.a0, i64 c.a1, i64 c.a2, i64 c.a3, i64 c.a4] true 5 none), (17, Blk.mk [u8 m.a0, u8 m.a1, u8 m.a2, u8 m.a3, u8 m.a4, u8 c.a0, u8 c.a1, u8 c.a2, u8 c.a3, u8 c.a4] true 10 none), (18, Blk.mk [u8 0, i64 0, u8 0] true 3 none)]) (by kernel_rfl) ⟨(wr_u8 (by omega) (by omega)), (c1 ), trivial⟩ ?_
        refine AWP.seq ?_
        refine AWP.seq ?_
        refine AWP.regionT tcok hmix [] [2, 3, 8, 9, 10, 11, 12, 14, 15, 16, 17, 18, 75] [9, 15, 17, 18] (os := []) (s' := St.mk [(2, tp (u8 inh)), (3, tp (u8 mo)), (8, tp (vb false)), (9, tp (V.ptr 9 0)), (10, tp (i64 u)), (11, tp (i64 (-1))), (12, tp (i64 fi)), (14, tp (i64 last)), (15, tp (V.ptr 15 0)), (16, tp (i64 i)), (17, tp (V.ptr 17 0)), (18, tp (V.ptr 18 0)), (75, tp (vb true))] [(9, Blk.mk [u8 m.a0, u8 m.a1, u8 m.a2, u8 m.a3, u8 m.a4, u8 c.a0, u8 c.a1, u8 c.a2, u8 c.a3, u8 c.a4] true 10 none), (15, Blk.mk [i64 c.a0, i64 c.a1, i64 c.a2, i64 c.a3, i64 c.a4] true 5 none), (17, Blk.mk [u8 m.a0, u8 m.a1, u8 m.a2, u8 m.a3, u8 m.a4, u8 c.a0, u8 c.a1, u8 c.a2, u8 c.a3, u8 c.a4] true 10 none), (18, Blk.mk [u8 0, i64 0, u8 0] true 3 none)]) (by kernel_rfl) trivial ?_
        refine AWP.cond (b := true) (by kernel_rfl) (fun _ => ?_) (fun h => by cases h)
        refine AWP.seq ?_
        refine AWP.regionT tcok hmix [(3, ⟨some (i64 0), none⟩)] [2, 3, 8, 9, 10, 11, 12, 14, 15, 16, 17, 18] [9, 15, 17, 18] (os := [true = true → i64 i = i64 (0 : Int) ∧ True]) (s' := St.mk [(2, tp (u8 inh)), (3, tp (u8 mo)), (8, tp (vb true)), (9, tp (V.ptr 9 0)), (10, tp (i64 u)), (11, tp (i64 (-1))), (12, tp (i64 fi)), (14, tp (i64 last)), (15, tp (V.ptr 15 0)), (16, tp (i64 i)), (17, tp (V.ptr 17 0)), (18, tp (V.ptr 18 0))] [(9, Blk.mk [u8 m.a0, u8 m.a1, u8 m.a2, u8 m.a3, u8 m.a4, u8 c.a0, u8 c.a1, u8 c.a2, u8 c.a3, u8 c.a4] true 10 none), (15, Blk.mk [i64 c.a0, i64 c.a1, i64 c.a2, i64 c.a3, i64 c.a4] true 5 none), (17, Blk.mk [u8 m.a0, u8 m.a1, u8 m.a2, u8 m.a3, u8 m.a4, u8 c.a0, u8 c.a1, u8 c.a2, u8 c.a3, u8 c.a4] true 10 none), (18, Blk.mk [u8 0, i64 0, u8 0] true 3 none)]) (by kernel_rfl) ⟨(fun _ => ⟨(in_eq hi0), trivial⟩), trivial⟩ ?_
        refine AWP.ret ?_
        refine ⟨Or.inr rfl, Eq.trans (b := some ([], vb true)) (by kernel_rfl) ?_⟩
        first | rfl | (simp [*]; done) | (exfalso; omega)
      simp only [decide_eq_false_iff_not] at hq23
      (exfalso; omega)
    · obtain ⟨hAk, hF⟩ := lv5_0 (t := tA5 A0 A1 A2 A3 A4 m) rfl hcb.1 hM
      rw [hv] at hF
      obtain ⟨g1, g2, g3, g4⟩ := ci_0 hC ⟨ht0, ht1, ht2, ht3, ht4⟩ hF
      have g5 : al inh 0 = true := ha0 hAk
      have g6 : (tA5 A0 A1 A2 A3 A4 m).a0 = m.a0 := tj_t hAk
      rw [g6] at g3
      rw [← hu] at g2
      have hinc : c.inc 0 = ⟨c.a0 + 1, c.a1, c.a2, c.a3, c.a4⟩ := by
        have : c.a0 < 255 := by omega
        simp [F5.inc, up8, this]
      have c1 : Con Tryd.prog 13 [] [ladV m c, .agg true [u8 fi, i64 3, u8 0], u8 inh] [] (.tup [ladV m ⟨c.a0 + 1, c.a1, c.a2, c.a3, c.a4⟩, .agg true [u8 0, i64 3, u8 0], vb true]) := by
        have := con_raise inh m c fi 3 0 0 hi hck hf0 hr ((hll c).trans hM)
        rw [hinc] at this
        exact this
      clear hF hC hM hll hci hinc
      refine AWP.seq ?_
      refine AWP.seq ?_
      refine AWP.regionT tcok hmix [(3, ⟨some (u8 (mo % 8)), none⟩), (4, ⟨some (i64 (mo % 8)), none⟩), (5, ⟨some (i64 (u + mo % 8)), none⟩)] [2, 3, 8, 9, 10, 11, 12, 14, 15, 16, 61] [9, 15] (os := [(8 : Int) ≠ (0 : Int), u8 (Int.tmod mo 8) = u8 (mo % 8), i64 (IntKind.wrap IntKind.i64 (mo % 8)) = i64 (mo % 8), i64 (IntKind.wrap IntKind.i64 (u + mo % 8)) = i64 (u + mo % 8)]) (s' := St.mk [(2, tp (u8 inh)), (3, tp (u8 mo)), (8, tp (vb false)), (9, tp (V.ptr 9 0)), (10, tp (i64 u)), (11, tp (i64 v)), (12, tp (i64 fi)), (14, tp (i64 last)), (15, tp (V.ptr 15 0)), (16, tp (i64 i)), (61, tp (vb (decide (i < u + mo % 8))))] [(9, Blk.mk [u8 m.a0, u8 m.a1, u8 m.a2, u8 m.a3, u8 m.a4, u8 c.a0, u8 c.a1, u8 c.a2, u8 c.a3, u8 c.a4] true 10 none), (15, Blk.mk [i64 c.a0, i64 c.a1, i64 c.a2, i64 c.a3, i64 c.a4] true 5 none)]) (by kernel_rfl) ⟨(by omega), (tm_ (by omega)), (wr_i64 (by omega) (by omega)), (wr_i64 (by omega) (by omega)), trivial⟩ ?_
      refine AWP.cond (b := decide (i < u + mo % 8)) (by kernel_rfl) (fun hq25 => ?_) (fun hq25 => ?_)
      · simp only [decide_eq_true_eq] at hq25
        refine AWP.skip ?_
        refine AWP.seq ?_
        refine AWP.block ?_
        refine AWP.seq ?_
        refine AWP.regionT tcok hmix [(2, ⟨some (u8 fi), none⟩), (5, ⟨none, some ⟨V.tup [ladV m (F5.mk (c.a0 + 1) c.a1 c.a2 c.a3 c.a4), V.agg true [u8 0, i64 3, u8 0], vb true], [], []⟩⟩)] [2, 3, 8, 9, 10, 11, 12, 14, 15, 16, 17, 18, 19] [9, 15, 17, 18] (os := [u8 (IntKind.wrap IntKind.u8 fi) = u8 fi, Con Tryd.prog 13 [] [V.agg true [u8 m.a0, u8 m.a1, u8 m.a2, u8 m.a3, u8 m.a4, u8 c.a0, u8 c.a1, u8 c.a2, u8 c.a3, u8 c.a4], V.agg true [u8 fi, i64 3, u8 0], u8 inh] [] (V.tup [V.agg true [u8 m.a0, u8 m.a1, u8 m.a2, u8 m.a3, u8 m.a4, u8 (c.a0 + 1), u8 c.a1, u8 c.a2, u8 c.a3, u8 c.a4], V.agg true [u8 0, i64 3, u8 0], vb true])]) (s' := St.mk [(2, tp (u8 inh)), (3, tp (u8 mo)), (8, tp (vb false)), (9, tp (V.ptr 9 0)), (10, tp (i64 u)), (11, tp (i64 v)), (12, tp (i64 fi)), (14, tp (i64 last)), (15, tp (V.ptr 15 0)), (16, tp (i64 i)), (17, tp (V.ptr 17 0)), (18, tp (V.ptr 18 0)), (19, tp (vb true))] [(9, Blk.mk [u8 m.a0, u8 m.a1, u8 m.a2, u8 m.a3, u8 m.a4, u8 c.a0, u8 c.a1, u8 c.a2, u8 c.a3, u8 c.a4] true 10 none), (15, Blk.mk [i64 c.a0, i64 c.a1, i64 c.a2, i64 c.a3, i64 c.a4] true 5 none), (17, Blk.mk [u8 m.a0, u8 m.a1, u8 m.a2, u8 m.a3, u8 m.a4, u8 (c.a0 + 1), u8 c.a1, u8 c.a2, u8 c.a3, u8 c.a4] true 10 none), (18, Blk.mk [u8 0, i64 3, u8 0] true 3 none)]) (by kernel_rfl) ⟨(wr_u8 (by omega) (by omega)), (c1 ), trivial⟩ ?_
        refine AWP.seq ?_
        refine AWP.seq ?_
        refine AWP.regionT tcok hmix [] [2, 3, 8, 9, 10, 11, 12, 14, 15, 16, 17, 18, 75] [9, 15, 17, 18] (os := []) (s' := St.mk [(2, tp (u8 inh)), (3, tp (u8 mo)), (8, tp (vb false)), (9, tp (V.ptr 9 0)), (10, tp (i64 u)), (11, tp (i64 v)), (12, tp (i64 fi)), (14, tp (i64 last)), (15, tp (V.ptr 15 0)), (16, tp (i64 i)), (17, tp (V.ptr 17 0)), (18, tp (V.ptr 18 0)), (75, tp (vb false))] [(9, Blk.mk [u8 m.a0, u8 m.a1, u8 m.a2, u8 m.a3, u8 m.a4, u8 c.a0, u8 c.a1, u8 c.a2, u8 c.a3, u8 c.a4] true 10 none), (15, Blk.mk [i64 c.a0, i64 c.a1, i64 c.a2, i64 c.a3, i64 c.a4] true 5 none), (17, Blk.mk [u8 m.a0, u8 m.a1, u8 m.a2, u8 m.a3, u8 m.a4, u8 (c.a0 + 1), u8 c.a1, u8 c.a2, u8 c.a3, u8 c.a4] true 10 none), (18, Blk.mk [u8 0, i64 3, u8 0] true 3 none)]) (by kernel_rfl) trivial ?_
        refine AWP.cond (b := false) (by kernel_rfl) (fun h => by cases h) (fun _ => ?_)
        refine AWP.skip ?_
        refine AWP.seq ?_
        refine AWP.regionT tcok hmix [] [2, 3, 8, 9, 10, 11, 12, 14, 15, 16, 17, 20] [9, 15, 17] (os := []) (s' := St.mk [(2, tp (u8 inh)), (3, tp (u8 mo)), (8, tp (vb false)), (9, tp (V.ptr 9 0)), (10, tp (i64 u)), (11, tp (i64 v)), (12, tp (i64 fi)), (14, tp (i64 last)), (15, tp (V.ptr 15 0)), (16, tp (i64 i)), (17, tp (V.ptr 17 0)), (20, tp (i64 0))] [(9, Blk.mk [u8 m.a0, u8 m.a1, u8 m.a2, u8 m.a3, u8 m.a4, u8 c.a0, u8 c.a1, u8 c.a2, u8 c.a3, u8 c.a4] true 10 none), (15, Blk.mk [i64 c.a0, i64 c.a1, i64 c.a2, i64 c.a3, i64 c.a4] true 5 none), (17, Blk.mk [u8 m.a0, u8 m.a1, u8 m.a2, u8 m.a3, u8 m.a4, u8 (c.a0 + 1), u8 c.a1, u8 c.a2, u8 c.a3, u8 c.a4] true 10 none)]) (by kernel_rfl) trivial ?_
        refine AWP.seq ?_
        refine AWP.seq ?_
        refine AWP.regionT tcok hmix [(6, ⟨none, some ⟨vb (al inh 0), [], []⟩⟩)] [2, 3, 8, 9, 10, 11, 12, 14, 15, 16, 17, 20, 103] [9, 15, 17] (os := [decide ((0 : Int) < last) = false → Con Tryd.prog (12 : Nat) [] [u8 inh, i64 (0 : Int)] [] (vb (al inh (0 : Int))) ∧ True]) (s' := St.mk [(2, tp (u8 inh)), (3, tp (u8 mo)), (8, tp (vb false)), (9, tp (V.ptr 9 0)), (10, tp (i64 u)), (11, tp (i64 v)), (12, tp (i64 fi)), (14, tp (i64 last)), (15, tp (V.ptr 15 0)), (16, tp (i64 i)), (17, tp (V.ptr 17 0)), (20, tp (i64 0)), (103, tp (vb (decide (0 < last) || !al inh 0 || decide (i ≥ u) && 0 != v)))] [(9, Blk.mk [u8 m.a0, u8 m.a1, u8 m.a2, u8 m.a3, u8 m.a4, u8 c.a0, u8 c.a1, u8 c.a2, u8 c.a3, u8 c.a4] true 10 none), (15, Blk.mk [i64 c.a0, i64 c.a1, i64 c.a2, i64 c.a3, i64 c.a4] true 5 none), (17, Blk.mk [u8 m.a0, u8 m.a1, u8 m.a2, u8 m.a3, u8 m.a4, u8 (c.a0 + 1), u8 c.a1, u8 c.a2, u8 c.a3, u8 c.a4] true 10 none)]) (by kernel_rfl) ⟨(by intro hc0; first | (cases hc0; done) | (try simp only [Bool.or_false, Bool.false_or, Bool.true_and, Bool.and_true, decide_eq_true_eq, decide_eq_false_iff_not, Bool.and_eq_true, Bool.or_eq_true, Bool.or_eq_false_iff, Bool.not_eq_true', Bool.and_eq_false_iff, beq_iff_eq, bne_iff_ne, bne_eq_false_iff_eq, beq_eq_false_iff_ne, Bool.not_eq_false'] at hc0; exact ⟨(con_rallowed (inh) (0) (by assumption) (by omega)), trivial⟩)), trivial⟩ ?_
        refine AWP.cond (b := decide (0 < last) || !al inh 0 || decide (i ≥ u) && 0 != v) (by kernel_rfl) (fun hq27 => ?_) (fun hq27 => ?_)
        · simp only [decide_eq_true_eq, Bool.and_eq_true, Bool.or_eq_true, Bool.not_eq_true', bne_iff_ne] at hq27
          refine AWP.seq ?_
          refine AWP.regionT tcok hmix [] [2, 3, 8, 9, 10, 11, 12, 14, 15, 16, 17, 20] [9, 15, 17] (os := []) (s' := St.mk [(2, tp (u8 inh)), (3, tp (u8 mo)), (8, tp (vb false)), (9, tp (V.ptr 9 0)), (10, tp (i64 u)), (11, tp (i64 v)), (12, tp (i64 fi)), (14, tp (i64 last)), (15, tp (V.ptr 15 0)), (16, tp (i64 i)), (17, tp (V.ptr 17 0)), (20, tp (i64 0))] [(9, Blk.mk [u8 m.a0, u8 m.a1, u8 m.a2, u8 m.a3, u8 m.a4, u8 c.a0, u8 c.a1, u8 c.a2, u8 c.a3, u8 c.a4] true 10 none), (15, Blk.mk [i64 c.a0, i64 c.a1, i64 c.a2, i64 c.a3, i64 c.a4] true 5 none), (17, Blk.mk [u8 m.a0, u8 m.a1, u8 m.a2, u8 m.a3, u8 m.a4, u8 (c.a0 + 1), u8 c.a1, u8 c.a2, u8 c.a3, u8 c.a4] true 10 none)]) (by kernel_rfl) trivial ?_
          refine AWP.ret ?_
          refine ⟨Or.inr rfl, Eq.trans (b := some ([], vb false)) (by kernel_rfl) ?_⟩
          first | (exfalso; rcases hq27 with (h | h) | h <;> first | omega | (rw [g5] at h; cases h; done)) | (exfalso; simp_all; omega) | (exfalso; simp_all; done) | (exfalso; omega) | (exact ⟨(u + mo % 8 - (i + 1)).toNat, (by omega), ⟨c.a0 + 1, c.a1, c.a2, c.a3, c.a4⟩, _, i + 1, rfl, g4, (by omega), (by omega)⟩)
        simp only [decide_eq_false_iff_not, Bool.or_eq_false_iff, Bool.and_eq_false_iff, bne_eq_false_iff_eq, Bool.not_eq_false'] at hq27
        refine AWP.skip ?_
        refine AWP.seq ?_
        refine AWP.regionT tcok hmix [(3, ⟨some (i64 (c.a0 + 1)), none⟩)] [2, 3, 8, 9, 10, 11, 12, 14, 15, 16, 17, 20] [9, 15, 17] (os := [i64 (IntKind.wrap IntKind.i64 (c.a0 + 1)) = i64 (c.a0 + 1)]) (s' := St.mk [(2, tp (u8 inh)), (3, tp (u8 mo)), (8, tp (vb false)), (9, tp (V.ptr 9 0)), (10, tp (i64 u)), (11, tp (i64 v)), (12, tp (i64 fi)), (14, tp (i64 last)), (15, tp (V.ptr 15 0)), (16, tp (i64 i)), (17, tp (V.ptr 17 0)), (20, tp (i64 0))] [(9, Blk.mk [u8 m.a0, u8 m.a1, u8 m.a2, u8 m.a3, u8 m.a4, u8 c.a0, u8 c.a1, u8 c.a2, u8 c.a3, u8 c.a4] true 10 none), (15, Blk.mk [i64 (c.a0 + 1), i64 c.a1, i64 c.a2, i64 c.a3, i64 c.a4] true 5 none), (17, Blk.mk [u8 m.a0, u8 m.a1, u8 m.a2, u8 m.a3, u8 m.a4, u8 (c.a0 + 1), u8 c.a1, u8 c.a2, u8 c.a3, u8 c.a4] true 10 none)]) (by kernel_rfl) ⟨(wr_i64 (by omega) (by omega)), trivial⟩ ?_
        refine AWP.seq ?_
        refine AWP.seq ?_
        refine AWP.regionT tcok hmix [(11, ⟨some (i64 m.a0), none⟩)] [2, 3, 8, 9, 10, 11, 12, 14, 15, 16, 17, 20, 122] [9, 15, 17] (os := [((0 : Int) != v) = true → i64 (IntKind.wrap IntKind.i64 m.a0) = i64 m.a0 ∧ True]) (s' := St.mk [(2, tp (u8 inh)), (3, tp (u8 mo)), (8, tp (vb false)), (9, tp (V.ptr 9 0)), (10, tp (i64 u)), (11, tp (i64 v)), (12, tp (i64 fi)), (14, tp (i64 last)), (15, tp (V.ptr 15 0)), (16, tp (i64 i)), (17, tp (V.ptr 17 0)), (20, tp (i64 0)), (122, tp (vb (0 != v && decide (c.a0 + 1 > m.a0))))] [(9, Blk.mk [u8 m.a0, u8 m.a1, u8 m.a2, u8 m.a3, u8 m.a4, u8 c.a0, u8 c.a1, u8 c.a2, u8 c.a3, u8 c.a4] true 10 none), (15, Blk.mk [i64 (c.a0 + 1), i64 c.a1, i64 c.a2, i64 c.a3, i64 c.a4] true 5 none), (17, Blk.mk [u8 m.a0, u8 m.a1, u8 m.a2, u8 m.a3, u8 m.a4, u8 (c.a0 + 1), u8 c.a1, u8 c.a2, u8 c.a3, u8 c.a4] true 10 none)]) (by kernel_rfl) ⟨(by intro hc0; first | (cases hc0; done) | (try simp only [Bool.or_false, Bool.false_or, Bool.true_and, Bool.and_true, decide_eq_true_eq, decide_eq_false_iff_not, Bool.and_eq_true, Bool.or_eq_true, Bool.or_eq_false_iff, Bool.not_eq_true', Bool.and_eq_false_iff, beq_iff_eq, bne_iff_ne, bne_eq_false_iff_eq, beq_eq_false_iff_ne, Bool.not_eq_false'] at hc0; exact ⟨(wr_i64 (by omega) (by omega)), trivial⟩)), trivial⟩ ?_
        refine AWP.cond (b := 0 != v && decide (c.a0 + 1 > m.a0)) (by kernel_rfl) (fun hq28 => ?_) (fun hq28 => ?_)
        · simp only [decide_eq_true_eq, Bool.and_eq_true, bne_iff_ne] at hq28
          (exfalso; omega)
        simp only [decide_eq_false_iff_not, Bool.and_eq_false_iff, bne_eq_false_iff_eq] at hq28
        refine AWP.skip ?_
        refine AWP.region tcok hmix [] (os := []) (sf := St.mk [(2, tp (u8 inh)), (3, tp (u8 mo)), (8, tp (vb false)), (9, tp (V.ptr 9 0)), (10, tp (i64 u)), (11, tp (i64 v)), (12, tp (i64 fi)), (14, tp (i64 0)), (15, tp (V.ptr 15 0)), (16, tp (i64 i)), (17, tp (V.ptr 17 0)), (20, tp (i64 0)), (122, tp (vb (0 != v && decide (c.a0 + 1 > m.a0)))), (123, tp (i64 0)), (124, tp (V.agg true [u8 m.a0, u8 m.a1, u8 m.a2, u8 m.a3, u8 m.a4, u8 (c.a0 + 1), u8 c.a1, u8 c.a2, u8 c.a3, u8 c.a4]))] [(9, Blk.mk [u8 m.a0, u8 m.a1, u8 m.a2, u8 m.a3, u8 m.a4, u8 (c.a0 + 1), u8 c.a1, u8 c.a2, u8 c.a3, u8 c.a4] true 10 none), (15, Blk.mk [i64 (c.a0 + 1), i64 c.a1, i64 c.a2, i64 c.a3, i64 c.a4] true 5 none), (17, Blk.mk [u8 m.a0, u8 m.a1, u8 m.a2, u8 m.a3, u8 m.a4, u8 (c.a0 + 1), u8 c.a1, u8 c.a2, u8 c.a3, u8 c.a4] true 10 none)]) (by kernel_rfl) trivial ?_
        refine AWP.keep' [2, 3, 8, 9, 10, 11, 12, 14, 15, 16] [9, 15] (sf := St.mk [(2, tp (u8 inh)), (3, tp (u8 mo)), (8, tp (vb false)), (9, tp (V.ptr 9 0)), (10, tp (i64 u)), (11, tp (i64 v)), (12, tp (i64 fi)), (14, tp (i64 0)), (15, tp (V.ptr 15 0)), (16, tp (i64 i))] [(9, Blk.mk [u8 m.a0, u8 m.a1, u8 m.a2, u8 m.a3, u8 m.a4, u8 (c.a0 + 1), u8 c.a1, u8 c.a2, u8 c.a3, u8 c.a4] true 10 none), (15, Blk.mk [i64 (c.a0 + 1), i64 c.a1, i64 c.a2, i64 c.a3, i64 c.a4] true 5 none)]) (by kernel_rfl) ?_
        refine AWP.region tcok hmix [(1, ⟨some (i64 (i + 1)), none⟩)] (os := [i64 (IntKind.wrap IntKind.i64 (i + 1)) = i64 (i + 1)]) (sf := St.mk [(2, tp (u8 inh)), (3, tp (u8 mo)), (8, tp (vb false)), (9, tp (V.ptr 9 0)), (10, tp (i64 u)), (11, tp (i64 v)), (12, tp (i64 fi)), (14, tp (i64 0)), (15, tp (V.ptr 15 0)), (16, tp (i64 (i + 1))), (62, tp (i64 i)), (63, tp (i64 (i + 1)))] [(9, Blk.mk [u8 m.a0, u8 m.a1, u8 m.a2, u8 m.a3, u8 m.a4, u8 (c.a0 + 1), u8 c.a1, u8 c.a2, u8 c.a3, u8 c.a4] true 10 none), (15, Blk.mk [i64 (c.a0 + 1), i64 c.a1, i64 c.a2, i64 c.a3, i64 c.a4] true 5 none)]) (by kernel_rfl) ⟨(wr_i64 (by omega) (by omega)), trivial⟩ ?_
        refine ⟨St.mk [(2, tp (u8 inh)), (3, tp (u8 mo)), (8, tp (vb false)), (9, tp (V.ptr 9 0)), (10, tp (i64 u)), (11, tp (i64 v)), (12, tp (i64 fi)), (14, tp (i64 0)), (15, tp (V.ptr 15 0)), (16, tp (i64 (i + 1)))] [(9, Blk.mk [u8 m.a0, u8 m.a1, u8 m.a2, u8 m.a3, u8 m.a4, u8 (c.a0 + 1), u8 c.a1, u8 c.a2, u8 c.a3, u8 c.a4] true 10 none), (15, Blk.mk [i64 (c.a0 + 1), i64 c.a1, i64 c.a2, i64 c.a3, i64 c.a4] true 5 none)], by kernel_rfl, ?_⟩
        first | (exfalso; rcases hq28 with (h | h) | h <;> first | omega | (rw [g5] at h; cases h; done)) | (exfalso; simp_all; omega) | (exfalso; simp_all; done) | (exfalso; omega) | (exact ⟨(u + mo % 8 - (i + 1)).toNat, (by omega), ⟨c.a0 + 1, c.a1, c.a2, c.a3, c.a4⟩, _, i + 1, rfl, g4, (by omega), (by omega)⟩)
      simp only [decide_eq_false_iff_not] at hq25
      (exfalso; omega)
    · obtain ⟨hAk, hF⟩ := lv5_1 (t := tA5 A0 A1 A2 A3 A4 m) rfl hcb.1 hM
      rw [hv] at hF
      obtain ⟨g1, g2, g3, g4⟩ := ci_1 hC ⟨ht0, ht1, ht2, ht3, ht4⟩ hF
      have g5 : al inh 1 = true := ha1 hAk
      have g6 : (tA5 A0 A1 A2 A3 A4 m).a1 = m.a1 := tj_t hAk
      rw [g6] at g3
      rw [← hu] at g2
      have hinc : c.inc 1 = ⟨c.a0, c.a1 + 1, c.a2, c.a3, c.a4⟩ := by
        have : c.a1 < 255 := by omega
        simp [F5.inc, up8, this]
      have c1 : Con Tryd.prog 13 [] [ladV m c, .agg true [u8 fi, i64 3, u8 0], u8 inh] [] (.tup [ladV m ⟨c.a0, c.a1 + 1, c.a2, c.a3, c.a4⟩, .agg true [u8 1, i64 3, u8 0], vb true]) := by
        have := con_raise inh m c fi 3 0 1 hi hck hf0 hr ((hll c).trans hM)
        rw [hinc] at this
        exact this
      clear hF hC hM hll hci hinc
      refine AWP.seq ?_
      refine AWP.seq ?_
      refine AWP.regionT tcok hmix [(3, ⟨some (u8 (mo % 8)), none⟩), (4, ⟨some (i64 (mo % 8)), none⟩), (5, ⟨some (i64 (u + mo % 8)), none⟩)] [2, 3, 8, 9, 10, 11, 12, 14, 15, 16, 61] [9, 15] (os := [(8 : Int) ≠ (0 : Int), u8 (Int.tmod mo 8) = u8 (mo % 8), i64 (IntKind.wrap IntKind.i64 (mo % 8)) = i64 (mo % 8), i64 (IntKind.wrap IntKind.i64 (u + mo % 8)) = i64 (u + mo % 8)]) (s' := St.mk [(2, tp (u8 inh)), (3, tp (u8 mo)), (8, tp (vb false)), (9, tp (V.ptr 9 0)), (10, tp (i64 u)), (11, tp (i64 v)), (12, tp (i64 fi)), (14, tp (i64 last)), (15, tp (V.ptr 15 0)), (16, tp (i64 i)), (61, tp (vb (decide (i < u + mo % 8))))] [(9, Blk.mk [u8 m.a0, u8 m.a1, u8 m.a2, u8 m.a3, u8 m.a4, u8 c.a0, u8 c.a1, u8 c.a2, u8 c.a3, u8 c.a4] true 10 none), (15, Blk.mk [i64 c.a0, i64 c.a1, i64 c.a2, i64 c.a3, i64 c.a4] true 5 none)]) (by kernel_rfl) ⟨(by omega), (tm_ (by omega)), (wr_i64 (by omega) (by omega)), (wr_i64 (by omega) (by omega)), trivial⟩ ?_
      refine AWP.cond (b := decide (i < u + mo % 8)) (by kernel_rfl) (fun hq29 => ?_) (fun hq29 => ?_)
      · simp only [decide_eq_true_eq] at hq29
        refine AWP.skip ?_
        refine AWP.seq ?_
        refine AWP.block ?_
        refine AWP.seq ?_
        refine AWP.regionT tcok hmix [(2, ⟨some (u8 fi), none⟩), (5, ⟨none, some ⟨V.tup [ladV m (F5.mk c.a0 (c.a1 + 1) c.a2 c.a3 c.a4), V.agg true [u8 1, i64 3, u8 0], vb true], [], []⟩⟩)] [2, 3, 8, 9, 10, 11, 12, 14, 15, 16, 17, 18, 19] [9, 15, 17, 18] (os := [u8 (IntKind.wrap IntKind.u8 fi) = u8 fi, Con Tryd.prog 13 [] [V.agg true [u8 m.a0, u8 m.a1, u8 m.a2, u8 m.a3, u8 m.a4, u8 c.a0, u8 c.a1, u8 c.a2, u8 c.a3, u8 c.a4], V.agg true [u8 fi, i64 3, u8 0], u8 inh] [] (V.tup [V.agg true [u8 m.a0, u8 m.a1, u8 m.a2, u8 m.a3, u8 m.a4, u8 c.a0, u8 (c.a1 + 1), u8 c.a2, u8 c.a3, u8 c.a4], V.agg true [u8 1, i64 3, u8 0], vb true])]) (s' := St.mk [(2, tp (u8 inh)), (3, tp (u8 mo)), (8, tp (vb false)), (9, tp (V.ptr 9 0)), (10, tp (i64 u)), (11, tp (i64 v)), (12, tp (i64 fi)), (14, tp (i64 last)), (15, tp (V.ptr 15 0)), (16, tp (i64 i)), (17, tp (V.ptr 17 0)), (18, tp (V.ptr 18 0)), (19, tp (vb true))] [(9, Blk.mk [u8 m.a0, u8 m.a1, u8 m.a2, u8 m.a3, u8 m.a4, u8 c.a0, u8 c.a1, u8 c.a2, u8 c.a3, u8 c.a4] true 10 none), (15, Blk.mk [i64 c.a0, i64 c.a1, i64 c.a2, i64 c.a3, i64 c.a4] true 5 none), (17, Blk.mk [u8 m.a0, u8 m.a1, u8 m.a2, u8 m.a3, u8 m.a4, u8 c.a0, u8 (c.a1 + 1), u8 c.a2, u8 c.a3, u8 c.a4] true 10 none), (18, Blk.mk [u8 1, i64 3, u8 0] true 3 none)]) (by kernel_rfl) ⟨(wr_u8 (by omega) (by omega)), (c1 ), trivial⟩ ?_
        refine AWP.seq ?_
        refine AWP.seq ?_
        refine AWP.regionT tcok hmix [] [2, 3, 8, 9, 10, 11, 12, 14, 15, 16, 17, 18, 75] [9, 15, 17, 18] (os := []) (s' := St.mk [(2, tp (u8 inh)), (3, tp (u8 mo)), (8, tp (vb false)), (9, tp (V.ptr 9 0)), (10, tp (i64 u)), (11, tp (i64 v)), (12, tp (i64 fi)), (14, tp (i64 last)), (15, tp (V.ptr 15 0)), (16, tp (i64 i)), (17, tp (V.ptr 17 0)), (18, tp (V.ptr 18 0)), (75, tp (vb false))] [(9, Blk.mk [u8 m.a0, u8 m.a1, u8 m.a2, u8 m.a3, u8 m.a4, u8 c.a0, u8 c.a1, u8 c.a2, u8 c.a3, u8 c.a4] true 10 none), (15, Blk.mk [i64 c.a0, i64 c.a1, i64 c.a2, i64 c.a3, i64 c.a4] true 5 none), (17, Blk.mk [u8 m.a0, u8 m.a1, u8 m.a2, u8 m.a3, u8 m.a4, u8 c.a0, u8 (c.a1 + 1), u8 c.a2, u8 c.a3, u8 c.a4] true 10 none), (18, Blk.mk [u8 1, i64 3, u8 0] true 3 none)]) (by kernel_rfl) trivial ?_
        refine AWP.cond (b := false) (by kernel_rfl) (fun h => by cases h) (fun _ => ?_)
        refine AWP.skip ?_
        refine AWP.seq ?_
        refine AWP.regionT tcok hmix [] [2, 3, 8, 9, 10, 11, 12, 14, 15, 16, 17, 20] [9, 15, 17] (os := []) (s' := St.mk [(2, tp (u8 inh)), (3, tp (u8 mo)), (8, tp (vb false)), (9, tp (V.ptr 9 0)), (10, tp (i64 u)), (11, tp (i64 v)), (12, tp (i64 fi)), (14, tp (i64 last)), (15, tp (V.ptr 15 0)), (16, tp (i64 i)), (17, tp (V.ptr 17 0)), (20, tp (i64 1))] [(9, Blk.mk [u8 m.a0, u8 m.a1, u8 m.a2, u8 m.a3, u8 m.a4, u8 c.a0, u8 c.a1, u8 c.a2, u8 c.a3, u8 c.a4] true 10 none), (15, Blk.mk [i64 c.a0, i64 c.a1, i64 c.a2, i64 c.a3, i64 c.a4] true 5 none), (17, Blk.mk [u8 m.a0, u8 m.a1, u8 m.a2, u8 m.a3, u8 m.a4, u8 c.a0, u8 (c.a1 + 1), u8 c.a2, u8 c.a3, u8 c.a4] true 10 none)]) (by kernel_rfl) trivial ?_
        refine AWP.seq ?_
        refine AWP.seq ?_
        refine AWP.regionT tcok hmix [(6, ⟨none, some ⟨vb (al inh 1), [], []⟩⟩)] [2, 3, 8, 9, 10, 11, 12, 14, 15, 16, 17, 20, 103] [9, 15, 17] (os := [decide ((1 : Int) < last) = false → Con Tryd.prog (12 : Nat) [] [u8 inh, i64 (1 : Int)] [] (vb (al inh (1 : Int))) ∧ True]) (s' := St.mk [(2, tp (u8 inh)), (3, tp (u8 mo)), (8, tp (vb false)), (9, tp (V.ptr 9 0)), (10, tp (i64 u)), (11, tp (i64 v)), (12, tp (i64 fi)), (14, tp (i64 last)), (15, tp (V.ptr 15 0)), (16, tp (i64 i)), (17, tp (V.ptr 17 0)), (20, tp (i64 1)), (103, tp (vb (decide (1 < last) || !al inh 1 || decide (i ≥ u) && 1 != v)))] [(9, Blk.mk [u8 m.a0, u8 m.a1, u8 m.a2, u8 m.a3, u8 m.a4, u8 c.a0, u8 c.a1, u8 c.a2, u8 c.a3, u8 c.a4] true 10 none), (15, Blk.mk [i64 c.a0, i64 c.a1, i64 c.a2, i64 c.a3, i64 c.a4] true 5 none), (17, Blk.mk [u8 m.a0, u8 m.a1, u8 m.a2, u8 m.a3, u8 m.a4, u8 c.a0, u8 (c.a1 + 1), u8 c.a2, u8 c.a3, u8 c.a4] true 10 none)]) (by kernel_rfl) ⟨(by intro hc0; first | (cases hc0; done) | (try simp only [Bool.or_false, Bool.false_or, Bool.true_and, Bool.and_true, decide_eq_true_eq, decide_eq_false_iff_not, Bool.and_eq_true, Bool.or_eq_true, Bool.or_eq_false_iff, Bool.not_eq_true', Bool.and_eq_false_iff, beq_iff_eq, bne_iff_ne, bne_eq_false_iff_eq, beq_eq_false_iff_ne, Bool.not_eq_false'] at hc0; exact ⟨(con_rallowed (inh) (1) (by assumption) (by omega)), trivial⟩)), trivial⟩ ?_
        refine AWP.cond (b := decide (1 < last) || !al inh 1 || decide (i ≥ u) && 1 != v) (by kernel_rfl) (fun hq31 => ?_) (fun hq31 => ?_)
        · simp only [decide_eq_true_eq, Bool.and_eq_true, Bool.or_eq_true, Bool.not_eq_true', bne_iff_ne] at hq31
          refine AWP.seq ?_
          refine AWP.regionT tcok hmix [] [2, 3, 8, 9, 10, 11, 12, 14, 15, 16, 17, 20] [9, 15, 17] (os := []) (s' := St.mk [(2, tp (u8 inh)), (3, tp (u8 mo)), (8, tp (vb false)), (9, tp (V.ptr 9 0)), (10, tp (i64 u)), (11, tp (i64 v)), (12, tp (i64 fi)), (14, tp (i64 last)), (15, tp (V.ptr 15 0)), (16, tp (i64 i)), (17, tp (V.ptr 17 0)), (20, tp (i64 1))] [(9, Blk.mk [u8 m.a0, u8 m.a1, u8 m.a2, u8 m.a3, u8 m.a4, u8 c.a0, u8 c.a1, u8 c.a2, u8 c.a3, u8 c.a4] true 10 none), (15, Blk.mk [i64 c.a0, i64 c.a1, i64 c.a2, i64 c.a3, i64 c.a4] true 5 none), (17, Blk.mk [u8 m.a0, u8 m.a1, u8 m.a2, u8 m.a3, u8 m.a4, u8 c.a0, u8 (c.a1 + 1), u8 c.a2, u8 c.a3, u8 c.a4] true 10 none)]) (by kernel_rfl) trivial ?_
          refine AWP.ret ?_
          refine ⟨Or.inr rfl, Eq.trans (b := some ([], vb false)) (by kernel_rfl) ?_⟩
          first | (exfalso; rcases hq31 with (h | h) | h <;> first | omega | (rw [g5] at h; cases h; done)) | (exfalso; simp_all; omega) | (exfalso; simp_all; done) | (exfalso; omega) | (exact ⟨(u + mo % 8 - (i + 1)).toNat, (by omega), ⟨c.a0, c.a1 + 1, c.a2, c.a3, c.a4⟩, _, i + 1, rfl, g4, (by omega), (by omega)⟩)
        simp only [decide_eq_false_iff_not, Bool.or_eq_false_iff, Bool.and_eq_false_iff, bne_eq_false_iff_eq, Bool.not_eq_false'] at hq31
        refine AWP.skip ?_
        refine AWP.seq ?_
        refine AWP.regionT tcok hmix [(3, ⟨some (i64 (c.a1 + 1)), none⟩)] [2, 3, 8, 9, 10, 11, 12, 14, 15, 16, 17, 20] [9, 15, 17] (os := [i64 (IntKind.wrap IntKind.i64 (c.a1 + 1)) = i64 (c.a1 + 1)]) (s' := St.mk [(2, tp (u8 inh)), (3, tp (u8 mo)), (8, tp (vb false)), (9, tp (V.ptr 9 0)), (10, tp (i64 u)), (11, tp (i64 v)), (12, tp (i64 fi)), (14, tp (i64 last)), (15, tp (V.ptr 15 0)), (16, tp (i64 i)), (17, tp (V.ptr 17 0)), (20, tp (i64 1))] [(9, Blk.mk [u8 m.a0, u8 m.a1, u8 m.a2, u8 m.a3, u8 m.a4, u8 c.a0, u8 c.a1, u8 c.a2, u8 c.a3, u8 c.a4] true 10 none), (15, Blk.mk [i64 c.a0, i64 (c.a1 + 1), i64 c.a2, i64 c.a3, i64 c.a4] true 5 none), (17, Blk.mk [u8 m.a0, u8 m.a1, u8 m.a2, u8 m.a3, u8 m.a4, u8 c.a0, u8 (c.a1 + 1), u8 c.a2, u8 c.a3, u8 c.a4] true 10 none)]) (by kernel_rfl) ⟨(wr_i64 (by omega) (by omega)), trivial⟩ ?_
        refine AWP.seq ?_
        refine AWP.seq ?_
        refine AWP.regionT tcok hmix [(11, ⟨some (i64 m.a1), none⟩)] [2, 3, 8, 9, 10, 11, 12, 14, 15, 16, 17, 20, 122] [9, 15, 17] (os := [((1 : Int) != v) = true → i64 (IntKind.wrap IntKind.i64 m.a1) = i64 m.a1 ∧ True]) (s' := St.mk [(2, tp (u8 inh)), (3, tp (u8 mo)), (8, tp (vb false)), (9, tp (V.ptr 9 0)), (10, tp (i64 u)), (11, tp (i64 v)), (12, tp (i64 fi)), (14, tp (i64 last)), (15, tp (V.ptr 15 0)), (16, tp (i64 i)), (17, tp (V.ptr 17 0)), (20, tp (i64 1)), (122, tp (vb (1 != v && decide (c.a1 + 1 > m.a1))))] [(9, Blk.mk [u8 m.a0, u8 m.a1, u8 m.a2, u8 m.a3, u8 m.a4, u8 c.a0, u8 c.a1, u8 c.a2, u8 c.a3, u8 c.a4] true 10 none), (15, Blk.mk [i64 c.a0, i64 (c.a1 + 1), i64 c.a2, i64 c.a3, i64 c.a4] true 5 none), (17, Blk.mk [u8 m.a0, u8 m.a1, u8 m.a2, u8 m.a3, u8 m.a4, u8 c.a0, u8 (c.a1 + 1), u8 c.a2, u8 c.a3, u8 c.a4] true 10 none)]) (by kernel_rfl) ⟨(by intro hc0; first | (cases hc0; done) | (try simp only [Bool.or_false, Bool.false_or, Bool.true_and, Bool.and_true, decide_eq_true_eq, decide_eq_false_iff_not, Bool.and_eq_true, Bool.or_eq_true, Bool.or_eq_false_iff, Bool.not_eq_true', Bool.and_eq_false_iff, beq_iff_eq, bne_iff_ne, bne_eq_false_iff_eq, beq_eq_false_iff_ne, Bool.not_eq_false'] at hc0; exact ⟨(wr_i64 (by omega) (by omega)), trivial⟩)), trivial⟩ ?_
        refine AWP.cond (b := 1 != v && decide (c.a1 + 1 > m.a1)) (by kernel_rfl) (fun hq32 => ?_) (fun hq32 => ?_)
        · simp only [decide_eq_true_eq, Bool.and_eq_true, bne_iff_ne] at hq32
          (exfalso; omega)
        simp only [decide_eq_false_iff_not, Bool.and_eq_false_iff, bne_eq_false_iff_eq] at hq32
        refine AWP.skip ?_
        refine AWP.region tcok hmix [] (os := []) (sf := St.mk [(2, tp (u8 inh)), (3, tp (u8 mo)), (8, tp (vb false)), (9, tp (V.ptr 9 0)), (10, tp (i64 u)), (11, tp (i64 v)), (12, tp (i64 fi)), (14, tp (i64 1)), (15, tp (V.ptr 15 0)), (16, tp (i64 i)), (17, tp (V.ptr 17 0)), (20, tp (i64 1)), (122, tp (vb (1 != v && decide (c.a1 + 1 > m.a1)))), (123, tp (i64 1)), (124, tp (V.agg true [u8 m.a0, u8 m.a1, u8 m.a2, u8 m.a3, u8 m.a4, u8 c.a0, u8 (c.a1 + 1), u8 c.a2, u8 c.a3, u8 c.a4]))] [(9, Blk.mk [u8 m.a0, u8 m.a1, u8 m.a2, u8 m.a3, u8 m.a4, u8 c.a0, u8 (c.a1 + 1), u8 c.a2, u8 c.a3, u8 c.a4] true 10 none), (15, Blk.mk [i64 c.a0, i64 (c.a1 + 1), i64 c.a2, i64 c.a3, i64 c.a4] true 5 none), (17, Blk.mk [u8 m.a0, u8 m.a1, u8 m.a2, u8 m.a3, u8 m.a4, u8 c.a0, u8 (c.a1 + 1), u8 c.a2, u8 c.a3, u8 c.a4] true 10 none)]) (by kernel_rfl) trivial ?_
        refine AWP.keep' [2, 3, 8, 9, 10, 11, 12, 14, 15, 16] [9, 15] (sf := St.mk [(2, tp (u8 inh)), (3, tp (u8 mo)), (8, tp (vb false)), (9, tp (V.ptr 9 0)), (10, tp (i64 u)), (11, tp (i64 v)), (12, tp (i64 fi)), (14, tp (i64 1)), (15, tp (V.ptr 15 0)), (16, tp (i64 i))] [(9, Blk.mk [u8 m.a0, u8 m.a1, u8 m.a2, u8 m.a3, u8 m.a4, u8 c.a0, u8 (c.a1 + 1), u8 c.a2, u8 c.a3, u8 c.a4] true 10 none), (15, Blk.mk [i64 c.a0, i64 (c.a1 + 1), i64 c.a2, i64 c.a3, i64 c.a4] true 5 none)]) (by kernel_rfl) ?_
        refine AWP.region tcok hmix [(1, ⟨some (i64 (i + 1)), none⟩)] (os := [i64 (IntKind.wrap IntKind.i64 (i + 1)) = i64 (i + 1)]) (sf := St.mk [(2, tp (u8 inh)), (3, tp (u8 mo)), (8, tp (vb false)), (9, tp (V.ptr 9 0)), (10, tp (i64 u)), (11, tp (i64 v)), (12, tp (i64 fi)), (14, tp (i64 1)), (15, tp (V.ptr 15 0)), (16, tp (i64 (i + 1))), (62, tp (i64 i)), (63, tp (i64 (i + 1)))] [(9, Blk.mk [u8 m.a0, u8 m.a1, u8 m.a2, u8 m.a3, u8 m.a4, u8 c.a0, u8 (c.a1 + 1), u8 c.a2, u8 c.a3, u8 c.a4] true 10 none), (15, Blk.mk [i64 c.a0, i64 (c.a1 + 1), i64 c.a2, i64 c.a3, i64 c.a4] true 5 none)]) (by kernel_rfl) ⟨(wr_i64 (by omega) (by omega)), trivial⟩ ?_
        refine ⟨St.mk [(2, tp (u8 inh)), (3, tp (u8 mo)), (8, tp (vb false)), (9, tp (V.ptr 9 0)), (10, tp (i64 u)), (11, tp (i64 v)), (12, tp (i64 fi)), (14, tp (i64 1)), (15, tp (V.ptr 15 0)), (16, tp (i64 (i + 1)))] [(9, Blk.mk [u8 m.a0, u8 m.a1, u8 m.a2, u8 m.a3, u8 m.a4, u8 c.a0, u8 (c.a1 + 1), u8 c.a2, u8 c.a3, u8 c.a4] true 10 none), (15, Blk.mk [i64 c.a0, i64 (c.a1 + 1), i64 c.a2, i64 c.a3, i64 c.a4] true 5 none)], by kernel_rfl, ?_⟩
        first | (exfalso; rcases hq32 with (h | h) | h <;> first | omega | (rw [g5] at h; cases h; done)) | (exfalso; simp_all; omega) | (exfalso; simp_all; done) | (exfalso; omega) | (exact ⟨(u + mo % 8 - (i + 1)).toNat, (by omega), ⟨c.a0, c.a1 + 1, c.a2, c.a3, c.a4⟩, _, i + 1, rfl, g4, (by omega), (by omega)⟩)
      simp only [decide_eq_false_iff_not] at hq29
      (exfalso; omega)
    · obtain ⟨hAk, hF⟩ := lv5_2 (t := tA5 A0 A1 A2 A3 A4 m) rfl hcb.1 hM
      rw [hv] at hF
      obtain ⟨g1, g2, g3, g4⟩ := ci_2 hC ⟨ht0, ht1, ht2, ht3, ht4⟩ hF
      have g5 : al inh 2 = true := ha2 hAk
      have g6 : (tA5 A0 A1 A2 A3 A4 m).a2 = m.a2 := tj_t hAk
      rw [g6] at g3
      rw [← hu] at g2
      have hinc : c.inc 2 = ⟨c.a0, c.a1, c.a2 + 1, c.a3, c.a4⟩ := by
        have : c.a2 < 255 := by omega
        simp [F5.inc, up8, this]
      have c1 : Con Tryd.prog 13 [] [ladV m c, .agg true [u8 fi, i64 3, u8 0], u8 inh] [] (.tup [ladV m ⟨c.a0, c.a1, c.a2 + 1, c.a3, c.a4⟩, .agg true [u8 2, i64 3, u8 0], vb true]) := by
        have := con_raise inh m c fi 3 0 2 hi hck hf0 hr ((hll c).trans hM)
        rw [hinc] at this
        exact this
      clear hF hC hM hll hci hinc
      refine AWP.seq ?_
      refine AWP.seq ?_
      refine AWP.regionT tcok hmix [(3, ⟨some (u8 (mo % 8)), none⟩), (4, ⟨some (i64 (mo % 8)), none⟩), (5, ⟨some (i64 (u + mo % 8)), none⟩)] [2, 3, 8, 9, 10, 11, 12, 14, 15, 16, 61] [9, 15] (os := [(8 : Int) ≠ (0 : Int), u8 (Int.tmod mo 8) = u8 (mo % 8), i64 (IntKind.wrap IntKind.i64 (mo % 8)) = i64 (mo % 8), i64 (IntKind.wrap IntKind.i64 (u + mo % 8)) = i64 (u + mo % 8)]) (s' := St.mk [(2, tp (u8 inh)), (3, tp (u8 mo)), (8, tp (vb false)), (9, tp (V.ptr 9 0)), (10, tp (i64 u)), (11, tp (i64 v)), (12, tp (i64 fi)), (14, tp (i64 last)), (15, tp (V.ptr 15 0)), (16, tp (i64 i)), (61, tp (vb (decide (i < u + mo % 8))))] [(9, Blk.mk [u8 m.a0, u8 m.a1, u8 m.a2, u8 m.a3, u8 m.a4, u8 c.a0, u8 c.a1, u8 c.a2, u8 c.a3, u8 c.a4] true 10 none), (15, Blk.mk [i64 c.a0, i64 c.a1, i64 c.a2, i64 c.a3, i64 c.a4] true 5 none)]) (by kernel_rfl) ⟨(by omega), (tm_ (by omega)), (wr_i64 (by omega) (by omega)), (wr_i64 (by omega) (by omega)), trivial⟩ ?_
      refine AWP.cond (b := decide (i < u + mo % 8)) (by kernel_rfl) (fun hq33 => ?_) (fun hq33 => ?_)
      · simp only [decide_eq_true_eq] at hq33
        refine AWP.skip ?_
        refine AWP.seq ?_
        refine AWP.block ?_
        refine AWP.seq ?_
        refine AWP.regionT tcok hmix [(2, ⟨some (u8 fi), none⟩), (5, ⟨none, some ⟨V.tup [ladV m (F5.mk c.a0 c.a1 (c.a2 + 1) c.a3 c.a4), V.agg true [u8 2, i64 3, u8 0], vb true], [], []⟩⟩)] [2, 3, 8, 9, 10, 11, 12, 14, 15, 16, 17, 18, 19] [9, 15, 17, 18] (os := [u8 (IntKind.wrap IntKind.u8 fi) = u8 fi, Con Tryd.prog 13 [] [V.agg true [u8 m.a0, u8 m.a1, u8 m.a2, u8 m.a3, u8 m.a4, u8 c.a0, u8 c.a1, u8 c.a2, u8 c.a3, u8 c.a4], V.agg true [u8 fi, i64 3, u8 0], u8 inh] [] (V.tup [V.agg true [u8 m.a0, u8 m.a1, u8 m.a2, u8 m.a3, u8 m.a4, u8 c.a0, u8 c.a1, u8 (c.a2 + 1), u8 c.a3, u8 c.a4], V.agg true [u8 2, i64 3, u8 0], vb true])]) (s' := St.mk [(2, tp (u8 inh)), (3, tp (u8 mo)), (8, tp (vb false)), (9, tp (V.ptr 9 0)), (10, tp (i64 u)), (11, tp (i64 v)), (12, tp (i64 fi)), (14, tp (i64 last)), (15, tp (V.ptr 15 0)), (16, tp (i64 i)), (17, tp (V.ptr 17 0)), (18, tp (V.ptr 18 0)), (19, tp (vb true))] [(9, Blk.mk [u8 m.a0, u8 m.a1, u8 m.a2, u8 m.a3, u8 m.a4, u8 c.a0, u8 c.a1, u8 c.a2, u8 c.a3, u8 c.a4] true 10 none), (15, Blk.mk [i64 c.a0, i64 c.a1, i64 c.a2, i64 c.a3, i64 c.a4] true 5 none), (17, Blk.mk [u8 m.a0, u8 m.a1, u8 m.a2, u8 m.a3, u8 m.a4, u8 c.a0, u8 c.a1, u8 (c.a2 + 1), u8 c.a3, u8 c.a4] true 10 none), (18, Blk.mk [u8 2, i64 3, u8 0] true 3 none)]) (by kernel_rfl) ⟨(wr_u8 (by omega) (by omega)), (c1 ), trivial⟩ ?_
        refine AWP.seq ?_
        refine AWP.seq ?_
        refine AWP.regionT tcok hmix [] [2, 3, 8, 9, 10, 11, 12, 14, 15, 16, 17, 18, 75] [9, 15, 17, 18] (os := []) (s' := St.mk [(2, tp (u8 inh)), (3, tp (u8 mo)), (8, tp (vb false)), (9, tp (V.ptr 9 0)), (10, tp (i64 u)), (11, tp (i64 v)), (12, tp (i64 fi)), (14, tp (i64 last)), (15, tp (V.ptr 15 0)), (16, tp (i64 i)), (17, tp (V.ptr 17 0)), (18, tp (V.ptr 18 0)), (75, tp (vb false))] [(9, Blk.mk [u8 m.a0, u8 m.a1, u8 m.a2, u8 m.a3, u8 m.a4, u8 c.a0, u8 c.a1, u8 c.a2, u8 c.a3, u8 c.a4] true 10 none), (15, Blk.mk [i64 c.a0, i64 c.a1, i64 c.a2, i64 c.a3, i64 c.a4] true 5 none), (17, Blk.mk [u8 m.a0, u8 m.a1, u8 m.a2, u8 m.a3, u8 m.a4, u8 c.a0, u8 c.a1, u8 (c.a2 + 1), u8 c.a3, u8 c.a4] true 10 none), (18, Blk.mk [u8 2, i64 3, u8 0] true 3 none)]) (by kernel_rfl) trivial ?_
        refine AWP.cond (b := false) (by kernel_rfl) (fun h => by cases h) (fun _ => ?_)
        refine AWP.skip ?_
        refine AWP.seq ?_
        refine AWP.regionT tcok hmix [] [2, 3, 8, 9, 10, 11, 12, 14, 15, 16, 17, 20] [9, 15, 17] (os := []) (s' := St.mk [(2, tp (u8 inh)), (3, tp (u8 mo)), (8, tp (vb false)), (9, tp (V.ptr 9 0)), (10, tp (i64 u)), (11, tp (i64 v)), (12, tp (i64 fi)), (14, tp (i64 last)), (15, tp (V.ptr 15 0)), (16, tp (i64 i)), (17, tp (V.ptr 17 0)), (20, tp (i64 2))] [(9, Blk.mk [u8 m.a0, u8 m.a1, u8 m.a2, u8 m.a3, u8 m.a4, u8 c.a0, u8 c.a1, u8 c.a2, u8 c.a3, u8 c.a4] true 10 none), (15, Blk.mk [i64 c.a0, i64 c.a1, i64 c.a2, i64 c.a3, i64 c.a4] true 5 none), (17, Blk.mk [u8 m.a0, u8 m.a1, u8 m.a2, u8 m.a3, u8 m.a4, u8 c.a0, u8 c.a1, u8 (c.a2 + 1), u8 c.a3, u8 c.a4] true 10 none)]) (by kernel_rfl) trivial ?_
        refine AWP.seq ?_
        refine AWP.seq ?_
        refine AWP.regionT tcok hmix [(6, ⟨none, some ⟨vb (al inh 2), [], []⟩⟩)] [2, 3, 8, 9, 10, 11, 12, 14, 15, 16, 17, 20, 103] [9, 15, 17] (os := [decide ((2 : Int) < last) = false → Con Tryd.prog (12 : Nat) [] [u8 inh, i64 (2 : Int)] [] (vb (al inh (2 : Int))) ∧ True]) (s' := St.mk [(2, tp (u8 inh)), (3, tp (u8 mo)), (8, tp (vb false)), (9, tp (V.ptr 9 0)), (10, tp (i64 u)), (11, tp (i64 v)), (12, tp (i64 fi)), (14, tp (i64 last)), (15, tp (V.ptr 15 0)), (16, tp (i64 i)), (17, tp (V.ptr 17 0)), (20, tp (i64 2)), (103, tp (vb (decide (2 < last) || !al inh 2 || decide (i ≥ u) && 2 != v)))] [(9, Blk.mk [u8 m.a0, u8 m.a1, u8 m.a2, u8 m.a3, u8 m.a4, u8 c.a0, u8 c.a1, u8 c.a2, u8 c.a3, u8 c.a4] true 10 none), (15, Blk.mk [i64 c.a0, i64 c.a1, i64 c.a2, i64 c.a3, i64 c.a4] true 5 none), (17, Blk.mk [u8 m.a0, u8 m.a1, u8 m.a2, u8 m.a3, u8 m.a4, u8 c.a0, u8 c.a1, u8 (c.a2 + 1), u8 c.a3, u8 c.a4] true 10 none)]) (by kernel_rfl) ⟨(by intro hc0; first | (cases hc0; done) | (try simp only [Bool.or_false, Bool.false_or, Bool.true_and, Bool.and_true, decide_eq_true_eq, decide_eq_false_iff_not, Bool.and_eq_true, Bool.or_eq_true, Bool.or_eq_false_iff, Bool.not_eq_true', Bool.and_eq_false_iff, beq_iff_eq, bne_iff_ne, bne_eq_false_iff_eq, beq_eq_false_iff_ne, Bool.not_eq_false'] at hc0; exact ⟨(con_rallowed (inh) (2) (by assumption) (by omega)), trivial⟩)), trivial⟩ ?_
        refine AWP.cond (b := decide (2 < last) || !al inh 2 || decide (i ≥ u) && 2 != v) (by kernel_rfl) (fun hq35 => ?_) (fun hq35 => ?_)
        · simp only [decide_eq_true_eq, Bool.and_eq_true, Bool.or_eq_true, Bool.not_eq_true', bne_iff_ne] at hq35
          refine AWP.seq ?_
          refine AWP.regionT tcok hmix [] [2, 3, 8, 9, 10, 11, 12, 14, 15, 16, 17, 20] [9, 15, 17] (os := []) (s' := St.mk [(2, tp (u8 inh)), (3, tp (u8 mo)), (8, tp (vb false)), (9, tp (V.ptr 9 0)), (10, tp (i64 u)), (11, tp (i64 v)), (12, tp (i64 fi)), (14, tp (i64 last)), (15, tp (V.ptr 15 0)), (16, tp (i64 i)), (17, tp (V.ptr 17 0)), (20, tp (i64 2))] [(9, Blk.mk [u8 m.a0, u8 m.a1, u8 m.a2, u8 m.a3, u8 m.a4, u8 c.a0, u8 c.a1, u8 c.a2, u8 c.a3, u8 c.a4] true 10 none), (15, Blk.mk [i64 c.a0, i64 c.a1, i64 c.a2, i64 c.a3, i64 c.a4] true 5 none), (17, Blk.mk [u8 m.a0, u8 m.a1, u8 m.a2, u8 m.a3, u8 m.a4, u8 c.a0, u8 c.a1, u8 (c.a2 + 1), u8 c.a3, u8 c.a4] true 10 none)]) (by kernel_rfl) trivial ?_
          refine AWP.ret ?_
          refine ⟨Or.inr rfl, Eq.trans (b := some ([], vb false)) (by kernel_rfl) ?_⟩
          first | (exfalso; rcases hq35 with (h | h) | h <;> first | omega | (rw [g5] at h; cases h; done)) | (exfalso; simp_all; omega) | (exfalso; simp_all; done) | (exfalso; omega) | (exact ⟨(u + mo % 8 - (i + 1)).toNat, (by omega), ⟨c.a0, c.a1, c.a2 + 1, c.a3, c.a4⟩, _, i + 1, rfl, g4, (by omega), (by omega)⟩)
        simp only [decide_eq_false_iff_not, Bool.or_eq_false_iff, Bool.and_eq_false_iff, bne_eq_false_iff_eq, Bool.not_eq_false'] at hq35
        refine AWP.skip ?_
        refine AWP.seq ?_
        refine AWP.regionT tcok hmix [(3, ⟨some (i64 (c.a2 + 1)), none⟩)] [2, 3, 8, 9, 10, 11, 12, 14, 15, 16, 17, 20] [9, 15, 17] (os := [i64 (IntKind.wrap IntKind.i64 (c.a2 + 1)) = i64 (c.a2 + 1)]) (s' := St.mk [(2, tp (u8 inh)), (3, tp (u8 mo)), (8, tp (vb false)), (9, tp (V.ptr 9 0)), (10, tp (i64 u)), (11, tp (i64 v)), (12, tp (i64 fi)), (14, tp (i64 last)), (15, tp (V.ptr 15 0)), (16, tp (i64 i)), (17, tp (V.ptr 17 0)), (20, tp (i64 2))] [(9, Blk.mk [u8 m.a0, u8 m.a1, u8 m.a2, u8 m.a3, u8 m.a4, u8 c.a0, u8 c.a1, u8 c.a2, u8 c.a3, u8 c.a4] true 10 none), (15, Blk.mk [i64 c.a0, i64 c.a1, i64 (c.a2 + 1), i64 c.a3, i64 c.a4] true 5 none), (17, Blk.mk [u8 m.a0, u8 m.a1, u8 m.a2, u8 m.a3, u8 m.a4, u8 c.a0, u8 c.a1, u8 (c.a2 + 1), u8 c.a3, u8 c.a4] true 10 none)]) (by kernel_rfl) ⟨(wr_i64 (by omega) (by omega)), trivial⟩ ?_
        refine AWP.seq ?_
        refine AWP.seq ?_
        refine AWP.regionT tcok hmix [(11, ⟨some (i64 m.a2), none⟩)] [2, 3, 8, 9, 10, 11, 12, 14, 15, 16, 17, 20, 122] [9, 15, 17] (os := [((2 : Int) != v) = true → i64 (IntKind.wrap IntKind.i64 m.a2) = i64 m.a2 ∧ True]) (s' := St.mk [(2, tp (u8 inh)), (3, tp (u8 mo)), (8, tp (vb false)), (9, tp (V.ptr 9 0)), (10, tp (i64 u)), (11, tp (i64 v)), (12, tp (i64 fi)), (14, tp (i64 last)), (15, tp (V.ptr 15 0)), (16, tp (i64 i)), (17, tp (V.ptr 17 0)), (20, tp (i64 2)), (122, tp (vb (2 != v && decide (c.a2 + 1 > m.a2))))] [(9, Blk.mk [u8 m.a0, u8 m.a1, u8 m.a2, u8 m.a3, u8 m.a4, u8 c.a0, u8 c.a1, u8 c.a2, u8 c.a3, u8 c.a4] true 10 none), (15, Blk.mk [i64 c.a0, i64 c.a1, i64 (c.a2 + 1), i64 c.a3, i64 c.a4] true 5 none), (17, Blk.mk [u8 m.a0, u8 m.a1, u8 m.a2, u8 m.a3, u8 m.a4, u8 c.a0, u8 c.a1, u8 (c.a2 + 1), u8 c.a3, u8 c.a4] true 10 none)]) (by kernel_rfl) ⟨(by intro hc0; first | (cases hc0; done) | (try simp only [Bool.or_false, Bool.false_or, Bool.true_and, Bool.and_true, decide_eq_true_eq, decide_eq_false_iff_not, Bool.and_eq_true, Bool.or_eq_true, Bool.or_eq_false_iff, Bool.not_eq_true', Bool.and_eq_false_iff, beq_iff_eq, bne_iff_ne, bne_eq_false_iff_eq, beq_eq_false_iff_ne, Bool.not_eq_false'] at hc0; exact ⟨(wr_i64 (by omega) (by omega)), trivial⟩)), trivial⟩ ?_
        refine AWP.cond (b := 2 != v && decide (c.a2 + 1 > m.a2)) (by kernel_rfl) (fun hq36 => ?_) (fun hq36 => ?_)
        · simp only [decide_eq_true_eq, Bool.and_eq_true, bne_iff_ne] at hq36
          (exfalso; omega)
        simp only [decide_eq_false_iff_not, Bool.and_eq_false_iff, bne_eq_false_iff_eq] at hq36
        refine AWP.skip ?_
        refine AWP.region tcok hmix [] (os := []) (sf := St.mk [(2, tp (u8 inh)), (3, tp (u8 mo)), (8, tp (vb false)), (9, tp (V.ptr 9 0)), (10, tp (i64 u)), (11, tp (i64 v)), (12, tp (i64 fi)), (14, tp (i64 2)), (15, tp (V.ptr 15 0)), (16, tp (i64 i)), (17, tp (V.ptr 17 0)), (20, tp (i64 2)), (122, tp (vb (2 != v && decide (c.a2 + 1 > m.a2)))), (123, tp (i64 2)), (124, tp (V.agg true [u8 m.a0, u8 m.a1, u8 m.a2, u8 m.a3, u8 m.a4, u8 c.a0, u8 c.a1, u8 (c.a2 + 1), u8 c.a3, u8 c.a4]))] [(9, Blk.mk [u8 m.a0, u8 m.a1, u8 m.a2, u8 m.a3, u8 m.a4, u8 c.a0, u8 c.a1, u8 (c.a2 + 1), u8 c.a3, u8 c.a4] true 10 none), (15, Blk.mk [i64 c.a0, i64 c.a1, i64 (c.a2 + 1), i64 c.a3, i64 c.a4] true 5 none), (17, Blk.mk [u8 m.a0, u8 m.a1, u8 m.a2, u8 m.a3, u8 m.a4, u8 c.a0, u8 c.a1, u8 (c.a2 + 1), u8 c.a3, u8 c.a4] true 10 none)]) (by kernel_rfl) trivial ?_
        refine AWP.keep' [2, 3, 8, 9, 10, 11, 12, 14, 15, 16] [9, 15] (sf := St.mk [(2, tp (u8 inh)), (3, tp (u8 mo)), (8, tp (vb false)), (9, tp (V.ptr 9 0)), (10, tp (i64 u)), (11, tp (i64 v)), (12, tp (i64 fi)), (14, tp (i64 2)), (15, tp (V.ptr 15 0)), (16, tp (i64 i))] [(9, Blk.mk [u8 m.a0, u8 m.a1, u8 m.a2, u8 m.a3, u8 m.a4, u8 c.a0, u8 c.a1, u8 (c.a2 + 1), u8 c.a3, u8 c.a4] true 10 none), (15, Blk.mk [i64 c.a0, i64 c.a1, i64 (c.a2 + 1), i64 c.a3, i64 c.a4] true 5 none)]) (by kernel_rfl) ?_
        refine AWP.region tcok hmix [(1, ⟨some (i64 (i + 1)), none⟩)] (os := [i64 (IntKind.wrap IntKind.i64 (i + 1)) = i64 (i + 1)]) (sf := St.mk [(2, tp (u8 inh)), (3, tp (u8 mo)), (8, tp (vb false)), (9, tp (V.ptr 9 0)), (10, tp (i64 u)), (11, tp (i64 v)), (12, tp (i64 fi)), (14, tp (i64 2)), (15, tp (V.ptr 15 0)), (16, tp (i64 (i + 1))), (62, tp (i64 i)), (63, tp (i64 (i + 1)))] [(9, Blk.mk [u8 m.a0, u8 m.a1, u8 m.a2, u8 m.a3, u8 m.a4, u8 c.a0, u8 c.a1, u8 (c.a2 + 1), u8 c.a3, u8 c.a4] true 10 none), (15, Blk.mk [i64 c.a0, i64 c.a1, i64 (c.a2 + 1), i64 c.a3, i64 c.a4] true 5 none)]) (by kernel_rfl) ⟨(wr_i64 (by omega) (by omega)), trivial⟩ ?_
        refine ⟨St.mk [(2, tp (u8 inh)), (3, tp (u8 mo)), (8, tp (vb false)), (9, tp (V.ptr 9 0)), (10, tp (i64 u)), (11, tp (i64 v)), (12, tp (i64 fi)), (14, tp (i64 2)), (15, tp (V.ptr 15 0)), (16, tp (i64 (i + 1)))] [(9, Blk.mk [u8 m.a0, u8 m.a1, u8 m.a2, u8 m.a3, u8 m.a4, u8 c.a0, u8 c.a1, u8 (c.a2 + 1), u8 c.a3, u8 c.a4] true 10 none), (15, Blk.mk [i64 c.a0, i64 c.a1, i64 (c.a2 + 1), i64 c.a3, i64 c.a4] true 5 none)], by kernel_rfl, ?_⟩
        first | (exfalso; rcases hq36 with (h | h) | h <;> first | omega | (rw [g5] at h; cases h; done)) | (exfalso; simp_all; omega) | (exfalso; simp_all; done) | (exfalso; omega) | (exact ⟨(u + mo % 8 - (i + 1)).toNat, (by omega), ⟨c.a0, c.a1, c.a2 + 1, c.a3, c.a4⟩, _, i + 1, rfl, g4, (by omega), (by omega)⟩)
      simp only [decide_eq_false_iff_not] at hq33
      (exfalso; omega)
    · obtain ⟨hAk, hF⟩ := lv5_3 (t := tA5 A0 A1 A2 A3 A4 m) rfl hcb.1 hM
      rw [hv] at hF
      obtain ⟨g1, g2, g3, g4⟩ := ci_3 hC ⟨ht0, ht1, ht2, ht3, ht4⟩ hF
      have g5 : al inh 3 = true := ha3 hAk
      have g6 : (tA5 A0 A1 A2 A3 A4 m).a3 = m.a3 := tj_t hAk
      rw [g6] at g3
      rw [← hu] at g2
      have hinc : c.inc 3 = ⟨c.a0, c.a1, c.a2, c.a3 + 1, c.a4⟩ := by
        have : c.a3 < 255 := by omega
        simp [F5.inc, up8, this]
      have c1 : Con Tryd.prog 13 [] [ladV m c, .agg true [u8 fi, i64 3, u8 0], u8 inh] [] (.tup [ladV m ⟨c.a0, c.a1, c.a2, c.a3 + 1, c.a4⟩, .agg true [u8 3, i64 3, u8 0], vb true]) := by
        have := con_raise inh m c fi 3 0 3 hi hck hf0 hr ((hll c).trans hM)
        rw [hinc] at this
        exact this
      clear hF hC hM hll hci hinc
      refine AWP.seq ?_
      refine AWP.seq ?_
      refine AWP.regionT tcok hmix [(3, ⟨some (u8 (mo % 8)), none⟩), (4, ⟨some (i64 (mo % 8)), none⟩), (5, ⟨some (i64 (u + mo % 8)), none⟩)] [2, 3, 8, 9, 10, 11, 12, 14, 15, 16, 61] [9, 15] (os := [(8 : Int) ≠ (0 : Int), u8 (Int.tmod mo 8) = u8 (mo % 8), i64 (IntKind.wrap IntKind.i64 (mo % 8)) = i64 (mo % 8), i64 (IntKind.wrap IntKind.i64 (u + mo % 8)) = i64 (u + mo % 8)]) (s' := St.mk [(2, tp (u8 inh)), (3, tp (u8 mo)), (8, tp (vb false)), (9, tp (V.ptr 9 0)), (10, tp (i64 u)), (11, tp (i64 v)), (12, tp (i64 fi)), (14, tp (i64 last)), (15, tp (V.ptr 15 0)), (16, tp (i64 i)), (61, tp (vb (decide (i < u + mo % 8))))] [(9, Blk.mk [u8 m.a0, u8 m.a1, u8 m.a2, u8 m.a3, u8 m.a4, u8 c.a0, u8 c.a1, u8 c.a2, u8 c.a3, u8 c.a4] true 10 none), (15, Blk.mk [i64 c.a0, i64 c.a1, i64 c.a2, i64 c.a3, i64 c.a4] true 5 none)]) (by kernel_rfl) ⟨(by omega), (tm_ (by omega)), (wr_i64 (by omega) (by omega)), (wr_i64 (by omega) (by omega)), trivial⟩ ?_
      refine AWP.cond (b := decide (i < u + mo % 8)) (by kernel_rfl) (fun hq37 => ?_) (fun hq37 => ?_)
      · simp only [decide_eq_true_eq] at hq37
        refine AWP.skip ?_
        refine AWP.seq ?_
        refine AWP.block ?_
        refine AWP.seq ?_
        refine AWP.regionT tcok hmix [(2, ⟨some (u8 fi), none⟩), (5, ⟨none, some ⟨V.tup [ladV m (F5.mk c.a0 c.a1 c.a2 (c.a3 + 1) c.a4), V.agg true [u8 3, i64 3, u8 0], vb true], [], []⟩⟩)] [2, 3, 8, 9, 10, 11, 12, 14, 15, 16, 17, 18, 19] [9, 15, 17, 18] (os := [u8 (IntKind.wrap IntKind.u8 fi) = u8 fi, Con Tryd.prog 13 [] [V.agg true [u8 m.a0, u8 m.a1, u8 m.a2, u8 m.a3, u8 m.a4, u8 c.a0, u8 c.a1, u8 c.a2, u8 c.a3, u8 c.a4], V.agg true [u8 fi, i64 3, u8 0], u8 inh] [] (V.tup [V.agg true [u8 m.a0, u8 m.a1, u8 m.a2, u8 m.a3, u8 m.a4, u8 c.a0, u8 c.a1, u8 c.a2, u8 (c.a3 + 1), u8 c.a4], V.agg true [u8 3, i64 3, u8 0], vb true])]) (s' := St.mk [(2, tp (u8 inh)), (3, tp (u8 mo)), (8, tp (vb false)), (9, tp (V.ptr 9 0)), (10, tp (i64 u)), (11, tp (i64 v)), (12, tp (i64 fi)), (14, tp (i64 last)), (15, tp (V.ptr 15 0)), (16, tp (i64 i)), (17, tp (V.ptr 17 0)), (18, tp (V.ptr 18 0)), (19, tp (vb true))] [(9, Blk.mk [u8 m.a0, u8 m.a1, u8 m.a2, u8 m.a3, u8 m.a4, u8 c.a0, u8 c.a1, u8 c.a2, u8 c.a3, u8 c.a4] true 10 none), (15, Blk.mk [i64 c.a0, i64 c.a1, i64 c.a2, i64 c.a3, i64 c.a4] true 5 none), (17, Blk.mk [u8 m.a0, u8 m.a1, u8 m.a2, u8 m.a3, u8 m.a4, u8 c.a0, u8 c.a1, u8 c.a2, u8 (c.a3 + 1), u8 c.a4] true 10 none), (18, Blk.mk [u8 3, i64 3, u8 0] true 3 none)]) (by kernel_rfl) ⟨(wr_u8 (by omega) (by omega)), (c1 ), trivial⟩ ?_
        refine AWP.seq ?_
        refine AWP.seq ?_
        refine AWP.regionT tcok hmix [] [2, 3, 8, 9, 10, 11, 12, 14, 15, 16, 17, 18, 75] [9, 15, 17, 18] (os := []) (s' := St.mk [(2, tp (u8 inh)), (3, tp (u8 mo)), (8, tp (vb false)), (9, tp (V.ptr 9 0)), (10, tp (i64 u)), (11, tp (i64 v)), (12, tp (i64 fi)), (14, tp (i64 last)), (15, tp (V.ptr 15 0)), (16, tp (i64 i)), (17, tp (V.ptr 17 0)), (18, tp (V.ptr 18 0)), (75, tp (vb false))] [(9, Blk.mk [u8 m.a0, u8 m.a1, u8 m.a2, u8 m.a3, u8 m.a4, u8 c.a0, u8 c.a1, u8 c.a2, u8 c.a3, u8 c.a4] true 10 none), (15, Blk.mk [i64 c.a0, i64 c.a1, i64 c.a2, i64 c.a3, i64 c.a4] true 5 none), (17, Blk.mk [u8 m.a0, u8 m.a1, u8 m.a2, u8 m.a3, u8 m.a4, u8 c.a0, u8 c.a1, u8 c.a2, u8 (c.a3 + 1), u8 c.a4] true 10 none), (18, Blk.mk [u8 3, i64 3, u8 0] true 3 none)]) (by kernel_rfl) trivial ?_
        refine AWP.cond (b := false) (by kernel_rfl) (fun h => by cases h) (fun _ => ?_)
        refine AWP.skip ?_
        refine AWP.seq ?_
        refine AWP.regionT tcok hmix [] [2, 3, 8, 9, 10, 11, 12, 14, 15, 16, 17, 20] [9, 15, 17] (os := []) (s' := St.mk [(2, tp (u8 inh)), (3, tp (u8 mo)), (8, tp (vb false)), (9, tp (V.ptr 9 0)), (10, tp (i64 u)), (11, tp (i64 v)), (12, tp (i64 fi)), (14, tp (i64 last)), (15, tp (V.ptr 15 0)), (16, tp (i64 i)), (17, tp (V.ptr 17 0)), (20, tp (i64 3))] [(9, Blk.mk [u8 m.a0, u8 m.a1, u8 m.a2, u8 m.a3, u8 m.a4, u8 c.a0, u8 c.a1, u8 c.a2, u8 c.a3, u8 c.a4] true 10 none), (15, Blk.mk [i64 c.a0, i64 c.a1, i64 c.a2, i64 c.a3, i64 c.a4] true 5 none), (17, Blk.mk [u8 m.a0, u8 m.a1, u8 m.a2, u8 m.a3, u8 m.a4, u8 c.a0, u8 c.a1, u8 c.a2, u8 (c.a3 + 1), u8 c.a4] true 10 none)]) (by kernel_rfl) trivial ?_
        refine AWP.seq ?_
        refine AWP.seq ?_
        refine AWP.regionT tcok hmix [(6, ⟨none, some ⟨vb (al inh 3), [], []⟩⟩)] [2, 3, 8, 9, 10, 11, 12, 14, 15, 16, 17, 20, 103] [9, 15, 17] (os := [decide ((3 : Int) < last) = false → Con Tryd.prog (12 : Nat) [] [u8 inh, i64 (3 : Int)] [] (vb (al inh (3 : Int))) ∧ True]) (s' := St.mk [(2, tp (u8 inh)), (3, tp (u8 mo)), (8, tp (vb false)), (9, tp (V.ptr 9 0)), (10, tp (i64 u)), (11, tp (i64 v)), (12, tp (i64 fi)), (14, tp (i64 last)), (15, tp (V.ptr 15 0)), (16, tp (i64 i)), (17, tp (V.ptr 17 0)), (20, tp (i64 3)), (103, tp (vb (decide (3 < last) || !al inh 3 || decide (i ≥ u) && 3 != v)))] [(9, Blk.mk [u8 m.a0, u8 m.a1, u8 m.a2, u8 m.a3, u8 m.a4, u8 c.a0, u8 c.a1, u8 c.a2, u8 c.a3, u8 c.a4] true 10 none), (15, Blk.mk [i64 c.a0, i64 c.a1, i64 c.a2, i64 c.a3, i64 c.a4] true 5 none), (17, Blk.mk [u8 m.a0, u8 m.a1, u8 m.a2, u8 m.a3, u8 m.a4, u8 c.a0, u8 c.a1, u8 c.a2, u8 (c.a3 + 1), u8 c.a4] true 10 none)]) (by kernel_rfl) ⟨(by intro hc0; first | (cases hc0; done) | (try simp only [Bool.or_false, Bool.false_or, Bool.true_and, Bool.and_true, decide_eq_true_eq, decide_eq_false_iff_not, Bool.and_eq_true, Bool.or_eq_true, Bool.or_eq_false_iff, Bool.not_eq_true', Bool.and_eq_false_iff, beq_iff_eq, bne_iff_ne, bne_eq_false_iff_eq, beq_eq_false_iff_ne, Bool.not_eq_false'] at hc0; exact ⟨(con_rallowed (inh) (3) (by assumption) (by omega)), trivial⟩)), trivial⟩ ?_
        refine AWP.cond (b := decide (3 < last) || !al inh 3 || decide (i ≥ u) && 3 != v) (by kernel_rfl) (fun hq39 => ?_) (fun hq39 => ?_)
        · simp only [decide_eq_true_eq, Bool.and_eq_true, Bool.or_eq_true, Bool.not_eq_true', bne_iff_ne] at hq39
          refine AWP.seq ?_
          refine AWP.regionT tcok hmix [] [2, 3, 8, 9, 10, 11, 12, 14, 15, 16, 17, 20] [9, 15, 17] (os := []) (s' := St.mk [(2, tp (u8 inh)), (3, tp (u8 mo)), (8, tp (vb false)), (9, tp (V.ptr 9 0)), (10, tp (i64 u)), (11, tp (i64 v)), (12, tp (i64 fi)), (14, tp (i64 last)), (15, tp (V.ptr 15 0)), (16, tp (i64 i)), (17, tp (V.ptr 17 0)), (20, tp (i64 3))] [(9, Blk.mk [u8 m.a0, u8 m.a1, u8 m.a2, u8 m.a3, u8 m.a4, u8 c.a0, u8 c.a1, u8 c.a2, u8 c.a3, u8 c.a4] true 10 none), (15, Blk.mk [i64 c.a0, i64 c.a1, i64 c.a2, i64 c.a3, i64 c.a4] true 5 none), (17, Blk.mk [u8 m.a0, u8 m.a1, u8 m.a2, u8 m.a3, u8 m.a4, u8 c.a0, u8 c.a1, u8 c.a2, u8 (c.a3 + 1), u8 c.a4] true 10 none)]) (by kernel_rfl) trivial ?_
          refine AWP.ret ?_
          refine ⟨Or.inr rfl, Eq.trans (b := some ([], vb false)) (by kernel_rfl) ?_⟩
          first | (exfalso; rcases hq39 with (h | h) | h <;> first | omega | (rw [g5] at h; cases h; done)) | (exfalso; simp_all; omega) | (exfalso; simp_all; done) | (exfalso; omega) | (exact ⟨(u + mo % 8 - (i + 1)).toNat, (by omega), ⟨c.a0, c.a1, c.a2, c.a3 + 1, c.a4⟩, _, i + 1, rfl, g4, (by omega), (by omega)⟩)
        simp only [decide_eq_false_iff_not, Bool.or_eq_false_iff, Bool.and_eq_false_iff, bne_eq_false_iff_eq, Bool.not_eq_false'] at hq39
        refine AWP.skip ?_
        refine AWP.seq ?_
        refine AWP.regionT tcok hmix [(3, ⟨some (i64 (c.a3 + 1)), none⟩)] [2, 3, 8, 9, 10, 11, 12, 14, 15, 16, 17, 20] [9, 15, 17] (os := [i64 (IntKind.wrap IntKind.i64 (c.a3 + 1)) = i64 (c.a3 + 1)]) (s' := St.mk [(2, tp (u8 inh)), (3, tp (u8 mo)), (8, tp (vb false)), (9, tp (V.ptr 9 0)), (10, tp (i64 u)), (11, tp (i64 v)), (12, tp (i64 fi)), (14, tp (i64 last)), (15, tp (V.ptr 15 0)), (16, tp (i64 i)), (17, tp (V.ptr 17 0)), (20, tp (i64 3))] [(9, Blk.mk [u8 m.a0, u8 m.a1, u8 m.a2, u8 m.a3, u8 m.a4, u8 c.a0, u8 c.a1, u8 c.a2, u8 c.a3, u8 c.a4] true 10 none), (15, Blk.mk [i64 c.a0, i64 c.a1, i64 c.a2, i64 (c.a3 + 1), i64 c.a4] true 5 none), (17, Blk.mk [u8 m.a0, u8 m.a1, u8 m.a2, u8 m.a3, u8 m.a4, u8 c.a0, u8 c.a1, u8 c.a2, u8 (c.a3 + 1), u8 c.a4] true 10 none)]) (by kernel_rfl) ⟨(wr_i64 (by omega) (by omega)), trivial⟩ ?_
        refine AWP.seq ?_
        refine AWP.seq ?_
        refine AWP.regionT tcok hmix [(11, ⟨some (i64 m.a3), none⟩)] [2, 3, 8, 9, 10, 11, 12, 14, 15, 16, 17, 20, 122] [9, 15, 17] (os := [((3 : Int) != v) = true → i64 (IntKind.wrap IntKind.i64 m.a3) = i64 m.a3 ∧ True]) (s' := St.mk [(2, tp (u8 inh)), (3, tp (u8 mo)), (8, tp (vb false)), (9, tp (V.ptr 9 0)), (10, tp (i64 u)), (11, tp (i64 v)), (12, tp (i64 fi)), (14, tp (i64 last)), (15, tp (V.ptr 15 0)), (16, tp (i64 i)), (17, tp (V.ptr 17 0)), (20, tp (i64 3)), (122, tp (vb (3 != v && decide (c.a3 + 1 > m.a3))))] [(9, Blk.mk [u8 m.a0, u8 m.a1, u8 m.a2, u8 m.a3, u8 m.a4, u8 c.a0, u8 c.a1, u8 c.a2, u8 c.a3, u8 c.a4] true 10 none), (15, Blk.mk [i64 c.a0, i64 c.a1, i64 c.a2, i64 (c.a3 + 1), i64 c.a4] true 5 none), (17, Blk.mk [u8 m.a0, u8 m.a1, u8 m.a2, u8 m.a3, u8 m.a4, u8 c.a0, u8 c.a1, u8 c.a2, u8 (c.a3 + 1), u8 c.a4] true 10 none)]) (by kernel_rfl) ⟨(by intro hc0; first | (cases hc0; done) | (try simp only [Bool.or_false, Bool.false_or, Bool.true_and, Bool.and_true, decide_eq_true_eq, decide_eq_false_iff_not, Bool.and_eq_true, Bool.or_eq_true, Bool.or_eq_false_iff, Bool.not_eq_true', Bool.and_eq_false_iff, beq_iff_eq, bne_iff_ne, bne_eq_false_iff_eq, beq_eq_false_iff_ne, Bool.not_eq_false'] at hc0; exact ⟨(wr_i64 (by omega) (by omega)), trivial⟩)), trivial⟩ ?_
        refine AWP.cond (b := 3 != v && decide (c.a3 + 1 > m.a3)) (by kernel_rfl) (fun hq40 => ?_) (fun hq40 => ?_)
        · simp only [decide_eq_true_eq, Bool.and_eq_true, bne_iff_ne] at hq40
          (exfalso; omega)
        simp only [decide_eq_false_iff_not, Bool.and_eq_false_iff, bne_eq_false_iff_eq] at hq40
        refine AWP.skip ?_
        refine AWP.region tcok hmix [] (os := []) (sf := St.mk [(2, tp (u8 inh)), (3, tp (u8 mo)), (8, tp (vb false)), (9, tp (V.ptr 9 0)), (10, tp (i64 u)), (11, tp (i64 v)), (12, tp (i64 fi)), (14, tp (i64 3)), (15, tp (V.ptr 15 0)), (16, tp (i64 i)), (17, tp (V.ptr 17 0)), (20, tp (i64 3)), (122, tp (vb (3 != v && decide (c.a3 + 1 > m.a3)))), (123, tp (i64 3)), (124, tp (V.agg true [u8 m.a0, u8 m.a1, u8 m.a2, u8 m.a3, u8 m.a4, u8 c.a0, u8 c.a1, u8 c.a2, u8 (c.a3 + 1), u8 c.a4]))] [(9, Blk.mk [u8 m.a0, u8 m.a1, u8 m.a2, u8 m.a3, u8 m.a4, u8 c.a0, u8 c.a1, u8 c.a2, u8 (c.a3 + 1), u8 c.a4] true 10 none), (15, Blk.mk [i64 c.a0, i64 c.a1, i64 c.a2, i64 (c.a3 + 1), i64 c.a4] true 5 none), (17, Blk.mk [u8 m.a0, u8 m.a1, u8 m.a2, u8 m.a3, u8 m.a4, u8 c.a0, u8 c.a1, u8 c.a2, u8 (c.a3 + 1), u8 c.a4] true 10 none)]) (by kernel_rfl) trivial ?_
        refine AWP.keep' [2, 3, 8, 9, 10, 11, 12, 14, 15, 16] [9, 15] (sf := St.mk [(2, tp (u8 inh)), (3, tp (u8 mo)), (8, tp (vb false)), (9, tp (V.ptr 9 0)), (10, tp (i64 u)), (11, tp (i64 v)), (12, tp (i64 fi)), (14, tp (i64 3)), (15, tp (V.ptr 15 0)), (16, tp (i64 i))] [(9, Blk.mk [u8 m.a0, u8 m.a1, u8 m.a2, u8 m.a3, u8 m.a4, u8 c.a0, u8 c.a1, u8 c.a2, u8 (c.a3 + 1), u8 c.a4] true 10 none), (15, Blk.mk [i64 c.a0, i64 c.a1, i64 c.a2, i64 (c.a3 + 1), i64 c.a4] true 5 none)]) (by kernel_rfl) ?_
        refine AWP.region tcok hmix [(1, ⟨some (i64 (i + 1)), none⟩)] (os := [i64 (IntKind.wrap IntKind.i64 (i + 1)) = i64 (i + 1)]) (sf := St.mk [(2, tp (u8 inh)), (3, tp (u8 mo)), (8, tp (vb false)), (9, tp (V.ptr 9 0)), (10, tp (i64 u)), (11, tp (i64 v)), (12, tp (i64 fi)), (14, tp (i64 3)), (15, tp (V.ptr 15 0)), (16, tp (i64 (i + 1))), (62, tp (i64 i)), (63, tp (i64 (i + 1)))] [(9, Blk.mk [u8 m.a0, u8 m.a1, u8 m.a2, u8 m.a3, u8 m.a4, u8 c.a0, u8 c.a1, u8 c.a2, u8 (c.a3 + 1), u8 c.a4] true 10 none), (15, Blk.mk [i64 c.a0, i64 c.a1, i64 c.a2, i64 (c.a3 + 1), i64 c.a4] true 5 none)]) (by kernel_rfl) ⟨(wr_i64 (by omega) (by omega)), trivial⟩ ?_
        refine ⟨St.mk [(2, tp (u8 inh)), (3, tp (u8 mo)), (8, tp (vb false)), (9, tp (V.ptr 9 0)), (10, tp (i64 u)), (11, tp (i64 v)), (12, tp (i64 fi)), (14, tp (i64 3)), (15, tp (V.ptr 15 0)), (16, tp (i64 (i + 1)))] [(9, Blk.mk [u8 m.a0, u8 m.a1, u8 m.a2, u8 m.a3, u8 m.a4, u8 c.a0, u8 c.a1, u8 c.a2, u8 (c.a3 + 1), u8 c.a4] true 10 none), (15, Blk.mk [i64 c.a0, i64 c.a1, i64 c.a2, i64 (c.a3 + 1), i64 c.a4] true 5 none)], by kernel_rfl, ?_⟩
        first | (exfalso; rcases hq40 with (h | h) | h <;> first | omega | (rw [g5] at h; cases h; done)) | (exfalso; simp_all; omega) | (exfalso; simp_all; done) | (exfalso; omega) | (exact ⟨(u + mo % 8 - (i + 1)).toNat, (by omega), ⟨c.a0, c.a1, c.a2, c.a3 + 1, c.a4⟩, _, i + 1, rfl, g4, (by omega), (by omega)⟩)
      simp only [decide_eq_false_iff_not] at hq37
      (exfalso; omega)
    · obtain ⟨hAk, hF⟩ := lv5_4 (t := tA5 A0 A1 A2 A3 A4 m) rfl hcb.1 hM
      rw [hv] at hF
      obtain ⟨g1, g2, g3, g4⟩ := ci_4 hC ⟨ht0, ht1, ht2, ht3, ht4⟩ hF
      have g5 : al inh 4 = true := ha4 hAk
      have g6 : (tA5 A0 A1 A2 A3 A4 m).a4 = m.a4 := tj_t hAk
      rw [g6] at g3
      rw [← hu] at g2
      have hinc : c.inc 4 = ⟨c.a0, c.a1, c.a2, c.a3, c.a4 + 1⟩ := by
        have : c.a4 < 255 := by omega
        simp [F5.inc, up8, this]
      have c1 : Con Tryd.prog 13 [] [ladV m c, .agg true [u8 fi, i64 3, u8 0], u8 inh] [] (.tup [ladV m ⟨c.a0, c.a1, c.a2, c.a3, c.a4 + 1⟩, .agg true [u8 4, i64 3, u8 0], vb true]) := by
        have := con_raise inh m c fi 3 0 4 hi hck hf0 hr ((hll c).trans hM)
        rw [hinc] at this
        exact this
      clear hF hC hM hll hci hinc
      refine AWP.seq ?_
      refine AWP.seq ?_
      refine AWP.regionT tcok hmix [(3, ⟨some (u8 (mo % 8)), none⟩), (4, ⟨some (i64 (mo % 8)), none⟩), (5, ⟨some (i64 (u + mo % 8)), none⟩)] [2, 3, 8, 9, 10, 11, 12, 14, 15, 16, 61] [9, 15] (os := [(8 : Int) ≠ (0 : Int), u8 (Int.tmod mo 8) = u8 (mo % 8), i64 (IntKind.wrap IntKind.i64 (mo % 8)) = i64 (mo % 8), i64 (IntKind.wrap IntKind.i64 (u + mo % 8)) = i64 (u + mo % 8)]) (s' := St.mk [(2, tp (u8 inh)), (3, tp (u8 mo)), (8, tp (vb false)), (9, tp (V.ptr 9 0)), (10, tp (i64 u)), (11, tp (i64 v)), (12, tp (i64 fi)), (14, tp (i64 last)), (15, tp (V.ptr 15 0)), (16, tp (i64 i)), (61, tp (vb (decide (i < u + mo % 8))))] [(9, Blk.mk [u8 m.a0, u8 m.a1, u8 m.a2, u8 m.a3, u8 m.a4, u8 c.a0, u8 c.a1, u8 c.a2, u8 c.a3, u8 c.a4] true 10 none), (15, Blk.mk [i64 c.a0, i64 c.a1, i64 c.a2, i64 c.a3, i64 c.a4] true 5 none)]) (by kernel_rfl) ⟨(by omega), (tm_ (by omega)), (wr_i64 (by omega) (by omega)), (wr_i64 (by omega) (by omega)), trivial⟩ ?_
      refine AWP.cond (b := decide (i < u + mo % 8)) (by kernel_rfl) (fun hq41 => ?_) (fun hq41 => ?_)
      · simp only [decide_eq_true_eq] at hq41
        refine AWP.skip ?_
        refine AWP.seq ?_
        refine AWP.block ?_
        refine AWP.seq ?_
        refine AWP.regionT tcok hmix [(2, ⟨some (u8 fi), none⟩), (5, ⟨none, some ⟨V.tup [ladV m (F5.mk c.a0 c.a1 c.a2 c.a3 (c.a4 + 1)), V.agg true [u8 4, i64 3, u8 0], vb true], [], []⟩⟩)] [2, 3, 8, 9, 10, 11, 12, 14, 15, 16, 17, 18, 19] [9, 15, 17, 18] (os := [u8 (IntKind.wrap IntKind.u8 fi) = u8 fi, Con Tryd.prog 13 [] [V.agg true [u8 m.a0, u8 m.a1, u8 m.a2, u8 m.a3, u8 m.a4, u8 c.a0, u8 c.a1, u8 c.a2, u8 c.a3, u8 c.a4], V.agg true [u8 fi, i64 3, u8 0], u8 inh] [] (V.tup [V.agg true [u8 m.a0, u8 m.a1, u8 m.a2, u8 m.a3, u8 m.a4, u8 c.a0, u8 c.a1, u8 c.a2, u8 c.a3, u8 (c.a4 + 1)], V.agg true [u8 4, i64 3, u8 0], vb true])]) (s' := St.mk [(2, tp (u8 inh)), (3, tp (u8 mo)), (8, tp (vb false)), (9, tp (V.ptr 9 0)), (10, tp (i64 u)), (11, tp (i64 v)), (12, tp (i64 fi)), (14, tp (i64 last)), (15, tp (V.ptr 15 0)), (16, tp (i64 i)), (17, tp (V.ptr 17 0)), (18, tp (V.ptr 18 0)), (19, tp (vb true))] [(9, Blk.mk [u8 m.a0, u8 m.a1, u8 m.a2, u8 m.a3, u8 m.a4, u8 c.a0, u8 c.a1, u8 c.a2, u8 c.a3, u8 c.a4] true 10 none), (15, Blk.mk [i64 c.a0, i64 c.a1, i64 c.a2, i64 c.a3, i64 c.a4] true 5 none), (17, Blk.mk [u8 m.a0, u8 m.a1, u8 m.a2, u8 m.a3, u8 m.a4, u8 c.a0, u8 c.a1, u8 c.a2, u8 c.a3, u8 (c.a4 + 1)] true 10 none), (18, Blk.mk [u8 4, i64 3, u8 0] true 3 none)]) (by kernel_rfl) ⟨(wr_u8 (by omega) (by omega)), (c1 ), trivial⟩ ?_
        refine AWP.seq ?_
        refine AWP.seq ?_
        refine AWP.regionT tcok hmix [] [2, 3, 8, 9, 10, 11, 12, 14, 15, 16, 17, 18, 75] [9, 15, 17, 18] (os := []) (s' := St.mk [(2, tp (u8 inh)), (3, tp (u8 mo)), (8, tp (vb false)), (9, tp (V.ptr 9 0)), (10, tp (i64 u)), (11, tp (i64 v)), (12, tp (i64 fi)), (14, tp (i64 last)), (15, tp (V.ptr 15 0)), (16, tp (i64 i)), (17, tp (V.ptr 17 0)), (18, tp (V.ptr 18 0)), (75, tp (vb false))] [(9, Blk.mk [u8 m.a0, u8 m.a1, u8 m.a2, u8 m.a3, u8 m.a4, u8 c.a0, u8 c.a1, u8 c.a2, u8 c.a3, u8 c.a4] true 10 none), (15, Blk.mk [i64 c.a0, i64 c.a1, i64 c.a2, i64 c.a3, i64 c.a4] true 5 none), (17, Blk.mk [u8 m.a0, u8 m.a1, u8 m.a2, u8 m.a3, u8 m.a4, u8 c.a0, u8 c.a1, u8 c.a2, u8 c.a3, u8 (c.a4 + 1)] true 10 none), (18, Blk.mk [u8 4, i64 3, u8 0] true 3 none)]) (by kernel_rfl) trivial ?_
        refine AWP.cond (b := false) (by kernel_rfl) (fun h => by cases h) (fun _ => ?_)
        refine AWP.skip ?_
        refine AWP.seq ?_
        refine AWP.regionT tcok hmix [] [2, 3, 8, 9, 10, 11, 12, 14, 15, 16, 17, 20] [9, 15, 17] (os := []) (s' := St.mk [(2, tp (u8 inh)), (3, tp (u8 mo)), (8, tp (vb false)), (9, tp (V.ptr 9 0)), (10, tp (i64 u)), (11, tp (i64 v)), (12, tp (i64 fi)), (14, tp (i64 last)), (15, tp (V.ptr 15 0)), (16, tp (i64 i)), (17, tp (V.ptr 17 0)), (20, tp (i64 4))] [(9, Blk.mk [u8 m.a0, u8 m.a1, u8 m.a2, u8 m.a3, u8 m.a4, u8 c.a0, u8 c.a1, u8 c.a2, u8 c.a3, u8 c.a4] true 10 none), (15, Blk.mk [i64 c.a0, i64 c.a1, i64 c.a2, i64 c.a3, i64 c.a4] true 5 none), (17, Blk.mk [u8 m.a0, u8 m.a1, u8 m.a2, u8 m.a3, u8 m.a4, u8 c.a0, u8 c.a1, u8 c.a2, u8 c.a3, u8 (c.a4 + 1)] true 10 none)]) (by kernel_rfl) trivial ?_
        refine AWP.seq ?_
        refine AWP.seq ?_
        refine AWP.regionT tcok hmix [(6, ⟨none, some ⟨vb (al inh 4), [], []⟩⟩)] [2, 3, 8, 9, 10, 11, 12, 14, 15, 16, 17, 20, 103] [9, 15, 17] (os := [decide ((4 : Int) < last) = false → Con Tryd.prog (12 : Nat) [] [u8 inh, i64 (4 : Int)] [] (vb (al inh (4 : Int))) ∧ True]) (s' := St.mk [(2, tp (u8 inh)), (3, tp (u8 mo)), (8, tp (vb false)), (9, tp (V.ptr 9 0)), (10, tp (i64 u)), (11, tp (i64 v)), (12, tp (i64 fi)), (14, tp (i64 last)), (15, tp (V.ptr 15 0)), (16, tp (i64 i)), (17, tp (V.ptr 17 0)), (20, tp (i64 4)), (103, tp (vb (decide (4 < last) || !al inh 4 || decide (i ≥ u) && 4 != v)))] [(9, Blk.mk [u8 m.a0, u8 m.a1, u8 m.a2, u8 m.a3, u8 m.a4, u8 c.a0, u8 c.a1, u8 c.a2, u8 c.a3, u8 c.a4] true 10 none), (15, Blk.mk [i64 c.a0, i64 c.a1, i64 c.a2, i64 c.a3, i64 c.a4] true 5 none), (17, Blk.mk [u8 m.a0, u8 m.a1, u8 m.a2, u8 m.a3, u8 m.a4, u8 c.a0, u8 c.a1, u8 c.a2, u8 c.a3, u8 (c.a4 + 1)] true 10 none)]) (by kernel_rfl) ⟨(by intro hc0; first | (cases hc0; done) | (try simp only [Bool.or_false, Bool.false_or, Bool.true_and, Bool.and_true, decide_eq_true_eq, decide_eq_false_iff_not, Bool.and_eq_true, Bool.or_eq_true, Bool.or_eq_false_iff, Bool.not_eq_true', Bool.and_eq_false_iff, beq_iff_eq, bne_iff_ne, bne_eq_false_iff_eq, beq_eq_false_iff_ne, Bool.not_eq_false'] at hc0; exact ⟨(con_rallowed (inh) (4) (by assumption) (by omega)), trivial⟩)), trivial⟩ ?_
        refine AWP.cond (b := decide (4 < last) || !al inh 4 || decide (i ≥ u) && 4 != v) (by kernel_rfl) (fun hq43 => ?_) (fun hq43 => ?_)
        · simp only [decide_eq_true_eq, Bool.and_eq_true, Bool.or_eq_true, Bool.not_eq_true', bne_iff_ne] at hq43
          refine AWP.seq ?_
          refine AWP.regionT tcok hmix [] [2, 3, 8, 9, 10, 11, 12, 14, 15, 16, 17, 20] [9, 15, 17] (os := []) (s' := St.mk [(2, tp (u8 inh)), (3, tp (u8 mo)), (8, tp (vb false)), (9, tp (V.ptr 9 0)), (10, tp (i64 u)), (11, tp (i64 v)), (12, tp (i64 fi)), (14, tp (i64 last)), (15, tp (V.ptr 15 0)), (16, tp (i64 i)), (17, tp (V.ptr 17 0)), (20, tp (i64 4))] [(9, Blk.mk [u8 m.a0, u8 m.a1, u8 m.a2, u8 m.a3, u8 m.a4, u8 c.a0, u8 c.a1, u8 c.a2, u8 c.a3, u8 c.a4] true 10 none), (15, Blk.mk [i64 c.a0, i64 c.a1, i64 c.a2, i64 c.a3, i64 c.a4] true 5 none), (17, Blk.mk [u8 m.a0, u8 m.a1, u8 m.a2, u8 m.a3, u8 m.a4, u8 c.a0, u8 c.a1, u8 c.a2, u8 c.a3, u8 (c.a4 + 1)] true 10 none)]) (by kernel_rfl) trivial ?_
          refine AWP.ret ?_
          refine ⟨Or.inr rfl, Eq.trans (b := some ([], vb false)) (by kernel_rfl) ?_⟩
          first | (exfalso; rcases hq43 with (h | h) | h <;> first | omega | (rw [g5] at h; cases h; done)) | (exfalso; simp_all; omega) | (exfalso; simp_all; done) | (exfalso; omega) | (exact ⟨(u + mo % 8 - (i + 1)).toNat, (by omega), ⟨c.a0, c.a1, c.a2, c.a3, c.a4 + 1⟩, _, i + 1, rfl, g4, (by omega), (by omega)⟩)
        simp only [decide_eq_false_iff_not, Bool.or_eq_false_iff, Bool.and_eq_false_iff, bne_eq_false_iff_eq, Bool.not_eq_false'] at hq43
        refine AWP.skip ?_
        refine AWP.seq ?_
        refine AWP.regionT tcok hmix [(3, ⟨some (i64 (c.a4 + 1)), none⟩)] [2, 3, 8, 9, 10, 11, 12, 14, 15, 16, 17, 20] [9, 15, 17] (os := [i64 (IntKind.wrap IntKind.i64 (c.a4 + 1)) = i64 (c.a4 + 1)]) (s' := St.mk [(2, tp (u8 inh)), (3, tp (u8 mo)), (8, tp (vb false)), (9, tp (V.ptr 9 0)), (10, tp (i64 u)), (11, tp (i64 v)), (12, tp (i64 fi)), (14, tp (i64 last)), (15, tp (V.ptr 15 0)), (16, tp (i64 i)), (17, tp (V.ptr 17 0)), (20, tp (i64 4))] [(9, Blk.mk [u8 m.a0, u8 m.a1, u8 m.a2, u8 m.a3, u8 m.a4, u8 c.a0, u8 c.a1, u8 c.a2, u8 c.a3, u8 c.a4] true 10 none), (15, Blk.mk [i64 c.a0, i64 c.a1, i64 c.a2, i64 c.a3, i64 (c.a4 + 1)] true 5 none), (17, Blk.mk [u8 m.a0, u8 m.a1, u8 m.a2, u8 m.a3, u8 m.a4, u8 c.a0, u8 c.a1, u8 c.a2, u8 c.a3, u8 (c.a4 + 1)] true 10 none)]) (by kernel_rfl) ⟨(wr_i64 (by omega) (by omega)), trivial⟩ ?_
        refine AWP.seq ?_
        refine AWP.seq ?_
        refine AWP.regionT tcok hmix [(11, ⟨some (i64 m.a4), none⟩)] [2, 3, 8, 9, 10, 11, 12, 14, 15, 16, 17, 20, 122] [9, 15, 17] (os := [((4 : Int) != v) = true → i64 (IntKind.wrap IntKind.i64 m.a4) = i64 m.a4 ∧ True]) (s' := St.mk [(2, tp (u8 inh)), (3, tp (u8 mo)), (8, tp (vb false)), (9, tp (V.ptr 9 0)), (10, tp (i64 u)), (11, tp (i64 v)), (12, tp (i64 fi)), (14, tp (i64 last)), (15, tp (V.ptr 15 0)), (16, tp (i64 i)), (17, tp (V.ptr 17 0)), (20, tp (i64 4)), (122, tp (vb (4 != v && decide (c.a4 + 1 > m.a4))))] [(9, Blk.mk [u8 m.a0, u8 m.a1, u8 m.a2, u8 m.a3, u8 m.a4, u8 c.a0, u8 c.a1, u8 c.a2, u8 c.a3, u8 c.a4] true 10 none), (15, Blk.mk [i64 c.a0, i64 c.a1, i64 c.a2, i64 c.a3, i64 (c.a4 + 1)] true 5 none), (17, Blk.mk [u8 m.a0, u8 m.a1, u8 m.a2, u8 m.a3, u8 m.a4, u8 c.a0, u8 c.a1, u8 c.a2, u8 c.a3, u8 (c.a4 + 1)] true 10 none)]) (by kernel_rfl) ⟨(by intro hc0; first | (cases hc0; done) | (try simp only [Bool.or_false, Bool.false_or, Bool.true_and, Bool.and_true, decide_eq_true_eq, decide_eq_false_iff_not, Bool.and_eq_true, Bool.or_eq_true, Bool.or_eq_false_iff, Bool.not_eq_true', Bool.and_eq_false_iff, beq_iff_eq, bne_iff_ne, bne_eq_false_iff_eq, beq_eq_false_iff_ne, Bool.not_eq_false'] at hc0; exact ⟨(wr_i64 (by omega) (by omega)), trivial⟩)), trivial⟩ ?_
        refine AWP.cond (b := 4 != v && decide (c.a4 + 1 > m.a4)) (by kernel_rfl) (fun hq44 => ?_) (fun hq44 => ?_)
        · simp only [decide_eq_true_eq, Bool.and_eq_true, bne_iff_ne] at hq44
          (exfalso; omega)
        simp only [decide_eq_false_iff_not, Bool.and_eq_false_iff, bne_eq_false_iff_eq] at hq44
        refine AWP.skip ?_
        refine AWP.region tcok hmix [] (os := []) (sf := St.mk [(2, tp (u8 inh)), (3, tp (u8 mo)), (8, tp (vb false)), (9, tp (V.ptr 9 0)), (10, tp (i64 u)), (11, tp (i64 v)), (12, tp (i64 fi)), (14, tp (i64 4)), (15, tp (V.ptr 15 0)), (16, tp (i64 i)), (17, tp (V.ptr 17 0)), (20, tp (i64 4)), (122, tp (vb (4 != v && decide (c.a4 + 1 > m.a4)))), (123, tp (i64 4)), (124, tp (V.agg true [u8 m.a0, u8 m.a1, u8 m.a2, u8 m.a3, u8 m.a4, u8 c.a0, u8 c.a1, u8 c.a2, u8 c.a3, u8 (c.a4 + 1)]))] [(9, Blk.mk [u8 m.a0, u8 m.a1, u8 m.a2, u8 m.a3, u8 m.a4, u8 c.a0, u8 c.a1, u8 c.a2, u8 c.a3, u8 (c.a4 + 1)] true 10 none), (15, Blk.mk [i64 c.a0, i64 c.a1, i64 c.a2, i64 c.a3, i64 (c.a4 + 1)] true 5 none), (17, Blk.mk [u8 m.a0, u8 m.a1, u8 m.a2, u8 m.a3, u8 m.a4, u8 c.a0, u8 c.a1, u8 c.a2, u8 c.a3, u8 (c.a4 + 1)] true 10 none)]) (by kernel_rfl) trivial ?_
        refine AWP.keep' [2, 3, 8, 9, 10, 11, 12, 14, 15, 16] [9, 15] (sf := St.mk [(2, tp (u8 inh)), (3, tp (u8 mo)), (8, tp (vb false)), (9, tp (V.ptr 9 0)), (10, tp (i64 u)), (11, tp (i64 v)), (12, tp (i64 fi)), (14, tp (i64 4)), (15, tp (V.ptr 15 0)), (16, tp (i64 i))] [(9, Blk.mk [u8 m.a0, u8 m.a1, u8 m.a2, u8 m.a3, u8 m.a4, u8 c.a0, u8 c.a1, u8 c.a2, u8 c.a3, u8 (c.a4 + 1)] true 10 none), (15, Blk.mk [i64 c.a0, i64 c.a1, i64 c.a2, i64 c.a3, i64 (c.a4 + 1)] true 5 none)]) (by kernel_rfl) ?_
        refine AWP.region tcok hmix [(1, ⟨some (i64 (i + 1)), none⟩)] (os := [i64 (IntKind.wrap IntKind.i64 (i + 1)) = i64 (i + 1)]) (sf := St.mk [(2, tp (u8 inh)), (3, tp (u8 mo)), (8, tp (vb false)), (9, tp (V.ptr 9 0)), (10, tp (i64 u)), (11, tp (i64 v)), (12, tp (i64 fi)), (14, tp (i64 4)), (15, tp (V.ptr 15 0)), (16, tp (i64 (i + 1))), (62, tp (i64 i)), (63, tp (i64 (i + 1)))] [(9, Blk.mk [u8 m.a0, u8 m.a1, u8 m.a2, u8 m.a3, u8 m.a4, u8 c.a0, u8 c.a1, u8 c.a2, u8 c.a3, u8 (c.a4 + 1)] true 10 none), (15, Blk.mk [i64 c.a0, i64 c.a1, i64 c.a2, i64 c.a3, i64 (c.a4 + 1)] true 5 none)]) (by kernel_rfl) ⟨(wr_i64 (by omega) (by omega)), trivial⟩ ?_
        refine ⟨St.mk [(2, tp (u8 inh)), (3, tp (u8 mo)), (8, tp (vb false)), (9, tp (V.ptr 9 0)), (10, tp (i64 u)), (11, tp (i64 v)), (12, tp (i64 fi)), (14, tp (i64 4)), (15, tp (V.ptr 15 0)), (16, tp (i64 (i + 1)))] [(9, Blk.mk [u8 m.a0, u8 m.a1, u8 m.a2, u8 m.a3, u8 m.a4, u8 c.a0, u8 c.a1, u8 c.a2, u8 c.a3, u8 (c.a4 + 1)] true 10 none), (15, Blk.mk [i64 c.a0, i64 c.a1, i64 c.a2, i64 c.a3, i64 (c.a4 + 1)] true 5 none)], by kernel_rfl, ?_⟩
        first | (exfalso; rcases hq44 with (h | h) | h <;> first | omega | (rw [g5] at h; cases h; done)) | (exfalso; simp_all; omega) | (exfalso; simp_all; done) | (exfalso; omega) | (exact ⟨(u + mo % 8 - (i + 1)).toNat, (by omega), ⟨c.a0, c.a1, c.a2, c.a3, c.a4 + 1⟩, _, i + 1, rfl, g4, (by omega), (by omega)⟩)
      simp only [decide_eq_false_iff_not] at hq41
      (exfalso; omega)
theorem f5_of2 {xs : List V} (h : Go.Ab.Rows (Ty tc 8 5) 5 xs) : ∃ f : F5, xs = [u8 f.a0, u8 f.a1, u8 f.a2, u8 f.a3, u8 f.a4] ∧ f.ok := by
  obtain ⟨_, _, rfl, ⟨t0, rfl, d1, d2⟩, hr1⟩ := rows_cons h
  obtain ⟨_, _, rfl, ⟨t1, rfl, e1, e2⟩, hr2⟩ := rows_cons hr1
  obtain ⟨_, _, rfl, ⟨t2, rfl, f1, f2⟩, hr3⟩ := rows_cons hr2
  obtain ⟨_, _, rfl, ⟨t3, rfl, g1, g2⟩, hr4⟩ := rows_cons hr3
  obtain ⟨_, _, rfl, ⟨t4, rfl, i1, i2⟩, hr5⟩ := rows_cons hr4
  obtain rfl := rows_nil hr5
  exact ⟨⟨t0, t1, t2, t3, t4⟩, rfl, d1, Int.lt_add_one_of_le d2, e1, Int.lt_add_one_of_le e2, f1, Int.lt_add_one_of_le f2, g1, Int.lt_add_one_of_le g2, i1, Int.lt_add_one_of_le i2⟩
theorem u8_of3 {x : V} (h : TyV tc 9 5 x) : ∃ n : Int, x = u8 n ∧ 0 ≤ n ∧ n < 256 := by
  obtain ⟨n, e, a1, a2⟩ := h
  cases e
  exact ⟨n, rfl, a1, Int.lt_add_one_of_le a2⟩
theorem law_FdirClimbs (x y z u : V) (hx : TyV tc 9 22 x) (hy : TyV tc 9 5 y) (hz : TyV tc 9 5 z) (hu : TyV tc 9 5 u) : Con Tryd.prog 3 [] [x, y, z, u] [] (vb true) := by
  obtain ⟨xs, rfl, hr⟩ := hx
  obtain ⟨l, rfl, hl⟩ := f5_of2 hr
  obtain ⟨st, rfl, h1⟩ := u8_of3 hy
  obtain ⟨inh, rfl, h2⟩ := u8_of3 hz
  obtain ⟨mo, rfl, h3⟩ := u8_of3 hu
  exact law_climbs l st inh mo h2 hl h1 h3
end Go.Proofs.YtklbonfbiakebaaDoor
