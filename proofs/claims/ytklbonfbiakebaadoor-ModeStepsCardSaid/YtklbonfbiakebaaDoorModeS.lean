/- Chapter 24: ModeSteps. -/
import Derived.Test.YtklbonfbiakebaaDoorModeSp2
namespace Go.Proofs.YtklbonfbiakebaaDoor
open Go.Ab
set_option linter.unusedSimpArgs false
set_option linter.unusedVariables false
set_option maxHeartbeats 8000000
theorem au_of {x : V} (h : TyV tc 9 63 x) : ∃ m s cl se dk : Int, x = .agg true [u8 m, u16 s, u8 cl, u8 se, u8 dk] ∧ (0 ≤ m ∧ m < 256) ∧ (0 ≤ s ∧ s < 65536 ∧ 0 ≤ cl ∧ cl < 256 ∧ 0 ≤ se ∧ se < 256 ∧ 0 ≤ dk ∧ dk < 256) := by
  obtain ⟨xs, rfl, _, _, rfl, ⟨m, rfl, a1, a2⟩, _, _, rfl, ⟨s, rfl, b1, b2⟩, _, _, rfl, ⟨cl, rfl, c1, c2⟩, _, _, rfl, ⟨se, rfl, d1, d2⟩, _, _, rfl, ⟨dk, rfl, e1, e2⟩, rfl⟩ := h
  exact ⟨m, s, cl, se, dk, rfl, ⟨a1, Int.lt_add_one_of_le a2⟩, b1, Int.lt_add_one_of_le b2, c1, Int.lt_add_one_of_le c2, d1, Int.lt_add_one_of_le d2, e1, Int.lt_add_one_of_le e2⟩
theorem cf_of {x : V} (h : TyV tc 9 66 x) : ∃ c1 c2 c3 t0 t1 t2 t3 : Int, x = .agg true [u8 c1, u8 c2, u8 c3, u16 t0, u16 t1, u16 t2, u16 t3] ∧ (0 ≤ t1 ∧ t1 < 65536 ∧ 0 ≤ t2 ∧ t2 < 65536 ∧ 0 ≤ c1 ∧ c1 < 256) := by
  obtain ⟨xs, rfl, _, _, rfl, ⟨m, rfl, a1, a2⟩, _, _, rfl, ⟨s, rfl, b1, b2⟩, _, _, rfl, ⟨cl, rfl, c1, c2⟩, _, _, rfl, hr, rfl⟩ := h
  obtain ⟨_, _, rfl, ⟨t0, rfl, d1, d2⟩, hr1⟩ := rows_cons hr
  obtain ⟨_, _, rfl, ⟨t1, rfl, e1, e2⟩, hr2⟩ := rows_cons hr1
  obtain ⟨_, _, rfl, ⟨t2, rfl, f1, f2⟩, hr3⟩ := rows_cons hr2
  obtain ⟨_, _, rfl, ⟨t3, rfl, g1, g2⟩, hr4⟩ := rows_cons hr3
  obtain rfl := rows_nil hr4
  exact ⟨m, s, cl, t0, t1, t2, t3, rfl, e1, Int.lt_add_one_of_le e2, f1, Int.lt_add_one_of_le f2, a1, Int.lt_add_one_of_le a2⟩
theorem bool_of {x : V} (h : TyV tc 9 4 x) : ∃ b : Bool, x = vb b := by
  obtain ⟨b, e⟩ := h
  cases e
  exact ⟨b, rfl⟩
theorem u8_of {x : V} (h : TyV tc 9 5 x) : ∃ n : Int, x = u8 n ∧ 0 ≤ n ∧ n < 256 := by
  obtain ⟨n, e, a1, a2⟩ := h
  cases e
  exact ⟨n, rfl, a1, Int.lt_add_one_of_le a2⟩
theorem law_ModeSteps (x y u v w z : V) (hx : TyV tc 9 63 x) (hy : TyV tc 9 66 y) (hu : TyV tc 9 4 u) (hv : TyV tc 9 4 v) (hw : TyV tc 9 4 w) (hz : TyV tc 9 5 z) : Con Tryd.prog 9 [] [x, y, u, v, w, z] [] (vb true) := by
  obtain ⟨m, s, cl, se, dk, rfl, hm, h⟩ := au_of hx
  obtain ⟨c1, c2, c3, t0, t1, t2, t3, rfl, hd⟩ := cf_of hy
  obtain ⟨u, rfl⟩ := bool_of hu
  obtain ⟨v, rfl⟩ := bool_of hv
  obtain ⟨w, rfl⟩ := bool_of hw
  obtain ⟨q, rfl, hq⟩ := u8_of hz
  have e : m.tmod 4 = m % 4 := Int.tmod_eq_emod_of_nonneg hm.1
  rcases (by omega : m % 4 = 0 ∨ m % 4 = 1 ∨ m % 4 = 2 ∨ m % 4 = 3) with h4 | h4 | h4 | h4
  · rcases (by omega : q = 0 ∨ q = 1 ∨ q = 2 ∨ q = 3 ∨ 3 < q) with rfl | rfl | rfl | rfl | h5
    · exact law_steps_0_0 m s cl se dk c1 c2 c3 t0 t1 t2 t3 u v w hm (e.trans h4) h hd
    · exact law_steps_0_1 m s cl se dk c1 c2 c3 t0 t1 t2 t3 u v w hm (e.trans h4) h hd
    · exact law_steps_0_2 m s cl se dk c1 c2 c3 t0 t1 t2 t3 u v w hm (e.trans h4) h hd
    · exact law_steps_0_3 m s cl se dk c1 c2 c3 t0 t1 t2 t3 u v w hm (e.trans h4) h hd
    · exact law_steps_0_4 m s cl se dk c1 c2 c3 t0 t1 t2 t3 q u v w h5 hm (e.trans h4) h hd
  · rcases (by omega : q = 0 ∨ q = 1 ∨ q = 2 ∨ q = 3 ∨ 3 < q) with rfl | rfl | rfl | rfl | h5
    · exact law_steps_1_0 m s cl se dk c1 c2 c3 t0 t1 t2 t3 u v w hm (e.trans h4) h hd
    · exact law_steps_1_1 m s cl se dk c1 c2 c3 t0 t1 t2 t3 u v w hm (e.trans h4) h hd
    · exact law_steps_1_2 m s cl se dk c1 c2 c3 t0 t1 t2 t3 u v w hm (e.trans h4) h hd
    · exact law_steps_1_3 m s cl se dk c1 c2 c3 t0 t1 t2 t3 u v w hm (e.trans h4) h hd
    · exact law_steps_1_4 m s cl se dk c1 c2 c3 t0 t1 t2 t3 q u v w h5 hm (e.trans h4) h hd
  · rcases (by omega : q = 0 ∨ q = 1 ∨ q = 2 ∨ q = 3 ∨ 3 < q) with rfl | rfl | rfl | rfl | h5
    · exact law_steps_2_0 m s cl se dk c1 c2 c3 t0 t1 t2 t3 u v w hm (e.trans h4) h hd
    · exact law_steps_2_1 m s cl se dk c1 c2 c3 t0 t1 t2 t3 u v w hm (e.trans h4) h hd
    · exact law_steps_2_2 m s cl se dk c1 c2 c3 t0 t1 t2 t3 u v w hm (e.trans h4) h hd
    · exact law_steps_2_3 m s cl se dk c1 c2 c3 t0 t1 t2 t3 u v w hm (e.trans h4) h hd
    · exact law_steps_2_4 m s cl se dk c1 c2 c3 t0 t1 t2 t3 q u v w h5 hm (e.trans h4) h hd
  · rcases (by omega : q = 0 ∨ q = 1 ∨ q = 2 ∨ q = 3 ∨ 3 < q) with rfl | rfl | rfl | rfl | h5
    · exact law_steps_3_0 m s cl se dk c1 c2 c3 t0 t1 t2 t3 u v w hm (e.trans h4) h hd
    · exact law_steps_3_1 m s cl se dk c1 c2 c3 t0 t1 t2 t3 u v w hm (e.trans h4) h hd
    · exact law_steps_3_2 m s cl se dk c1 c2 c3 t0 t1 t2 t3 u v w hm (e.trans h4) h hd
    · exact law_steps_3_3 m s cl se dk c1 c2 c3 t0 t1 t2 t3 u v w hm (e.trans h4) h hd
    · exact law_steps_3_4 m s cl se dk c1 c2 c3 t0 t1 t2 t3 q u v w h5 hm (e.trans h4) h hd
end Go.Proofs.YtklbonfbiakebaaDoor
