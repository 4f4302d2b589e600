/- Chapter 16: MonitorSleeps, of arguments of their types. -/
import Derived.Test.YtlfjnkobnkfioaaMonL
namespace Go.Proofs.Ytlfjnkobnkfioaa
open Go.Ab
set_option linter.unusedSimpArgs false
set_option linter.unusedVariables false
set_option maxHeartbeats 8000000
set_option maxRecDepth 100000
theorem i32_rows {ty : List V → Prop} (hty : ∀ r, ty r → ∃ k : Int, r = [i32 k] ∧ -2147483648 ≤ k ∧ k ≤ 2147483647) : ∀ (n : Nat) (xs : List V), Go.Ab.Rows ty n xs → ∃ v : Nat → Int, (∀ k, -2147483648 ≤ v k ∧ v k ≤ 2147483647) ∧ xs = (List.range n).map fun k => i32 (v k)
  | 0, xs, h => ⟨fun _ => 0, fun _ => (show (-2147483648 : Int) ≤ 0 ∧ (0 : Int) ≤ 2147483647 by omega), by rw [Go.Ab.rows_nil h]; rfl⟩
  | n + 1, xs, h => by
    obtain ⟨a, b, rfl, ha, hb⟩ := Go.Ab.rows_cons h
    obtain ⟨v, hv, rfl⟩ := i32_rows hty n b hb
    obtain ⟨k, rfl, hk⟩ := hty a ha
    refine ⟨fun i => match i with | 0 => k | i + 1 => v i, fun i => ?_, ?_⟩
    · cases i with
      | zero => exact hk
      | succ i => exact hv i
    · rw [List.range_succ_eq_map, List.map_cons, List.map_map]
      rfl
theorem mcells_val {rows : List (List V)} {n : Int} (h : ∀ r ∈ rows, ∃ u : Ru, r = ruV u) : ∀ x ∈ mcells rows n, VO x := by
  intro x hx
  have : ∃ v, x = V.val v := by
    unfold mcells at hx
    rcases List.mem_append.1 hx with h1 | h1
    · obtain ⟨l, h2, h3⟩ := List.mem_flatten.1 h1
      obtain ⟨r, h4, rfl⟩ := List.mem_map.1 h2
      obtain ⟨u, rfl⟩ := h r h4
      simp only [ruV, z5, List.mem_append, List.mem_cons, List.not_mem_nil, or_false] at h3
      rcases h3 with (rfl | rfl | rfl | rfl | rfl | rfl | rfl | rfl | rfl | rfl | rfl) | (rfl | rfl | rfl | rfl | rfl) <;> exact ⟨_, rfl⟩
    rcases List.mem_append.1 h1 with h2 | h2
    · obtain ⟨l, h3, h4⟩ := List.mem_flatten.1 h2
      rw [List.eq_of_mem_replicate h3] at h4
      simp only [z16, z11, z5, List.mem_append, List.mem_cons, List.not_mem_nil, or_false] at h4
      rcases h4 with (rfl | rfl | rfl | rfl | rfl | rfl | rfl | rfl | rfl | rfl | rfl) | (rfl | rfl | rfl | rfl | rfl) <;> exact ⟨_, rfl⟩
    · rw [List.mem_singleton.1 h2]
      exact ⟨_, rfl⟩
  obtain ⟨v, rfl⟩ := this
  exact VO.val v
theorem rows_of_flat : ∀ (rows : List (List V)), (∀ r ∈ rows, r.length = 11) → rowsOf rows.flatten rows.length = rows := by
  intro rows h
  apply List.ext_getElem?
  intro i
  unfold rowsOf
  by_cases hi : i < rows.length
  · obtain ⟨r, hr⟩ := flat_drop rows h i rows[i] (List.getElem?_eq_getElem hi)
    rw [List.getElem?_map, List.getElem?_range hi, Option.map_some, hr, List.getElem?_eq_getElem hi]
    have := h rows[i] (List.getElem_mem hi)
    rw [← this, List.take_left]
  · rw [List.getElem?_eq_none (by simp; omega), List.getElem?_eq_none (by omega)]
theorem law_MonitorSleeps (x y : V) (hx : TyV tc 9 22 x) (hy : TyV tc 9 55 y) : Con Try.prog 5 [] [x, y] [] (vb true) := by
  obtain ⟨cs, n, e, hn, rows, h1, h2, h3⟩ := hx
  cases e
  obtain ⟨cs2, m, e2, hm, rows2, k1, k2, k3⟩ := hy
  cases e2
  have hr : ∀ r ∈ rows, ∃ u : Ru, r = ruV u ∧ RuT u := fun r hr => by
    obtain ⟨kd, pa, lo, hi, ma, wa, rp, ev, lv, un, en, e, g1, g2, g3, g4, g5, g6, g7, g8, g9, g0⟩ := mrule_of (x := .agg true r) ⟨r, rfl, h3 r hr⟩
    cases e
    exact ⟨⟨kd, pa, lo, hi, ma, wa, rp, ev, lv, un, en⟩, rfl, ⟨g1, g3, g4, g7⟩⟩
  have hl : ∀ r ∈ rows, r.length = 11 := fun r h => by obtain ⟨u, rfl, _⟩ := hr r h; rfl
  have hr2 : ∀ r ∈ rows2, ∃ v : Nat → Int, (∀ k, -2147483648 ≤ v k ∧ v k ≤ 2147483647) ∧ r = (List.range 16).map fun k => i32 (v k) := fun r hr => i32_rows (fun r h => by obtain ⟨n, rfl, a1, a2⟩ := h; exact ⟨n, rfl, a1, a2⟩) 16 r (k3 r hr)
  have hl2 : ∀ r ∈ rows2, r.length = 16 := fun r h => by obtain ⟨v, _, rfl⟩ := hr2 r h; simp
  obtain ⟨ru0, hru0⟩ := rus_of rows hr
  have hxs : ∀ i, i < n → (∃ r, cs.drop (i * 11) = ruV (ru0 i) ++ r) ∧ mru (ru0 i) = mru (ru0 i) ∧ RuT (ru0 i) := fun i hi => by
    obtain ⟨g1, g2⟩ := hru0 i (by omega)
    exact ⟨by rw [h2]; exact flat_drop rows hl i _ g1, rfl, g2⟩
  have hkm := kp_mem cs (fun i => mru (ru0 i)) ru0 n hxs n (Nat.le_refl _)
  have hkl := kp_le cs (fun i => mru (ru0 i)) n
  have c1 := con_rules2 cs n hn (fun i => mru (ru0 i)) ru0 hxs _ _ rfl rfl _ rfl
  generalize kp cs (fun i => mru (ru0 i)) n = K at *
  have hKl : ∀ r ∈ K, r.length = 11 := fun r h => by obtain ⟨u, rfl, _⟩ := hkm r h; rfl
  obtain ⟨ru, hru⟩ := rus_of (P := fun u => RuT u ∧ mru u = true) K hkm
  have hAd : ∀ j, j < K.length → ∃ r, K.flatten.drop (j * 11) = ruV (ru j) ++ r := fun j hj => flat_drop K hKl j _ (hru j hj).1
  have c2 := con_newg K.flatten K.length hkl (fun i hi => by
    obtain ⟨r, hr⟩ := hAd i hi
    exact ⟨_, _, _, _, _, _, _, _, _, _, _, r, hr, (hru i hi).2.2⟩)
  rw [rows_of_flat K hKl] at c2
  have hKM : (mcells K K.length).length = 257 := mcells_len hKl hkl
  refine law_sleeps cs n hn ru cs2 m hm (by rw [k2, flat_lenk hl2, k1]) (fun p hp => ?_) K.flatten _ K.length hkl (fun j hj => mru_ok (hru j hj).2.1 (hru j hj).2.2) (flat_lenk hKl) hAd c1 (mcells K K.length) hKM (mcells_val fun r h => by obtain ⟨u, h, _⟩ := hkm r h; exact ⟨u, h⟩) ?_ (fun j hj => mcells_at hKl j _ (hru j hj).1) c2
  · obtain ⟨v, hv, hr⟩ := hr2 rows2[p] (List.getElem_mem (by omega))
    obtain ⟨r, hd⟩ := flat_drop rows2 hl2 p _ (List.getElem?_eq_getElem (by omega))
    exact ⟨v, r, hv, by rw [k2, hd, hr]; rfl⟩
  · unfold mcells gI
    rw [List.getD_eq_getElem?_getD, List.getElem?_append_right (by rw [rows_len hKl]; omega), List.getElem?_append_right (by rw [rows_len hKl, rep_len]; omega), rows_len hKl, rep_len, show 256 - K.length * 16 - (16 - K.length) * 16 = 0 by omega]
    rfl
end Go.Proofs.Ytlfjnkobnkfioaa
