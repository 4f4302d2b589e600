/- slices.Insert at the end; at any place. -/
import Derived.Test.YtlfjnkobnkfioaaPlnB
namespace Go.Proofs.Ytlfjnkobnkfioaa
open Go Go.Ab Go.RowKit Go.Lib
set_option linter.unusedSimpArgs false
set_option linter.unusedVariables false
set_option maxHeartbeats 4000000 in
set_option maxRecDepth 100000 in
theorem ins_end (w w1 : World) (base : Option Addr) (n c vb voff vc : Nat) (v' : Value) (hnc : n ≤ c) (hc63 : c ≤ 9223372036854775807) (hnil : base = none → c = 0)
    (hr : ∀ ty, (Builtin.append_ #[75, 75] ty #[.slice base n c, .slice (some ⟨vb, voff, none⟩) 1 vc]).run Try.prog w = .ok v' w1) :
    Calls Try.prog 46 #[.slice base n c, .int .i64 n, .slice (some ⟨vb, voff, none⟩) 1 vc] w fun e w' => e = .returned v' ∧ w' = w1 := by
  have mixed : Try.prog.follows .mixedOrders = true := by kernel_rfl
  have u75 := run_underlying und_items
  obtain ⟨i0, hi0, hz0, hzs, hzb⟩ := info_parts info_item
  have z79 : ∀ w, (Go.sizeOf 79).run Try.prog w = .ok 3 w := fun w => by simp [sizeOf, typeInfo, hi0, hzs]
  go_enter Try.func46, Try.ntmps46
  cases base with
  | none =>
    have h0 := hnil rfl
    subst h0
    have hn0 : n = 0 := by omega
    subst hn0
    go_wp2_with (at_builtin; refine Lib.wpList_append_run _ rfl _ _ _ _ rfl _ _ rfl rfl _ _ (hr _) ?_)
    go_ret
    exact ⟨rfl, rfl⟩
  | some a =>
    obtain ⟨ab, ao, asp⟩ := a
    go_wp2_with (at_builtin; refine Lib.wpList_append_run _ rfl _ _ _ _ rfl _ _ rfl rfl _ _ (hr _) ?_)
    all_goals (go_ret; exact ⟨rfl, rfl⟩)
theorem con_ins_end (cs row : List V) (n : Nat) (hcs : cs.length = n * 3) (hrow : row.length = 3) (hn : n ≤ 1000) : Con Try.prog 46 [(1000000000, ⟨cs, true, 0, some (79, 3)⟩), (2000000000, ⟨row, true, 0, some (79, 3)⟩)] [.sl 1000000000 0 n, i64 (n : Int), .sl 2000000000 0 1]
    [(1000000000, ⟨cs ++ row, true, 0, some (79, 3)⟩), (2000000000, ⟨row, true, 0, some (79, 3)⟩)] (.sl 1000000000 0 (n + 1)) := by
  refine ⟨⟨_, Try.func46, rfl, rfl⟩, fun X φ w us hφ hX hH hu hg => ?_⟩
  cases hu with
  | cons hu0 hu =>
  cases hu with
  | cons hu1 hu =>
  cases hu with
  | cons hu2 hu =>
  cases hu
  cases hu1
  obtain ⟨i0, hi0, hz0, hzs, hzb⟩ := info_parts info_item
  cases hu2 with
  | @sl _ _ _ _ cap2 vb c2 hat2 hle2 hcap2 hk2 =>
  have hB1 := hH 1000000000 _ rfl
  have hB2 := hH 2000000000 _ rfl
  rw [hat2] at hB2
  have hBV := hB2
  obtain ⟨uv, tv, hvb, hrv, _⟩ := hB2
  have hrr : RelL (Imm φ X w) w Phi.emp row ((uv.toList.drop 0).take 3) := by rw [← hrow]; exact hrv
  have hvl : ((uv.toList.drop 0).take 3).length = 3 := by rw [hrr.1, hrow]
  have hvn : ∀ w2 : World, w2.heap[vb]? = w.heap[vb]? → ∀ j u, ((uv.toList.drop 0).take 3)[j]? = some u → w2.cell? ((⟨vb, 0, none⟩ : Addr).add j) = some u := fun w2 h2 j u hj => by
    rw [List.getElem?_take] at hj
    split at hj
    · rw [List.getElem?_drop] at hj
      rw [Addr.add_lit]
      rw [hvb] at h2
      simp only [World.cell?, h2]
      simpa using hj
    · cases hj
  have hol : (cs ++ row).length = (n + 1) * 3 := by
    simp only [List.length_append, hcs, hrow]
    omega
  have grown : ∀ (base : Option Addr) (c : Nat) (olds : List Value), n ≤ c → c < n + 1 → c ≤ 9223372036854775807 → (base = none → c = 0) → olds.length = n * 3 → RelL (Imm φ X w) w Phi.emp cs olds → (∀ ty, (Builtin.append_ #[75, 75] ty #[.slice base n c, .slice (some ⟨vb, 0, none⟩) 1 cap2]).run Try.prog w =
      .ok (.slice (some ⟨w.heap.size, 0, none⟩) (n + 1) (grownCap w (n + 1) c 79)) (w.drew.alloc (.cells (olds.toArray ++ ((uv.toList.drop 0).take 3).toArray ++ Builtin.zeroCells (Value.agg #[.int .u32 0, .int .u16 0, .slice none 0 0]).cells (grownCap w (n + 1) c 79 - (n + 1))) 79))) →
      ¬stayS 1000000000 (φ 1000000000) →
      Calls Try.prog 46 #[.slice base n c, .int .i64 n, .slice (some ⟨vb, 0, none⟩) 1 cap2] w fun e w' => ∃ u φ', e = .returned u ∧ Frm φ w w' ∧ Phi.ok φ' X w' [(1000000000, ⟨cs ++ row, true, 0, some (79, 3)⟩), (2000000000, ⟨row, true, 0, some (79, 3)⟩)] ∧ (∀ id b c, φ' id = .at b c → (∃ id0 c0, φ id0 = .at b c0) ∨ w.heap.size ≤ b) ∧
      HR (Imm φ' X w') w' φ' [(1000000000, ⟨cs ++ row, true, 0, some (79, 3)⟩), (2000000000, ⟨row, true, 0, some (79, 3)⟩)] ∧ Rel (Imm φ' X w') w' φ' (.sl 1000000000 0 (n + 1)) u ∧ (∀ id, BIG ≤ id → stayS id (φ id) → φ' id = φ id ∨ lk [(1000000000, (⟨cs ++ row, true, 0, some (79, 3)⟩ : Blk)), (2000000000, ⟨row, true, 0, some (79, 3)⟩)] id = none) := by
    intro base c olds hnc hcn hc63 hnil hol0 hro hrun hns
    refine (ins_end w _ base n c vb 0 cap2 _ hnc hc63 hnil hrun).mono ?_
    rintro e w' ⟨rfl, rfl⟩
    have hGn : n + 1 ≤ grownCap w (n + 1) c 79 := grownCap_ge w _ _ _
    have hG63 : grownCap w (n + 1) c 79 ≤ 9223372036854775807 := by
      have := grownCap_le_maxLen w (n + 1) c 79 (by unfold maxLen; omega)
      unfold maxLen at this
      omega
    generalize grownCap w (n + 1) c 79 = G at *
    refine bldPost2 hφ hX hns (by omega) hat2 (by decide) rfl hBV rfl rfl rfl ?_ (fun x hx _ => ?_) (.inr (Nat.le_refl _)) (R := olds.toArray ++ ((uv.toList.drop 0).take 3).toArray ++ Builtin.zeroCells (Value.agg #[.int .u32 0, .int .u16 0, .slice none 0 0]).cells (G - (n + 1))) ?_ ?_ hGn hG63 hol ?_
    · show w.heap.size ≤ (w.heap.push _).size
      simp
    · show (w.heap.push _)[x]? = _
      rw [Array.getElem?_push_lt hx, Array.getElem?_eq_getElem hx]
    · show (w.heap.push _)[w.heap.size]? = _
      simp
    · simp only [Array.size_append, List.size_toArray, hol0, hvl]
      simp [Builtin.zeroCells, Value.cells]
      omega
    · have : (olds.toArray ++ ((uv.toList.drop 0).take 3).toArray ++ Builtin.zeroCells (Value.agg #[.int .u32 0, .int .u16 0, .slice none 0 0]).cells (G - (n + 1))).toList.take ((n + 1) * 3) = olds ++ (uv.toList.drop 0).take 3 := by
        rw [Array.toList_append, Array.toList_append]
        exact List.take_left' (by simp only [List.length_append, hol0, hvl]; omega)
      rw [this]
      exact hro.append hrr
  cases hu0 with
  | slnil hnil =>
    obtain rfl : cs = [] := List.length_eq_zero_iff.1 (by omega)
    refine grown none 0 [] (by omega) (by omega) (by omega) (fun _ => rfl) rfl RelL.nil (fun ty => ?_) (by rw [hnil]; intro h; exact absurd (show BIG2 ≤ 1000000000 from h) (by decide))
    have h := run_append_nil (P := Try.prog) w 75 ty 79 i0 _ und_items hi0 hz0 ⟨vb, 0, none⟩ 1 cap2 _ (by rw [hvl, hzs]) (hvn w rfl) (by omega) (by omega) (by rw [hzb]; omega)
    simpa using h
  | @sl _ _ _ _ cap b c0 hat hle hcap hk =>
  rw [hat] at hB1
  obtain ⟨uu, el, hb, hr, rfl, cap', n', hc0, hcl, hn', hcap', hus⟩ := hB1
  cases hc0
  obtain rfl : cap = cap' := hk _ rfl rfl
  obtain rfl : n = n' := by rw [hcs] at hcl; omega
  have hrc : RelL (Imm φ X w) w Phi.emp cs (uu.toList.take (n * 3)) := by rw [← hcs]; exact hr
  have hl0 : uu.toList.length = cap * 3 := by simpa using hus
  have hol0 : (uu.toList.take (n * 3)).length = n * 3 := by rw [List.length_take, hl0]; omega
  by_cases hroom : n + 1 ≤ cap
  · have hrun := fun ty => run_append_room (P := Try.prog) (w := w) 75 ty 79 i0 und_items hi0 b n cap uu hb ⟨vb, 0, none⟩ 1 cap2 _ (by rw [hvl, hzs]) (hvn w rfl) hrr.2.2 hroom (by rw [hvl, hzs, hus]; omega)
    refine (ins_end w _ _ n cap vb 0 cap2 _ hn' hcap' (fun h => by cases h) hrun).mono ?_
    rintro e w' ⟨rfl, rfl⟩
    refine bldPost2 hφ hX (noStay (by decide) hat) (by omega) hat2 (by decide) rfl hBV rfl rfl rfl (by simp) (fun x _ hx => ?_) (.inl ⟨_, hat⟩) (setRow_heap _ _ _ _ _ _ hb) ?_ hroom hcap' hol ?_
    · exact setRow_other _ _ _ _ (fun h => hx _ (h ▸ hat))
    · simp only [List.size_toArray, List.length_append, List.length_take, List.length_drop, hl0, hzs] at hvl ⊢
      omega
    · rw [hzs, List.append_assoc]
      have : ((uu.toList.take (n * 3)) ++ ((uv.toList.drop 0).take 3 ++ uu.toList.drop (n * 3 + ((uv.toList.drop 0).take 3).length))).take ((n + 1) * 3) = uu.toList.take (n * 3) ++ (uv.toList.drop 0).take 3 := by
        rw [← List.append_assoc]
        exact List.take_left' (by rw [List.length_append, hol0, hvl]; omega)
      rw [List.toList_toArray, this]
      exact hrc.append hrr
  · refine grown (some ⟨b, 0, none⟩) cap (uu.toList.take (n * 3)) hn' (by omega) hcap' (fun h => by cases h) hol0 hrc (fun ty => ?_) (noStay (by decide) hat)
    exact run_append_grow (P := Try.prog) w 75 ty 79 i0 _ und_items hi0 hz0 ⟨b, 0, none⟩ n cap _ (by rw [hol0, hzs]) (fun j v hj => by
      rw [List.getElem?_take] at hj
      split at hj
      · rw [Addr.add_lit]
        simp only [World.cell?, hb]
        simpa using hj
      · cases hj) ⟨vb, 0, none⟩ 1 cap2 _ (by rw [hvl, hzs]) (hvn w rfl) (by omega) (by omega) (by rw [hzb]; exact growslice_fits (by omega) (by omega))
theorem con_ins (cs row : List V) (n i : Nat) (hcs : cs.length = n * 3) (hrow : row.length = 3) (hi : i ≤ n) (hn : n ≤ 1000) : Con Try.prog 46 [(1000000000, ⟨cs, true, 0, some (79, 3)⟩), (2000000000, ⟨row, true, 0, some (79, 3)⟩)] [.sl 1000000000 0 n, i64 (i : Int), .sl 2000000000 0 1]
    [(1000000000, ⟨cs.take (i * 3) ++ row ++ cs.drop (i * 3), true, 0, some (79, 3)⟩), (2000000000, ⟨row, true, 0, some (79, 3)⟩)] (.sl 1000000000 0 (n + 1)) := by
  by_cases h : i < n
  · exact con_ins_mid cs row n i hcs hrow h hn
  · obtain rfl : i = n := by omega
    rw [← hcs, List.take_length, List.drop_length, List.append_nil]
    exact con_ins_end cs row i hcs hrow hn
end Go.Proofs.Ytlfjnkobnkfioaa
