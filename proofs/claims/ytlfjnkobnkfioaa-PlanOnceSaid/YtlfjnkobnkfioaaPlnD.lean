/- slices.Delete of the first items. -/
import Derived.Test.YtlfjnkobnkfioaaPlnC
namespace Go.Proofs.Ytlfjnkobnkfioaa
open Go Go.Ab Go.RowKit Go.Lib Go.Shelf
set_option linter.unusedSimpArgs false
set_option linter.unusedVariables false
theorem run_clear_row {P : Program} (w : World) (t e ty : TypeId) (z : Value) (ht : P.underlying t = some (.slice e)) (hv : ∀ w, (zeroValue e).run P w = .ok z w) (sz : Nat) (hz : z.cells.size = sz) (h1 : ∀ v ∈ z.cells.toList, v.oneCell' = true) (b o n c : Nat) (hn : 0 < n) (hsz : 0 < sz) (cur : Array Value) (el : TypeId)
    (hb : w.heap[b]? = some (.cells cur el)) (hfit : o + n * sz ≤ cur.size) :
    ∃ R : Array Value, R.size = cur.size ∧ R.toList.take o = cur.toList.take o ∧ (Builtin.clear_ #[t] ty #[.slice (some ⟨b, o, none⟩) n c]).run P w = .ok (.tuple #[]) (w.setRow b R) := by
  have hzl : (Builtin.zeroCells z.cells n).toList.length = n * sz := by simp [Builtin.zeroCells, hz]
  have hz1 : ∀ v ∈ (Builtin.zeroCells z.cells n).toList, v.oneCell' = true := fun v hv => by
    simp only [Builtin.zeroCells, Array.toList_map, List.mem_map] at hv
    obtain ⟨i, hi, rfl⟩ := hv
    have hi' : i % z.cells.size < z.cells.size := Nat.mod_lt _ (by omega)
    rw [getElem!_pos z.cells _ hi']
    refine h1 _ ?_
    rw [← Array.getElem_toList]
    exact List.getElem_mem _
  have hst := run_storeCells_at P b o el (Builtin.zeroCells z.cells n).toList 0 cur w hb (by rw [hzl]; simpa using hfit) hz1
  simp only [Nat.add_zero] at hst
  refine ⟨(cur.toList.take o ++ (Builtin.zeroCells z.cells n).toList ++ cur.toList.drop (o + (Builtin.zeroCells z.cells n).toList.length)).toArray, ?_, ?_, ?_⟩
  rotate_left 2
  · obtain ⟨m, rfl⟩ : ∃ m, n = m + 1 := ⟨n - 1, by omega⟩
    simp only [Builtin.clear_, List.getElem?_toArray, List.getElem?_cons_zero, Sem.run_bind, run_underlying ht, Result.andThen_ok, hv, hst, Sem.run_pure]
  · simp only [List.size_toArray, List.length_append, List.length_take, List.length_drop, hzl, Array.length_toList]
    omega
  · rw [List.append_assoc]
    exact List.take_left' (by rw [List.length_take, Array.length_toList]; omega)
theorem step_append_runI {P : Program} {ops : Array Oper} {o : Oper} {a : Act} {w : World} {K : Act → World → Prop} {Q : Exit → Act → World → Prop} {E : Prop}
    (hg : o.guard = none) (d x : Operand) (dT sT : TypeId) (hop : o.op = Op.call { callee := Callee.builtin Builtin.append, args := #[d, x], argTypes := #[dT, sT] })
    (v u : Value) (hd : a.eval d = v) (hx : a.eval x = u) {v' : Value} {w' : World} (hr : (Builtin.append_ #[dT, sT] o.type #[v, u]).run P w = .ok v' w') (hK : K (a.put o.dst v') w') :
    if Region.wanted o (yielded ops a.tmps) = true then Oper.wp P o a w K Q else E := by
  have hw : Region.wanted o (yielded ops a.tmps) = true := by simp [Region.wanted, hg]
  rw [if_pos hw]
  unfold Oper.wp
  simp [execOp, hop, resolve, invoke, builtin, hd, hx, hr, Result.andThen]
  exact hK
set_option maxHeartbeats 4000000 in
set_option maxRecDepth 100000 in
theorem del_none (w : World) (base : Option Addr) (n c : Nat) (hnc : n ≤ c) (hc63 : c ≤ 9223372036854775807) (hnil : base = none → c = 0) :
    Calls Try.prog 49 #[.slice base n c, .int .i64 0, .int .i64 0] w fun e w' => e = .returned (.slice base n c) ∧ w' = w := by
  have mixed : Try.prog.follows .mixedOrders = true := by kernel_rfl
  have u75 := run_underlying und_items
  obtain ⟨i0, hi0, hz0, hzs, hzb⟩ := info_parts info_item
  have z79 : ∀ w, (Go.sizeOf 79).run Try.prog w = .ok 3 w := fun w => by simp [sizeOf, typeInfo, hi0, hzs]
  go_enter Try.func49, Try.ntmps49
  go_wp2
  all_goals (go_ret; exact ⟨rfl, rfl⟩)
set_option maxHeartbeats 4000000 in
set_option maxRecDepth 100000 in
theorem del_some (w : World) (b n c j : Nat) (us : Array Value) (hb : w.heap[b]? = some (.cells us 79)) (hus : us.size = c * 3) (h1c : ∀ v ∈ us.toList.take (n * 3), v.oneCell' = true) (hj0 : 0 < j) (hjn : j ≤ n) (hnc : n ≤ c) (hc63 : c ≤ 9223372036854775807) :
    Calls Try.prog 49 #[.slice (some ⟨b, 0, none⟩) n c, .int .i64 0, .int .i64 j] w fun e w' =>
      e = .returned (.slice (some ⟨b, 0, none⟩) (n - j) c) ∧ ∃ R1 R : Array Value, w' = (w.drew.setRow b R1).setRow b R ∧ R.size = c * 3 ∧ R.toList.take ((n - j) * 3) = (us.toList.drop (j * 3)).take ((n - j) * 3) := by
  have mixed : Try.prog.follows .mixedOrders = true := by kernel_rfl
  have u75 := run_underlying und_items
  obtain ⟨i0, hi0, hz0, hzs, hzb⟩ := info_parts info_item
  have hz79 : ∀ w, (zeroValue 79).run Try.prog w = .ok (.agg #[.int .u32 0, .int .u16 0, .slice none 0 0]) w := fun w => by simp [zeroValue, typeInfo, hi0, hz0]
  have z79 : ∀ w, (Go.sizeOf 79).run Try.prog w = .ok 3 w := fun w => by simp [sizeOf, typeInfo, hi0, hzs]
  have hl0 : us.toList.length = c * 3 := by simpa using hus
  have hcl : ((us.toList.drop (j * 3)).take ((n - j) * 3)).length = (n - j) * 3 := by rw [List.length_take, List.length_drop, hl0]; omega
  obtain ⟨A, hA, hsrc⟩ : ∃ A : Addr, (if c = j then (⟨b, 0, none⟩ : Addr) else ⟨b, j * 3, none⟩) = A ∧ (∀ t u, ((us.toList.drop (j * 3)).take ((n - j) * 3))[t]? = some u → w.drew.cell? (A.add t) = some u) := by
    by_cases h : c = j
    · refine ⟨⟨b, 0, none⟩, by simp [h], fun t u hu => ?_⟩
      rw [List.length_eq_zero_iff.1 (show ((us.toList.drop (j * 3)).take ((n - j) * 3)).length = 0 by rw [hcl]; omega)] at hu
      cases hu
    · refine ⟨⟨b, j * 3, none⟩, by simp [h], fun t u hu => ?_⟩
      rw [List.getElem?_take] at hu
      split at hu
      · rw [List.getElem?_drop] at hu
        rw [Addr.add_lit]
        have hb' : w.drew.heap[b]? = some (.cells us 79) := hb
        simp only [World.cell?, hb']
        simpa using hu
      · cases hu
  obtain ⟨news, hnews⟩ : ∃ news, news = (us.toList.drop (j * 3)).take ((n - j) * 3) := ⟨_, rfl⟩
  rw [← hnews] at hcl hsrc ⊢
  have hn1 : ∀ u ∈ news, u.oneCell' = true := fun v hv => by
    rw [hnews] at hv
    refine h1c v ?_
    obtain ⟨t, ht⟩ := List.getElem?_of_mem hv
    rw [List.getElem?_take] at ht
    split at ht
    · rw [List.getElem?_drop] at ht
      refine List.mem_of_getElem? (i := j * 3 + t) ?_
      rw [List.getElem?_take, if_pos (by omega)]
      exact ht
    · cases ht
  obtain ⟨R1, hR1⟩ : ∃ R1 : Array Value, R1 = (us.toList.take (0 * i0.size) ++ news ++ us.toList.drop (0 * i0.size + news.length)).toArray := ⟨_, rfl⟩
  have hrun : ∀ ty, (Builtin.append_ #[75, 75] ty #[.slice (some ⟨b, 0, none⟩) 0 c, .slice (some A) (n - j) (c - j)]).run Try.prog w.drew = .ok (.slice (some ⟨b, 0, none⟩) (n - j) c) (w.drew.setRow b R1) := fun ty => by
    have h := run_append_room (P := Try.prog) (w := w.drew) 75 ty 79 i0 und_items hi0 b 0 c us hb A (n - j) (c - j) news (by rw [hcl, hzs]) hsrc hn1 (by omega) (by rw [hcl, hus]; omega)
    rw [← hR1, Nat.zero_add] at h
    exact h
  have hR1l : R1.size = c * 3 := by
    rw [hR1]
    simp only [List.size_toArray, List.length_append, List.length_take, List.length_drop, hl0, hcl]
    omega
  have hR1t : R1.toList.take ((n - j) * 3) = news := by
    rw [hR1, Nat.zero_mul, List.take_zero, List.nil_append]
    exact List.take_left' hcl
  obtain ⟨R, hR, hRt, hclr⟩ := run_clear_row (P := Try.prog) (w.drew.setRow b R1) 75 79 0 _ und_items hz79 3 rfl (by decide) b ((n - j) * 3) (n - (n - j)) (c - (n - j)) (by omega) (by omega) R1 79 (setRow_heap w.drew b us R1 _ _ hb) (by rw [hR1l]; omega)
  have hcj : ¬ (c = n - j) := by omega
  have hA' : (if c = j then some (⟨b, 0, none⟩ : Addr) else some ⟨b, j * 3, none⟩) = some A := by rw [← hA]; split <;> rfl
  have hjc : j ≤ c := by omega
  clear hR1 hnews hsrc hcl
  go_enter Try.func49, Try.ntmps49
  go_wp2_with fail
  go_region_law_o (refine step_append_runI rfl _ _ 75 75 rfl (.slice (some ⟨b, 0, none⟩) 0 c) (.slice (some A) (n - j) (c - j)) (by simp [Act.eval, Act.put]) (by simp [Act.eval, Act.put, hA']) (hrun _) ?_)
  go_wp2
  go_ret
  exact ⟨rfl, R1, R, rfl, hR.trans hR1l, hRt.trans hR1t⟩
theorem con_del (cs : List V) (n j : Nat) (hcs : cs.length = n * 3) (hj : j ≤ n) : Con Try.prog 49 [(1000000000, ⟨cs, true, 0, some (79, 3)⟩)] [.sl 1000000000 0 n, i64 0, i64 (j : Int)]
    [(1000000000, ⟨cs.drop (j * 3), true, 0, some (79, 3)⟩)] (.sl 1000000000 0 (n - j)) := by
  refine ⟨⟨_, Try.func49, rfl, rfl⟩, fun X φ w us hφ hX hH hu hg => ?_⟩
  cases hu with
  | cons hu0 hu =>
  cases hu with
  | cons hu1 hu =>
  cases hu with
  | cons hu2 hu =>
  cases hu
  cases hu1
  cases hu2
  have hcd : (cs.drop (j * 3)).length = (n - j) * 3 := by rw [List.length_drop, hcs]; omega
  by_cases hj0 : j = 0
  · subst hj0
    have same : ∀ u0, Rel (Imm φ X w) w φ (.sl 1000000000 0 n) u0 → Calls Try.prog 49 #[u0, .int .i64 0, .int .i64 0] w fun e w' => e = .returned u0 ∧ w' = w := fun u0 h => by
      cases h with
      | slnil hn => exact del_none w none 0 0 (by omega) (by omega) (fun _ => rfl)
      | sl a b c d => exact del_none w _ _ _ b c (fun h => by cases h)
    refine (same _ hu0).mono ?_
    rintro e w' ⟨rfl, rfl⟩
    refine ⟨_, φ, rfl, Frm.refl _ _, ⟨hφ.inj, hφ.lt, hφ.free, hφ.dom⟩, fun id b c h => .inl ⟨id, c, h⟩, ?_, by simpa using hu0, fun id _ _ => .inl rfl⟩
    simpa using hH
  have hB1 := hH 1000000000 _ rfl
  cases hu0 with
  | slnil hnil => omega
  | @sl _ _ _ _ cap b c0 hat hle hcap hk =>
  rw [hat] at hB1
  obtain ⟨uu, el, hb, hr, rfl, cap', n', hc0, hcl, hn', hcap', hus⟩ := hB1
  cases hc0
  obtain rfl : cap = cap' := hk _ rfl rfl
  obtain rfl : n = n' := by rw [hcs] at hcl; omega
  have hrc : RelL (Imm φ X w) w Phi.emp cs (uu.toList.take (n * 3)) := by rw [← hcs]; exact hr
  refine (del_some w b n cap j uu hb hus hrc.2.2 (by omega) hj hn' hcap').mono ?_
  rintro e w' ⟨rfl, R1, R, rfl, hRs, hRt⟩
  refine bldPost hφ hX (noStay (by decide) hat) (by omega) rfl rfl rfl (by simp) (fun x _ hx => ?_) (.inl ⟨_, hat⟩) (setRow_heap _ _ _ _ _ _ (setRow_heap _ _ _ _ _ _ hb)) hRs (by omega) hcap' hcd ?_
  · have hx : x ≠ b := fun h => hx _ _ (h ▸ hat)
    rw [setRow_other _ _ _ _ hx, setRow_other _ _ _ _ hx]
    rfl
  · rw [hRt, show (uu.toList.drop (j * 3)).take ((n - j) * 3) = (uu.toList.take (n * 3)).drop (j * 3) by rw [List.drop_take]; congr 1; omega]
    exact hrc.drop _
end Go.Proofs.Ytlfjnkobnkfioaa
