/- Sets of units: what is told of the first ones. -/
import Derived.Test.YtmeiemdnhjnpcaaDoorBitI
namespace Go.Proofs.YtmeiemdnhjnpcaaDoor
open Go Go.Ab Go.RowKit Go.Shelf
set_option linter.unusedSimpArgs false
set_option linter.unusedVariables false
attribute [local go_sem] Oper.semAt_some
theorem ownsRow_le {W : World} {b b' : Nat} {e : TypeId} {size : Nat} {v : Value} {k : Nat} {xs : List Value} (h : W.ownsRow b e size v k xs) (hb : b' ≤ b) : W.ownsRow b' e size v k xs := by
  refine ⟨h.1, ?_⟩
  rcases h.2 with h | ⟨g, cap, cur, h1, h2, h3⟩
  · exact .inl h
  · exact .inr ⟨g, cap, cur, h1, by omega, h3⟩
theorem ne_row {W : World} {b B : Nat} {e : TypeId} {size : Nat} {v : Value} {k : Nat} {xs : List Value} (h : W.ownsRow b e size v k xs) (hB : B < b) : some B ≠ v.ownBlock := by
  rcases h.2 with ⟨rfl, _⟩ | ⟨g, cap, cur, rfl, hb, _⟩
  · simp [Value.ownBlock]
  · intro e'
    have : B = g := by simpa [Value.ownBlock] using e'
    omega
theorem upsF_len (s : Int) : (upsF s 0).length ≤ 16 := by
  have e := upsF_val s 16 0 rfl
  have : (upsF s 0).length = (ups s 0).length := by rw [← e, List.length_map]
  rw [this]
  unfold ups
  exact Nat.le_trans (List.length_filter_le _ _) (by simp)
theorem info_int : (Tryd.prog.info? 3).map (fun i => (i.zero, i.size, i.bytes)) = some (some (.int .i64 0), 1, 8) := by kernel_rfl
/-- A unit, as a value. -/
def uI (x : Fin 16) : Value := .int .i64 ((x.val : Nat) : Int)
set_option maxRecDepth 100000 in
set_option maxHeartbeats 4000000 in
theorem told_in (n : Nat) (hn : 3 ≤ n) (s most : Int) (hs : 0 ≤ s ∧ s < 65536) (hm : 1 ≤ most ∧ most ≤ 1000) (w : World) (hG : GOk (OldB w) w) :
    CallsIn Fence.wide n Tryd.prog 21 #[.int .u16 s, .int .i64 most] w fun e W' => ∃ v, e = .returned v ∧ W'.ownsRow w.heap.size 3 1 v ((upsF s 0).take most.toNat).length (((upsF s 0).take most.toNat).map uI) ∧ Below w.heap.size w W' := by
  have h1 : 1 ≤ n := by omega
  have h16 := upsF_len s
  obtain ⟨i0, hi, hz0, hz1, hz2⟩ := info_parts info_int
  refine callsIn_of_wp_marks Tryd.func21 rfl trivial ?_ rfl
  simp only [Tryd.ntmps21, List.size_toArray, List.length_cons, List.length_nil, Nat.reduceAdd, Nat.reduceSub, Array.replicate_succ, Array.replicate_zero, List.push_toArray, List.append_toArray, List.nil_append, List.cons_append]
  gi_wp2_with (refine ⟨trivial, ?_⟩; gi_at_call 29; refine (all_in _ s _).mono ?_; rintro e w' ⟨rfl, rfl⟩)
  have bM := Boxed.new w 3 (.int .i64 most)
  have bO := Boxed.new (w.alloc (.cells #[.int .i64 most] 3)) 24 (.slice none 0 0)
  have bN := Boxed.new ((w.alloc (.cells #[.int .i64 most] 3)).alloc (.cells #[.slice none 0 0] 24)) 23 (.int .u16 s)
  simp only [World.size_alloc] at bO bN
  have hB0 : Below w.heap.size w (((w.alloc (.cells #[.int .i64 most] 3)).alloc (.cells #[.slice none 0 0] 24)).alloc (.cells #[.int .u16 s] 23)) := (((Below.refl _ w).alloc (Nat.le_refl _) _).alloc (by simp) _).alloc (by simp; omega) _
  refine wpIn_rangeFunc_ownG rfl h1 (gf := 33) (lb := #[.pointer (some ⟨w.heap.size + 1 + 1, 0, none⟩)]) rfl trivial (enters_of Tryd.func33 (by kernel_rfl) rfl)
    (all_stops (n - 1) (by omega) (w.heap.size + 1 + 1) s hs w _ hG hB0 bN) kpB_t (kpB_b (by simp; omega) (by simp)) (Below.refl _ _) (fun _ => rfl)
    (fun pre W => ((∃ v, Boxed W (w.heap.size + 1) 24 v ∧ W.ownsRow (w.heap.size + 3) 3 1 v pre.length (pre.map uI) ∧ (pre.length : Int) < most) ∧ Boxed W w.heap.size 3 (.int .i64 most) ∧ Boxed W (w.heap.size + 1 + 1) 23 (.int .u16 s)) ∧ Below w.heap.size w W)
    (fun c pre W => ((∃ v, Boxed W (w.heap.size + 1) 24 v ∧ W.ownsRow (w.heap.size + 3) 3 1 v pre.length (pre.map uI) ∧ ((pre.length : Int) = most ∧ c = .exit 0))) ∧ Below w.heap.size w W)
    (OwnFrom.and (OwnFrom.and (Own.from (holdsRow_own (w.heap.size + 3) (w.heap.size + 1) 24 3 1 (fun (pre : List (Fin 16)) => pre.length) (fun (pre : List (Fin 16)) => pre.map uI) (fun (pre : List (Fin 16)) v => (pre.length : Int) < most)) _) (OwnFrom.and (Own.from (boxed_own' _ _ _) _) (Own.from (boxed_own' _ _ _) _))) (ownFrom_below (Nat.le_refl _) (by simp; omega)))
    (fun c => OwnFrom.and (Own.from (holdsRow_own (w.heap.size + 3) (w.heap.size + 1) 24 3 1 (fun (pre : List (Fin 16)) => pre.length) (fun (pre : List (Fin 16)) => pre.map uI) (fun (pre : List (Fin 16)) v => (pre.length : Int) = most ∧ c = .exit 0)) _) (ownFrom_below (Nat.le_refl _) (by simp; omega)))
    ⟨⟨⟨_, bO.alloc _, World.ownsRow_nil _ _ _ _, by simp; omega⟩, (bM.alloc _).alloc _, bN⟩, hB0⟩
    (fun x => { tmps := #[.int .u16 s, .int .i64 most, undef, .pointer (some ⟨w.heap.size, 0, none⟩), .slice none 0 0, .pointer (some ⟨w.heap.size + 1, 0, none⟩), .int .i64 (x.val : Nat), .int .u16 s, .func (.func 33) #[] #[.pointer (some ⟨w.heap.size + 1 + 1, 0, none⟩)], .int .i64 (x.val : Nat), undef, undef, undef, undef, undef, undef, undef, undef, undef], defers := [] }) ?assign ?body ?done ?stop
  case assign =>
    intro l x W K hK
    gi_wp2
    exact hK
  case body =>
    rintro l pre x W ⟨⟨⟨v, hv, hrow, hpm⟩, hbm, hbx⟩, hB⟩ hlt
    have hc := hv.cell
    have hcm := hbm.cell
    have hsz := hbx.lt
    have hml : (100 : Nat) ≤ maxLen := by decide
    gi_wp2_with (gi_at_builtin; refine wpListIn_append_own _ rfl _ _ 24 rfl (w.heap.size + 3) 3 i0 (.int .i64 0) 1 8 Tryd.underlying24 hi hz0 hz1 hz2 rfl (by decide) _ _ _ rfl (hrow.alloc _) ⟨W.heap.size, 0, none⟩ 1 1 [.int .i64 (x.val : Nat)] rfl rfl (cell_one_new _ _ _) (by simp [Value.oneCell']) (by omega) (by omega) (by simp; omega) ?_; intro v' w1 hown' hgrow _; obtain ⟨g', cap', rfl⟩ := ownsRow_succ hown'; obtain ⟨hv1, hv2, hr2, hk2, hb2⟩ := hv.appended (by decide) (ownsRow_le hrow (by omega : w.heap.size ≤ w.heap.size + 3)) hB.size (by omega) (ownsRow_le hown' (by omega)) hgrow; have hr3 := hown'.kept (grownBy_setCell' w1 (w.heap.size + 1) (.slice (some ⟨g', 0, none⟩) (pre.length + 1) cap')) (.inr (hv1.not_row (by decide) hown').symm); have hx2 := ((hbx.alloc _).kept hgrow (hbx.not_row (by decide) hrow)).kept (grownBy_setCell' w1 (w.heap.size + 1) (.slice (some ⟨g', 0, none⟩) (pre.length + 1) cap')) (by simp); have hm2 := ((hbm.alloc _).kept hgrow (ne_row hrow (by omega))).kept (grownBy_setCell' w1 (w.heap.size + 1) (.slice (some ⟨g', 0, none⟩) (pre.length + 1) cap')) (by simp); have hc1 := hv1.cell; have hf1 := hv1.frozen; have hc2 := hv2.cell; have hmc := hm2.cell)
    · rename_i hq
      have hq1 : (pre.length : Int) + 1 = most := by simpa using hq
      have hr4 : (w1.setCell ⟨w.heap.size + 1, 0, none⟩ (.slice (some ⟨g', 0, none⟩) (pre.length + 1) cap')).ownsRow (w.heap.size + 3) 3 1 (.slice (some ⟨g', 0, none⟩) (pre.length + 1) cap') (pre ++ [x]).length ((pre ++ [x]).map uI) := by
        rw [List.length_append, List.length_singleton, List.map_append]
        exact hr3
      exact ⟨hk2.from _, ⟨_, hv2, hr4, by rw [List.length_append, List.length_singleton]; omega, rfl⟩, hB.trans hb2⟩
    · rename_i hq
      have hq1 : ¬ (pre.length : Int) + 1 = most := by simpa using hq
      have hr4 : (w1.setCell ⟨w.heap.size + 1, 0, none⟩ (.slice (some ⟨g', 0, none⟩) (pre.length + 1) cap')).ownsRow (w.heap.size + 3) 3 1 (.slice (some ⟨g', 0, none⟩) (pre.length + 1) cap') (pre ++ [x]).length ((pre ++ [x]).map uI) := by
        rw [List.length_append, List.length_singleton, List.map_append]
        exact hr3
      exact ⟨hk2.from _, ⟨hb2, hx2.trans hbx.symm⟩, ⟨⟨_, hv2, hr4, by rw [List.length_append, List.length_singleton]; omega⟩, hm2, hx2⟩, hB.trans hb2⟩
  case done =>
    rintro D ys W hD rfl ⟨⟨⟨v, hv, hrow, hpm⟩, hbm, hbx⟩, hB⟩ hK
    have hc := hv.cell
    gi_wp2
    refine ⟨by simp, .inl ⟨_, _, rfl, run_takeDeferred hK, ?_⟩⟩
    have e : (upsF s 0).take most.toNat = upsF s 0 := List.take_of_length_le (by omega)
    rw [e]
    exact ⟨_, results_tmp rfl _ _ _, v, rfl, ownsRow_putObj (ownsRow_le hrow (by omega)) _ hK rfl, hB.trans (belowK_b (w := w) (Nat.le_refl _) W D _ _ (by simp at hD; omega) hK rfl rfl)⟩
  case stop =>
    rintro D c pre W hD hpre ⟨⟨v, hv, hrow, hpm, rfl⟩, hB⟩ hK
    have hc := hv.cell
    gi_wp2
    refine ⟨by simp, .inl ⟨_, _, rfl, run_takeDeferred hK, ?_⟩⟩
    have e : (upsF s 0).take most.toNat = pre := by
      obtain ⟨r, hr⟩ := hpre
      rw [← hr, List.take_append_of_le_length (by omega), List.take_of_length_le (by omega)]
    rw [e]
    exact ⟨_, results_tmp rfl _ _ _, v, rfl, ownsRow_putObj (ownsRow_le hrow (by omega)) _ hK rfl, hB.trans (belowK_b (w := w) (Nat.le_refl _) W D _ _ (by simp at hD; omega) hK rfl rfl)⟩
end Go.Proofs.YtmeiemdnhjnpcaaDoor
