/- Sets of units: a set as a text. -/
import Derived.Test.YtmeiemdnhjnpcaaDoorBitJ
import Derived.Test.YtmeiemdnhjnpcaaDoorBitS
import Derived.Shelf.RegionOpen
import Derived.RegionIn
namespace Go.Proofs.YtmeiemdnhjnpcaaDoor
open Go Go.Ab Go.RowKit Go.Shelf
set_option linter.unusedSimpArgs false
set_option linter.unusedVariables false
attribute [local go_sem] Oper.semAt_some
theorem step_append_own_in {F : Fence} {n : Nat} {P : Program} {ops : Array Oper} {o : Oper} {a : Act} {w : World} {K : Act → World → Prop} {Q : Exit → Act → World → Prop} {E : Prop} (hgd : o.guard = none) (s x : Operand) (t : TypeId)
    (hop : o.op = Op.call { callee := Callee.builtin Builtin.append, args := #[s, x], argTypes := #[t, t] })
    (base : Nat) (e : TypeId) (i : TypeInfo) (z : Value) (size bytes : Nat) (h1 : P.underlying t = some (.slice e)) (h2 : P.info? e = some i) (h3 : i.zero = some z) (h4 : i.size = size) (h5 : i.bytes = bytes) (h6 : z.cells.size = size) (h7 : 0 < size)
    (v : Value) (k : Nat) (xs : List Value) (hs : a.eval s = v) (hown : w.ownsRow base e size v k xs) (ad : Addr) (m c : Nat) (news : List Value) (hx : a.eval x = .slice (some ad) m c) (hn : news.length = m * size)
    (hc : ∀ j u, news[j]? = some u → w.cell? (ad.add j) = some u) (h1c : ∀ u ∈ news, u.oneCell' = true) (b1 : k + m ≤ maxLen) (b2 : (k + m) * bytes ≤ 140737488355328) (b3 : base ≤ w.heap.size)
    (hK : ∀ v' w', w'.ownsRow base e size v' (k + m) (xs ++ news) → w.grownBy w' v.ownBlock → K (a.put o.dst v') w') :
    if Region.wanted o (yielded ops a.tmps) = true then Oper.wpIn F n P o a w K Q else E := by
  have hw : Region.wanted o (yielded ops a.tmps) = true := by simp [Region.wanted, hgd]
  rw [if_pos hw]
  obtain ⟨v', w', hrun, r1, r2, r3⟩ := run_append_own (P := P) w base t o.type e i z size bytes h1 h2 h3 h4 h5 h6 h7 v k xs hown ad m c news hn hc h1c b1 b2 b3
  unfold Oper.wpIn
  refine ⟨?_, ?_⟩
  · simp [Oper.about, hop, resolve, Target.leads, Sem.run_pure]
  · rw [Oper.semAt_plain F _ _ (by rw [hop]; intro c hc'; cases hc')]
    simp [execOp, hop, resolve, invoke, builtin, hs, hx, hrun, Result.andThen]
    exact hK v' w' r1 r2
theorem info_str : (Tryd.prog.info? 9).map (fun i => (i.zero, i.size, i.bytes)) = some (some (.string ⟨#[]⟩), 1, 16) := by kernel_rfl
/-- A unit in decimal, as a value. -/
def uS (x : Fin 16) : Value := .string (dg x)
/-- A set as a text. -/
def txt (xs : List (Fin 16)) : ByteArray := if xs = [] then ⟨#[45]⟩ else joinT xs
set_option maxRecDepth 100000 in
set_option maxHeartbeats 4000000 in
theorem text_in (n : Nat) (hn : 3 ≤ n) (s : Int) (hs : 0 ≤ s ∧ s < 65536) (w : World) (hG : GOk (OldB w) w) :
    CallsIn Fence.wide n Tryd.prog 18 #[.int .u16 s] w fun e W' => e = .returned (.string (txt (upsF s 0))) ∧ Below w.heap.size w W' := by
  have h1 : 1 ≤ n := by omega
  have h16 := upsF_len s
  obtain ⟨i0, hi, hz0, hz1, hz2⟩ := info_parts info_str
  refine callsIn_of_wp_marks Tryd.func18 rfl trivial ?_ rfl
  simp only [Tryd.ntmps18, List.size_toArray, List.length_cons, List.length_nil, Nat.reduceAdd, Nat.reduceSub, Array.replicate_succ, Array.replicate_zero, List.push_toArray, List.append_toArray, List.nil_append, List.cons_append]
  gi_wp2_with (refine ⟨trivial, ?_⟩; gi_at_call 29; refine (all_in _ s _).mono ?_; rintro e w' ⟨rfl, rfl⟩)
  have bO := Boxed.new w 46 (.slice none 0 0)
  have bN := Boxed.new (w.alloc (.cells #[.slice none 0 0] 46)) 23 (.int .u16 s)
  rw [World.size_alloc] at bN
  have hB0 : Below w.heap.size w ((w.alloc (.cells #[.slice none 0 0] 46)).alloc (.cells #[.int .u16 s] 23)) := ((Below.refl _ w).alloc (Nat.le_refl _) _).alloc (by simp) _
  refine wpIn_rangeFunc_ownG rfl h1 (gf := 33) (lb := #[.pointer (some ⟨w.heap.size + 1, 0, none⟩)]) rfl trivial (enters_of Tryd.func33 (by kernel_rfl) rfl)
    (all_stops (n - 1) (by omega) (w.heap.size + 1) s hs w _ hG hB0 bN) kpB_t (kpB_b (by simp; omega) (by simp)) (Below.refl _ _) (fun _ => rfl)
    (fun pre W => ((∃ v, Boxed W w.heap.size 46 v ∧ W.ownsRow w.heap.size 9 1 v pre.length (pre.map uS) ∧ pre.length ≤ pre.length) ∧ Boxed W (w.heap.size + 1) 23 (.int .u16 s)) ∧ Below w.heap.size w W)
    (fun _ _ _ => False)
    (OwnFrom.and (OwnFrom.and (Own.from (holdsRow_own w.heap.size w.heap.size 46 9 1 (fun (pre : List (Fin 16)) => pre.length) (fun (pre : List (Fin 16)) => pre.map uS) (fun (pre : List (Fin 16)) v => pre.length ≤ pre.length)) _) (Own.from (boxed_own' _ _ _) _)) (ownFrom_below (Nat.le_refl _) (by simp; omega)))
    (fun _ _ _ _ _ hs _ _ => hs)
    ⟨⟨⟨_, bO.alloc _, World.ownsRow_nil _ _ _ _, Nat.le_refl _⟩, bN⟩, hB0⟩
    (fun x => { tmps := #[.int .u16 s, undef, .string ⟨#[]⟩, .pointer (some ⟨w.heap.size, 0, none⟩), .int .i64 (x.val : Nat), .int .u16 s, .func (.func 33) #[] #[.pointer (some ⟨w.heap.size + 1, 0, none⟩)], .int .i64 (x.val : Nat), undef, undef, undef, undef, undef, undef, undef, undef, undef, undef], defers := [] }) ?assign ?body ?done ?stop
  case assign =>
    intro l x W K hK
    gi_wp2
    exact hK
  case body =>
    rintro l pre x W ⟨⟨⟨v, hv, hrow, _⟩, hbx⟩, hB⟩ hlt
    have hc := hv.cell
    have hf := hv.frozen
    have hsz := hbx.lt
    have hml : (100 : Nat) ≤ maxLen := by decide
    have hd : 1 ≤ n - 1 - 1 := by omega
    have hmx : Tryd.prog.follows .mixedOrders = true := by kernel_rfl
    gi_wp2
    refine wpIn_region_any hmx ?_
    try (change wpAnyIn _ _ _ _ _ _ _ _ _ (World.drew _))
    have hvd : Boxed W.drew w.heap.size 46 v := hv
    have hbxd : Boxed W.drew (w.heap.size + 1) 23 (.int .u16 s) := hbx
    have hrowd : W.drew.ownsRow w.heap.size 9 1 v pre.length (pre.map uS) := hrow
    have hBd : w.heap.size ≤ W.drew.heap.size := hB.size
    have hcd : W.drew.cell? ⟨w.heap.size, 0, none⟩ = some v := hc
    have hcd2 : ((W.alloc (.cells #[.string (dg x)] 9)).drew).cell? ⟨w.heap.size, 0, none⟩ = some v := (hv.alloc (.cells #[.string (dg x)] 9)).cell
    refine wpAnyIn_ready (rs := [0, 1]) (by kernel_rfl) (by simp) ?_
    refine AllReadyIn.cons rfl (fun K hK => ?_) (AllReadyIn.cons rfl (fun K hK => ?_) AllReadyIn.nil)
    · go_simp; refine hK _ _ ?_; clear hK K
      refine wpAnyIn_ready (rs := [1]) (by kernel_rfl) (by simp) ?_
      refine AllReadyIn.cons rfl (fun K hK => ?_) AllReadyIn.nil
      go_simp; refine hK _ _ ?_; clear hK K
      refine wpAnyIn_ready (rs := [2]) (by kernel_rfl) (by simp) ?_
      refine AllReadyIn.cons rfl (fun K hK => ?_) AllReadyIn.nil
      go_simp; gi_wp2_with (refine ⟨trivial, ?_⟩; gi_at_call 30; refine (CallsIn.inRound l (callsIn_wide.2 (itoa_calls x _))).mono ?_; rintro e w' ⟨rfl, rfl⟩)
      refine wpAnyIn_ready (rs := [3]) (by kernel_rfl) (by simp) ?_
      refine AllReadyIn.cons rfl (fun K hK => ?_) AllReadyIn.nil
      go_simp; refine hK _ _ ?_; clear hK K
      refine wpAnyIn_ready (rs := [4]) (by kernel_rfl) (by simp) ?_
      refine AllReadyIn.cons rfl (fun K hK => ?_) AllReadyIn.nil
      refine step_append_own_in (by rfl) _ _ 46 rfl w.heap.size 9 i0 (.string ⟨#[]⟩) 1 16 Tryd.underlying46 hi hz0 hz1 hz2 rfl (by decide) _ _ _ rfl (hrowd.alloc _) ⟨W.heap.size, 0, none⟩ 1 1 [.string (dg x)] rfl rfl (cell_one_new _ _ _) (by simp [Value.oneCell']) (by omega) (by omega) (by simp; omega) ?_
      intro v' w1 hown' hgrow
      obtain ⟨g', cap', rfl⟩ := ownsRow_succ hown'
      obtain ⟨hv1, hv2, hr2, hk2, hb2⟩ := hvd.appended (by decide) hrowd hBd (Nat.le_refl _) hown' hgrow
      have hx2 := ((hbxd.alloc _).kept hgrow (hbxd.not_row (by decide) hrowd)).kept (grownBy_setCell' w1 w.heap.size (.slice (some ⟨g', 0, none⟩) (pre.length + 1) cap')) (by simp)
      have hc1 := hv1.cell
      have hf1 := hv1.frozen
      refine hK _ _ ?_
      clear hK K
      refine wpAnyIn_ready (rs := [5]) (by kernel_rfl) (by simp) ?_
      refine AllReadyIn.cons rfl (fun K hK => ?_) AllReadyIn.nil
      go_simp; refine hK _ _ ?_; clear hK K
      refine wpAnyIn_done (by kernel_rfl) ?_ _
      gi_wp2
      have hb3 : Below w.heap.size W (w1.setCell ⟨w.heap.size, 0, none⟩ (.slice (some ⟨g', 0, none⟩) (pre.length + 1) cap')) := ⟨hb2.os, hb2.tape, hb2.output, hb2.size, hb2.block⟩
      have hr4 : (w1.setCell ⟨w.heap.size, 0, none⟩ (.slice (some ⟨g', 0, none⟩) (pre.length + 1) cap')).ownsRow w.heap.size 9 1 (.slice (some ⟨g', 0, none⟩) (pre.length + 1) cap') (pre ++ [x]).length ((pre ++ [x]).map uS) := by
        rw [List.length_append, List.length_singleton, List.map_append]
        exact hr2
      exact ⟨((KeepsOthers.drew _).trans hk2).from _, ⟨hb3, hx2.trans hbx.symm⟩, ⟨⟨_, hv2, hr4, Nat.le_refl _⟩, hx2⟩, hB.trans hb3⟩
    · go_simp; refine hK _ _ ?_; clear hK K
      refine wpAnyIn_ready (rs := [0, 2]) (by kernel_rfl) (by simp) ?_
      refine AllReadyIn.cons rfl (fun K hK => ?_) (AllReadyIn.cons rfl (fun K hK => ?_) AllReadyIn.nil)
      · go_simp; refine hK _ _ ?_; clear hK K
        refine wpAnyIn_ready (rs := [2]) (by kernel_rfl) (by simp) ?_
        refine AllReadyIn.cons rfl (fun K hK => ?_) AllReadyIn.nil
        go_simp; gi_wp2_with (refine ⟨trivial, ?_⟩; gi_at_call 30; refine (CallsIn.inRound l (callsIn_wide.2 (itoa_calls x _))).mono ?_; rintro e w' ⟨rfl, rfl⟩)
        refine wpAnyIn_ready (rs := [3]) (by kernel_rfl) (by simp) ?_
        refine AllReadyIn.cons rfl (fun K hK => ?_) AllReadyIn.nil
        go_simp; refine hK _ _ ?_; clear hK K
        refine wpAnyIn_ready (rs := [4]) (by kernel_rfl) (by simp) ?_
        refine AllReadyIn.cons rfl (fun K hK => ?_) AllReadyIn.nil
        refine step_append_own_in (by rfl) _ _ 46 rfl w.heap.size 9 i0 (.string ⟨#[]⟩) 1 16 Tryd.underlying46 hi hz0 hz1 hz2 rfl (by decide) _ _ _ rfl (hrowd.alloc _) ⟨W.heap.size, 0, none⟩ 1 1 [.string (dg x)] rfl rfl (cell_one_new _ _ _) (by simp [Value.oneCell']) (by omega) (by omega) (by simp; omega) ?_
        intro v' w1 hown' hgrow
        obtain ⟨g', cap', rfl⟩ := ownsRow_succ hown'
        obtain ⟨hv1, hv2, hr2, hk2, hb2⟩ := hvd.appended (by decide) hrowd hBd (Nat.le_refl _) hown' hgrow
        have hx2 := ((hbxd.alloc _).kept hgrow (hbxd.not_row (by decide) hrowd)).kept (grownBy_setCell' w1 w.heap.size (.slice (some ⟨g', 0, none⟩) (pre.length + 1) cap')) (by simp)
        have hc1 := hv1.cell
        have hf1 := hv1.frozen
        refine hK _ _ ?_
        clear hK K
        refine wpAnyIn_ready (rs := [5]) (by kernel_rfl) (by simp) ?_
        refine AllReadyIn.cons rfl (fun K hK => ?_) AllReadyIn.nil
        go_simp; refine hK _ _ ?_; clear hK K
        refine wpAnyIn_done (by kernel_rfl) ?_ _
        gi_wp2
        have hb3 : Below w.heap.size W (w1.setCell ⟨w.heap.size, 0, none⟩ (.slice (some ⟨g', 0, none⟩) (pre.length + 1) cap')) := ⟨hb2.os, hb2.tape, hb2.output, hb2.size, hb2.block⟩
        have hr4 : (w1.setCell ⟨w.heap.size, 0, none⟩ (.slice (some ⟨g', 0, none⟩) (pre.length + 1) cap')).ownsRow w.heap.size 9 1 (.slice (some ⟨g', 0, none⟩) (pre.length + 1) cap') (pre ++ [x]).length ((pre ++ [x]).map uS) := by
          rw [List.length_append, List.length_singleton, List.map_append]
          exact hr2
        exact ⟨((KeepsOthers.drew _).trans hk2).from _, ⟨hb3, hx2.trans hbx.symm⟩, ⟨⟨_, hv2, hr4, Nat.le_refl _⟩, hx2⟩, hB.trans hb3⟩
      · go_simp; gi_wp2_with (refine ⟨trivial, ?_⟩; gi_at_call 30; refine (CallsIn.inRound l (callsIn_wide.2 (itoa_calls x _))).mono ?_; rintro e w' ⟨rfl, rfl⟩)
        refine wpAnyIn_ready (rs := [0, 3]) (by kernel_rfl) (by simp) ?_
        refine AllReadyIn.cons rfl (fun K hK => ?_) (AllReadyIn.cons rfl (fun K hK => ?_) AllReadyIn.nil)
        · go_simp; refine hK _ _ ?_; clear hK K
          refine wpAnyIn_ready (rs := [3]) (by kernel_rfl) (by simp) ?_
          refine AllReadyIn.cons rfl (fun K hK => ?_) AllReadyIn.nil
          go_simp; refine hK _ _ ?_; clear hK K
          refine wpAnyIn_ready (rs := [4]) (by kernel_rfl) (by simp) ?_
          refine AllReadyIn.cons rfl (fun K hK => ?_) AllReadyIn.nil
          refine step_append_own_in (by rfl) _ _ 46 rfl w.heap.size 9 i0 (.string ⟨#[]⟩) 1 16 Tryd.underlying46 hi hz0 hz1 hz2 rfl (by decide) _ _ _ rfl (hrowd.alloc _) ⟨W.heap.size, 0, none⟩ 1 1 [.string (dg x)] rfl rfl (cell_one_new _ _ _) (by simp [Value.oneCell']) (by omega) (by omega) (by simp; omega) ?_
          intro v' w1 hown' hgrow
          obtain ⟨g', cap', rfl⟩ := ownsRow_succ hown'
          obtain ⟨hv1, hv2, hr2, hk2, hb2⟩ := hvd.appended (by decide) hrowd hBd (Nat.le_refl _) hown' hgrow
          have hx2 := ((hbxd.alloc _).kept hgrow (hbxd.not_row (by decide) hrowd)).kept (grownBy_setCell' w1 w.heap.size (.slice (some ⟨g', 0, none⟩) (pre.length + 1) cap')) (by simp)
          have hc1 := hv1.cell
          have hf1 := hv1.frozen
          refine hK _ _ ?_
          clear hK K
          refine wpAnyIn_ready (rs := [5]) (by kernel_rfl) (by simp) ?_
          refine AllReadyIn.cons rfl (fun K hK => ?_) AllReadyIn.nil
          go_simp; refine hK _ _ ?_; clear hK K
          refine wpAnyIn_done (by kernel_rfl) ?_ _
          gi_wp2
          have hb3 : Below w.heap.size W (w1.setCell ⟨w.heap.size, 0, none⟩ (.slice (some ⟨g', 0, none⟩) (pre.length + 1) cap')) := ⟨hb2.os, hb2.tape, hb2.output, hb2.size, hb2.block⟩
          have hr4 : (w1.setCell ⟨w.heap.size, 0, none⟩ (.slice (some ⟨g', 0, none⟩) (pre.length + 1) cap')).ownsRow w.heap.size 9 1 (.slice (some ⟨g', 0, none⟩) (pre.length + 1) cap') (pre ++ [x]).length ((pre ++ [x]).map uS) := by
            rw [List.length_append, List.length_singleton, List.map_append]
            exact hr2
          exact ⟨((KeepsOthers.drew _).trans hk2).from _, ⟨hb3, hx2.trans hbx.symm⟩, ⟨⟨_, hv2, hr4, Nat.le_refl _⟩, hx2⟩, hB.trans hb3⟩
        · go_simp; refine hK _ _ ?_; clear hK K
          refine wpAnyIn_ready (rs := [0]) (by kernel_rfl) (by simp) ?_
          refine AllReadyIn.cons rfl (fun K hK => ?_) AllReadyIn.nil
          go_simp; refine hK _ _ ?_; clear hK K
          refine wpAnyIn_ready (rs := [4]) (by kernel_rfl) (by simp) ?_
          refine AllReadyIn.cons rfl (fun K hK => ?_) AllReadyIn.nil
          refine step_append_own_in (by rfl) _ _ 46 rfl w.heap.size 9 i0 (.string ⟨#[]⟩) 1 16 Tryd.underlying46 hi hz0 hz1 hz2 rfl (by decide) _ _ _ rfl (hrowd.alloc _) ⟨W.heap.size, 0, none⟩ 1 1 [.string (dg x)] rfl rfl (cell_one_new _ _ _) (by simp [Value.oneCell']) (by omega) (by omega) (by simp; omega) ?_
          intro v' w1 hown' hgrow
          obtain ⟨g', cap', rfl⟩ := ownsRow_succ hown'
          obtain ⟨hv1, hv2, hr2, hk2, hb2⟩ := hvd.appended (by decide) hrowd hBd (Nat.le_refl _) hown' hgrow
          have hx2 := ((hbxd.alloc _).kept hgrow (hbxd.not_row (by decide) hrowd)).kept (grownBy_setCell' w1 w.heap.size (.slice (some ⟨g', 0, none⟩) (pre.length + 1) cap')) (by simp)
          have hc1 := hv1.cell
          have hf1 := hv1.frozen
          refine hK _ _ ?_
          clear hK K
          refine wpAnyIn_ready (rs := [5]) (by kernel_rfl) (by simp) ?_
          refine AllReadyIn.cons rfl (fun K hK => ?_) AllReadyIn.nil
          go_simp; refine hK _ _ ?_; clear hK K
          refine wpAnyIn_done (by kernel_rfl) ?_ _
          gi_wp2
          have hb3 : Below w.heap.size W (w1.setCell ⟨w.heap.size, 0, none⟩ (.slice (some ⟨g', 0, none⟩) (pre.length + 1) cap')) := ⟨hb2.os, hb2.tape, hb2.output, hb2.size, hb2.block⟩
          have hr4 : (w1.setCell ⟨w.heap.size, 0, none⟩ (.slice (some ⟨g', 0, none⟩) (pre.length + 1) cap')).ownsRow w.heap.size 9 1 (.slice (some ⟨g', 0, none⟩) (pre.length + 1) cap') (pre ++ [x]).length ((pre ++ [x]).map uS) := by
            rw [List.length_append, List.length_singleton, List.map_append]
            exact hr2
          exact ⟨((KeepsOthers.drew _).trans hk2).from _, ⟨hb3, hx2.trans hbx.symm⟩, ⟨⟨_, hv2, hr4, Nat.le_refl _⟩, hx2⟩, hB.trans hb3⟩
  case done =>
    rintro D ys W hD rfl ⟨⟨⟨v, hv, hrow, _⟩, hbx⟩, hB⟩ hK
    have hc := hv.cell
    have hlast := belowK_b (w := w) (Nat.le_refl _) W D (.deferred (some [])) (.deferred none) (by simp at hD; omega) hK rfl rfl
    rcases hrow.2 with ⟨rfl, h0⟩ | ⟨g, cap, cur, rfl, hg0, hgb, hcap, hcm, hcs, htk⟩
    · have hu : upsF s 0 = [] := List.length_eq_zero_iff.1 h0
      gi_wp2
      refine ⟨by simp, .inl ⟨_, _, rfl, run_takeDeferred hK, ?_⟩⟩
      exact ⟨_, results_tmp rfl _ _ _, by rw [hu]; rfl, hB.trans hlast⟩
    · by_cases hu : upsF s 0 = []
      · rw [hu] at hc
        gi_wp2
        refine ⟨by simp, .inl ⟨_, _, rfl, run_takeDeferred hK, ?_⟩⟩
        exact ⟨_, results_tmp rfl _ _ _, by rw [hu]; rfl, hB.trans hlast⟩
      · have hpos : 0 < (upsF s 0).length := List.length_pos_iff.2 hu
        have hne : ¬ (((upsF s 0).length : Nat) : Int) = 0 := by omega
        have hcells : ∀ (j : Nat) x, (upsF s 0)[j]? = some x → W.cell? ⟨g, j, none⟩ = some (.string (dg x)) := by
          intro j x hx
          have hj : j < (upsF s 0).length := (List.getElem?_eq_some_iff.1 hx).1
          have e : (cur.toList.take ((upsF s 0).length * 1))[j]? = some (uS x) := by rw [htk, List.getElem?_map, hx]; rfl
          rw [List.getElem?_take, if_pos (by omega), Array.getElem?_toList] at e
          simp only [World.cell?, hgb]
          exact e
        have hgl : g < W.heap.size := (Array.getElem?_eq_some_iff.1 hgb).1
        gi_wp2_with (refine ⟨trivial, ?_⟩; gi_at_call 31; refine (callsIn_wide.2 (join_calls g cap (upsF s 0) h16 _ hcells hgl hcap)).mono ?_; rintro e w5 ⟨rfl, hb5⟩)
        have hK5 : w5.heap[D]? = some (.deferred (some [])) := (hb5.block D (Array.getElem?_eq_some_iff.1 hK).1).trans hK
        refine ⟨by simp, .inl ⟨_, _, rfl, run_takeDeferred hK5, ?_⟩⟩
        exact ⟨_, results_tmp rfl _ _ _, by rw [txt, if_neg hu]; rfl, (hB.trans (hb5.mono hB.size)).trans (belowK_b (w := w) (Nat.le_refl _) w5 D _ _ (by simp at hD; omega) hK5 rfl rfl)⟩
  case stop =>
    rintro D c pre W _ _ h _
    exact h.elim
theorem con_text (s : Int) (hs : 0 ≤ s ∧ s < 65536) : Con Tryd.prog 18 [] [u16 s] [] (.val (.string (txt (upsF s 0)))) := by
  refine Con.of_below ⟨_, Tryd.func18, by kernel_rfl, by kernel_rfl⟩ rfl fun w us hu hg => ?_
  cases hu with
  | cons h1 h2 =>
    cases h2
    cases h1
    exact callsIn_wide.1 (text_in 3 (by omega) s hs w hg)
theorem con_told (s most : Int) (hs : 0 ≤ s ∧ s < 65536) (hm : 1 ≤ most ∧ most ≤ 1000) (W : List V) (k : Nat) (hW : ((ups s 0).take most.toNat).map (fun (i : Nat) => i64 (i : Int)) = W) (hk : W.length = k) :
    Con Tryd.prog 21 [] [u16 s, i64 most] [(5, ⟨W, true, 0, some (3, 1)⟩)] (.sl 5 0 k) := by
  have e : (((upsF s 0).take most.toNat).map uI).map V.val = W := by
    rw [← hW, ← upsF_val s 16 0 rfl, ← List.map_take, List.map_map, List.map_map]
    rfl
  have hl : (((upsF s 0).take most.toNat).map uI).length = k := by rw [← hk, ← e]; simp
  rw [← e]
  refine Con.of_row ⟨_, Tryd.func21, by kernel_rfl, by kernel_rfl⟩ (by decide) (fun x hx => ?_) hl fun w us hu hg => ?_
  · obtain ⟨y, _, rfl⟩ := List.mem_map.1 hx
    rfl
  · cases hu with
    | cons h1 h2 =>
      cases h2 with
      | cons h3 h4 =>
        cases h4
        cases h1
        cases h3
        have h := callsIn_wide.1 (told_in 3 (by omega) s most hs hm w hg)
        rw [List.length_map] at hl
        rw [hl] at h
        exact h
theorem txt_awake : txt (upsF 10 0) = ⟨#[49, 32, 51]⟩ := by kernel_rfl
theorem wth_awake : wth 0 [i64 3, i64 1, i64 99] = 10 := by kernel_rfl
theorem wth_awake2 : wth 0 [i64 2] = 4 := by kernel_rfl
theorem has_awake : has 4 2 = true := by kernel_rfl
end Go.Proofs.YtmeiemdnhjnpcaaDoor
