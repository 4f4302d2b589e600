/-
  The law aerielaw25.ExecNil, for every input: the call returns true, and the arguments read as before. No condition beyond the listed variables, which the card ties to the program's text.
  Frame written by a program of mine (frame.py); the walk is in the texts that this one imports.
-/
import Derived.Test.YtcekfepgdfcinaaGreatDoorRows
import Derived.Test.YtcekfepgdfcinaaGreatDoorCards
import Derived.Test.YtcekfepgdfcinaaGreatDoorTie
import Derived.SevenTiedAt
import Derived.LaidMore
import Derived.Deep.DeepLaidRun
import Derived.LaidHandle
import Derived.SizedLaws
import Derived.Handed
import Derived.RowKitTokens
import Derived.Shelf.Vars
import Derived.Stop.Joined
import Derived.Stop.LaidErr
import Derived.Lib.LaidTab
import Derived.MakeChecks
import Derived.Test.YtcekfepgdfcinaaGreatDoorExX
import Derived.WalkKit
import Derived.ProofKit
import Derived.OpenShut
import Derived.Below
namespace Go.Proofs.YtcekfepgdfcinaaGreatDoor.execNil
open Go.ChangeShapes Go.WideShapes Go.ChangeAt Go.RowKit
open Go.Ab (arg_rel walk_of)
set_option linter.unusedVariables false

theorem own : ownKnob Tryz.prog.godebug = none := by kernel_rfl
theorem laidOut : laidOutB Tryz.prog = true := by kernel_rfl

/-- The witness: the world that the door's run leaves. -/
noncomputable def doorW (os : Os) : World := { World.doorLaid Tryz.prog 400 os with heap := (World.doorLaid Tryz.prog 400 os).heap }
theorem door_met (os : Os) (args : Array Value) : laidMetH Tryz.prog Rows.execNilRow.laid ((doorW os).forCall (fun _ _ => 0) ⟨#[], args, []⟩).memory :=
  laidMetH_of_parts3 (fuel := 8) (laidMet_of_run3 8 (by kernel_rfl) (by kernel_rfl) (by kernel_rfl)) (by kernel_rfl) (by kernel_rfl)
/-- 'returnsInHanded_of_change_and', the world's shape kept. -/
theorem wrap {H : Type} {enc : TypeId × Value → H} {a : Assume} {C : Checked} {os : Os} {f : FuncId} {fn : Func} {s : ChangeSpec} {conds : List PathCond} {apart fresh handsOn again : Bool} {X : World → Array Value → Prop}
    (hX : ∀ (w w' : World) (args : Array Value), w.heap = w'.heap → X w args → X w' args)
    (own : ownKnob C.prog.godebug = none) (started : os.Started) (noInit : C.prog.inits.idxOf? f = none) (hfn : C.prog.funcs[f]? = some fn)
    (witness : ∃ (w : World) (tape : Tape) (i : Input), w.os = os ∧ (w.forCall tape i).Shaped C.prog ∧ i.vars = [] ∧ Input.okWide C.prog (w.forCall tape i) .any w.heap.size f i ∧
      ((s.pre enc C.prog fn conds apart (w.forCall tape i).memory i.args ∧ X (w.forCall tape i).memory i.args) ∧ sizedMet enc C.prog fn (OpenSpec.ofChange s) apart (w.forCall tape i).memory i.args) ∧ a.holds C.prog (lone (Frame.enter C.prog f i.args .normal) [] (w.forCall tape i)))
    (contract : ∀ (W : World) (base : Nat) (args : Array Value) (ds gs : List (DataW H)) (before : List MemPlace),
      (∀ (j : Nat) t v, fn.params[j]? = some t → args[j]? = some v → Value.okWide C.prog W .any base t v) →
      DataW.Whole enc C.prog fn.params.toList s.vars apart W args.toList ds gs before → W.ShapedOpen C.prog → X W args →
      Calls C.prog f args W fun e W' => ∃ v, e = .returned v ∧ s.post enc C.prog fn apart fresh handsOn again W args v W') :
    ReturnsInHanded a C os f .any (fun w args => (s.pre enc C.prog fn conds apart w args ∧ X w args) ∧ sizedMet enc C.prog fn (OpenSpec.ofChange s) apart w args) (s.post enc C.prog fn apart fresh handsOn again) := by
  refine returnsInHanded_of_calls own started noInit witness ?_
  intro w tape i _ hsh _ hok hpre hholds
  obtain ⟨_, _, _, fn', hfn', _, _, _, _, hval⟩ := hok
  have e : fn' = fn := Option.some.inj (hfn'.symm.trans hfn)
  subst e
  obtain ⟨⟨⟨ds, gs, before, hw, hc⟩, hx⟩, hz⟩ := hpre
  have hw' := DataW.Whole.of_heap (w' := w.forCall tape i) (by rfl) hw
  refine (contract (w.forCall tape i) w.heap.size i.args ds gs before hval hw' hsh (hX _ _ _ (by rfl) hx)).mono fun e W' ⟨v, he, hp⟩ => ?_
  subst he
  exact ChangeSpec.post_blind hp
theorem lt_of_cell {W : World} {g i : Nat} {v : Value} (h : W.cell? ⟨g, i, none⟩ = some v) : g < W.heap.size := by
  simp only [World.cell?] at h
  cases hh : W.heap[g]? with
  | none => simp [hh] at h
  | some ob => exact (Array.getElem?_eq_some_iff.1 hh).1
theorem heap_of_tabIs {W : World} {name : String} {k : IntKind} {zs : List Int} {g : Nat} (h : Lib.TabIs Tryz.prog W name k zs) (hg : Tryz.prog.globalNamed name = some g) : ∃ t f, W.heap[g]? = some (.cells (zs.map fun z => Value.int k z).toArray t f) := by
  unfold Lib.TabIs World.var? at h
  rw [hg] at h
  simp only [Option.bind_some] at h
  split at h
  · rename_i cs t f e
    cases h
    exact ⟨t, f, e⟩
  · cases h
theorem tab_rel {W : World} {name : String} {k : IntKind} {zs : List Int} {g : Nat} (h : Lib.TabIs Tryz.prog W name k zs) (hg : Tryz.prog.globalNamed name = some g) (hn : g < W.heap.size) :
    Go.Ab.Rel (Go.Ab.Imm Go.Ab.Phi.emp Go.Ab.noX W) W Go.Ab.Phi.emp (.vp (zs.map fun n => .val (.int k n))) (.pointer (some ⟨g, 0, none⟩)) := by
  refine .vp (us := zs.map fun n => .int k n) (by simp) (fun i hi => ?_) (fun u hu => ?_) (fun j u hu => ⟨g, 0, rfl, ⟨hn, fun _ _ h => (by cases h), fun h => h⟩, ?_⟩)
  · have hi' : i < zs.length := by simpa using hi
    have e : (zs.map fun n => Value.int k n).getD i Go.undef = .int k zs[i] := by simp [List.getD_eq_getElem?_getD, hi']
    rw [e]
    simp only [List.getElem_map]
    exact .val rfl
  · obtain ⟨z, _, rfl⟩ := List.mem_map.1 hu
    rfl
  · obtain ⟨hj, e⟩ := List.getElem?_eq_some_iff.1 hu
    have hj' : j < zs.length := by simpa using hj
    have := h.cell hg j hj'
    rw [Nat.zero_add, this]
    simp only [List.getElem_map] at e
    simp [List.getD_eq_getElem?_getD, hj', ← e]
set_option maxRecDepth 100000 in
theorem gok_of {W : World} (hS : W.ShapedOpen Tryz.prog) (hL : laidMetH Tryz.prog Rows.execNilRow.laid W) : Go.Ab.GOk (Go.Ab.Imm Go.Ab.Phi.emp Go.Ab.noX W) W := by
  have hL : laidMet Tryz.prog Rows.execNilRow.laid W := by rwa [MakeChecks.laidMetH_plain _ _ _ (by kernel_rfl)] at hL
  have t0 : Lib.TabIs Tryz.prog W "math/bits.deBruijn32tab" .u8 Go.Ab.gz_deBruijn32tab := Lib.tabIs_of_head (g := 0) (t := 422) (e := 5) (n := 32) (by kernel_rfl) (by kernel_rfl) Tryz.underlying422 Tryz.underlying5 (by kernel_rfl) (by kernel_rfl) hL
  have g0 := tab_rel t0 (g := 0) (by kernel_rfl) (by
    have := t0.cell (g := 0) (by kernel_rfl) 0 (by decide)
    simp only [World.cell?] at this
    cases hh : W.heap[0]? with
    | none => simp [hh] at this
    | some ob => exact (Array.getElem?_eq_some_iff.1 hh).1)
  refine ⟨fun g xs hl => ?_, fun g k hl => ?_⟩
  · simp only [Go.Ab.gTab, Go.Ab.lk] at hl
    split at hl
    · rename_i e
      have e := eq_of_beq e
      subst e
      cases hl
      exact g0
    cases hl
  · cases hl

set_option maxHeartbeats 40000000 in
set_option maxRecDepth 100000 in
theorem lifted (os : Os) (started : os.Started) (H : Type) (enc : TypeId × Value → H) :
    ReturnsInHanded {} Tryz.checked os 10 .any (fun w args => (Rows.execNilSpec.pre enc Tryz.prog Tryz.f10 [] false w args ∧ laidMetH Tryz.prog Rows.execNilRow.laid w) ∧ sizedMet enc Tryz.prog Tryz.f10 (OpenSpec.ofChange Rows.execNilSpec) false w args) (Rows.execNilSpec.post enc Tryz.prog Tryz.f10 false true false false) := by
  refine wrap (C := Tryz.checked) (X := fun w _ => laidMetH Tryz.prog Rows.execNilRow.laid w) (fun _ _ _ hh h => h.of_heap hh) own started (by kernel_rfl) Tryz.func10
    (ChangeSpec.witness_shaped (enc := enc) (C := Tryz.checked) (os := os) (X := fun w _ => laidMetH Tryz.prog Rows.execNilRow.laid w) false (doorW os) #[.agg #[.int .i32 0, .int .i32 0, .int .i32 0, .int .i32 0, .int .i32 0, .int .i32 0, .int .i32 0, .int .i32 0, .int .i32 0, .int .i32 0, .int .i32 0, .int .i32 0, .int .i32 0, .int .i32 0, .int .i32 0, .int .i32 0, .int .u16 0, .int .u16 0, .slice none 0 0, .int .u8 0, .slice none 0 0, .bool false, .bool false], .agg #[.slice none 0 0, .slice none 0 0, .int .u16 0, .int .u16 0, .int .u16 0, .int .u16 0, .int .u16 0, .int .u16 0, .int .u16 0, .int .u16 0, .int .u16 0, .int .u16 0, .int .u16 0, .int .u16 0, .int .u16 0, .int .u16 0, .int .u16 0, .int .u16 0, .int .u8 0, .int .u8 0, .int .u8 0, .int .u8 0, .int .u8 0, .int .u8 0, .slice none 0 0, .slice none 0 0, .int .u8 0, .int .u8 0, .int .u8 0, .int .u8 0, .int .u8 0, .int .u8 0, .int .u8 0, .int .u8 0, .int .u16 0, .int .u16 0, .int .u16 0, .int .u16 0, .int .u8 0, .int .u16 0, .int .i64 0, .int .i64 0]] 8 rfl (World.shaped_of_RefB (by kernel_rfl) (by kernel_rfl)) (by kernel_rfl) (by kernel_rfl) (by kernel_rfl) (door_met os _)) ?_
  intro W base args ds gs before hval0 hW hS hL
  have hval : ∀ (j : Nat) t v, Tryz.f10.params[j]? = some t → args[j]? = some v → Value.okWide Tryz.prog W .any base t v := hval0
  have hW' := hW
  obtain ⟨p, q, hA0, hV, rfl, hfz, hnd⟩ := hW
  have hA : DataW.TrodAll enc Tryz.prog W 0 (fun _ => true) true Tryz.f10.params.toList args.toList ds p := hA0
  rw [Tryz.params10] at hA hval
  obtain ⟨v0, vs0, d0, ds0, p0, q0, hargs, rfl, rfl, h0, r0⟩ := trodAll_cons hA
  obtain ⟨v1, vs1, d1, ds1, p1, q1, rfl, rfl, rfl, h1, r1⟩ := trodAll_cons r0
  obtain ⟨rfl, rfl, rfl⟩ := trodAll_nil r1
  obtain rfl : args = #[v0, v1] := by cases args; simp_all
  obtain ⟨rfl, rfl⟩ := trodVars_none hV
  have k0 := h0
  have lt0 : ∀ x ∈ p0, x.block < W.heap.size := by obtain ⟨m, hm⟩ := k0; exact DataW.trod_lt m _ _ _ hm
  obtain ⟨x0, e0, t0⟩ := arg_rel (n := 9) tcok (hval 0 50 v0 rfl rfl) h0 (by kernel_rfl)
  have k1 := h1
  have lt1 : ∀ x ∈ p1, x.block < W.heap.size := by obtain ⟨m, hm⟩ := k1; exact DataW.trod_lt m _ _ _ hm
  obtain ⟨x1, e1, t1⟩ := arg_rel (n := 9) tcok (hval 1 38 v1 rfl rfl) h1 (by kernel_rfl)
  clear hA0 hval0
  refine (walk_of (w := W) (law_ExecNil x0 x1 t0 t1) (.cons e0 (.cons e1 .nil)) (gok_of hS hL)).mono fun e W' ⟨he, bel⟩ => ?_
  subst he
  exact ⟨_, rfl, _, _, _, [], _, [], hW', trodAll_mk1 (shut_bool Tryz.underlying4 _), (trodAll_cons_mk (Below.trod laidOut (by kernel_rfl) (of_decide_eq_true (by kernel_rfl)) k0 bel lt0) (trodAll_cons_mk (Below.trod laidOut (by kernel_rfl) (of_decide_eq_true (by kernel_rfl)) k1 bel lt1) trodAll_mk0)), rfl, bel.frame _, fun h => by cases h⟩

set_option maxHeartbeats 40000000 in
theorem closed : joinedFacts Tryz.pinned.checked.prog 10 Tryz.f10 Rows.execNilSpec Rows.execNilRow = true := by
  unfold joinedFacts
  (repeat' with_reducible refine Bool.and_eq_true_iff.2 ⟨?_, ?_⟩)
  all_goals (as_aux_lemma => kernel_rfl)

set_option maxHeartbeats 40000000 in
theorem over : Rows.execNilRow.holds Tryz.pinned (OpenSpec.ofChange Rows.execNilSpec) :=
  OpenClaim.holds_of_wide 10 Tryz.f10 rfl rfl rfl rfl rfl rfl rfl ⟨rfl, rfl, rfl, rfl, rfl⟩ rfl rfl rfl rfl rfl (by as_aux_lemma => kernel_rfl) Tryz.func10 closed
    (of_decide_eq_true (by as_aux_lemma => kernel_rfl)) (by unfold Func.isWrapper; first | (rw [if_pos (by as_aux_lemma => decide +kernel)]; kernel_rfl) | (rw [if_neg (by as_aux_lemma => decide +kernel)]; exact ⟨rfl, rfl⟩))
    (fun os started H enc _ => lifted os started H enc)

set_option maxHeartbeats 40000000 in
/-- The statement: the tied card. -/
theorem proved : Rows.ExecNilCardSaid :=
  Claim7.holds_tied_plain_at .later [] [.data] true (true, "d3ed1db08f8e7c462fcc8450ce03830a133a4ab3a25847276acd92d9595181e7") false
    over (fun _ h => by cases h) (by as_aux_lemma => kernel_rfl) (fun _ h => by cases h) execNil_row_tie rfl ⟨rfl, rfl⟩ (by as_aux_lemma => kernel_rfl) rfl
    (fun f fn hf hfn => by
      obtain rfl : f = 10 := Option.some.inj ((show Tryz.prog.funcNamed "aerie/aerielaw25.ExecNil" = some 10 by kernel_rfl).symm.trans hf) |>.symm
      obtain rfl : fn = Tryz.f10 := (Option.some.inj (Tryz.func10.symm.trans hfn)).symm
      exact ⟨by kernel_rfl, fun j t ht => by
        rw [Tryz.params10] at ht
        have hm : t ∈ [50, 38] := by simpa using Array.mem_of_getElem? ht
        have hall : ([50, 38].all fun u => !Tryz.prog.wantsStandIn u) = true := by kernel_rfl
        exact (show Tryz.prog.wantsStandIn t = false by simpa using List.all_eq_true.1 hall t hm)⟩)
    (by as_aux_lemma => kernel_rfl)
end Go.Proofs.YtcekfepgdfcinaaGreatDoor.execNil
