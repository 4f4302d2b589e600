/-
  The law aerielaw22.FdirPicks, for every input: the call returns true, and the arguments read as before. No condition beyond the listed variables, which the card ties to the program's text.
  Frame written by a program of mine (frame.py); the walk is in the texts that this one imports.
-/
import Derived.Test.YtklbonfbiakebaaDoorRows
import Derived.Test.YtklbonfbiakebaaDoorCards
import Derived.Test.YtklbonfbiakebaaDoorTie
import Derived.SevenTiedAt
import Derived.LaidMore
import Derived.Stop.Joined
import Derived.Stop.LaidErr
import Derived.Lib.LaidTab
import Derived.MakeChecks
import Derived.Test.YtklbonfbiakebaaDoorFdiW
import Derived.WalkKit
import Derived.ProofKit
import Derived.OpenShut
import Derived.Below
namespace Go.Proofs.YtklbonfbiakebaaDoor.fdirPicks
open Go.ChangeShapes Go.WideShapes Go.ChangeAt Go.RowKit
open Go.Ab (arg_rel walk_of)
set_option linter.unusedVariables false

theorem own : ownKnob Tryd.prog.godebug = none := by kernel_rfl
theorem laidOut : laidOutB Tryd.prog = true := by kernel_rfl

theorem door_met (os : Os) (args : Array Value) : laidMetH Tryd.prog Rows.fdirPicksRow.laid ((World.doorLaid Tryd.prog 400 os).forCall (fun _ _ => 0) ⟨#[], args, []⟩).memory :=
  laidMetH_of_parts3 (fuel := 8) (laidMet_of_run' 8 (by kernel_rfl) (by kernel_rfl)) (by kernel_rfl) (by kernel_rfl)
theorem tab_rel {W : World} {name : String} {k : IntKind} {zs : List Int} {g : Nat} (h : Lib.TabIs Tryd.prog W name k zs) (hg : Tryd.prog.globalNamed name = some g) (hn : g < W.heap.size) :
    Go.Ab.Rel (Go.Ab.Imm Go.Ab.Phi.emp Go.Ab.noX W) W Go.Ab.Phi.emp (.vp (zs.map fun n => .val (.int k n))) (.pointer (some ⟨g, 0, none⟩)) := by
  refine .vp (us := zs.map fun n => .int k n) (by simp) (fun i hi => ?_) (fun u hu => ?_) (fun j u hu => ⟨g, 0, rfl, ⟨hn, fun _ _ h => (by cases h), fun h => h⟩, ?_⟩)
  · have hi' : i < zs.length := by simpa using hi
    have e : (zs.map fun n => Value.int k n).getD i Go.undef = .int k zs[i] := by simp [List.getD_eq_getElem?_getD, hi']
    rw [e]
    simp only [List.getElem_map]
    exact .val rfl
  · obtain ⟨z, _, rfl⟩ := List.mem_map.1 hu
    rfl
  · obtain ⟨hj, e⟩ := List.getElem?_eq_some_iff.1 hu
    have hj' : j < zs.length := by simpa using hj
    have := h.cell hg j hj'
    rw [Nat.zero_add, this]
    simp only [List.getElem_map] at e
    simp [List.getD_eq_getElem?_getD, hj', ← e]
set_option maxRecDepth 100000 in
theorem gok_of {W : World} (hL : laidMetH Tryd.prog Rows.fdirPicksRow.laid W) : Go.Ab.GOk (Go.Ab.Imm Go.Ab.Phi.emp Go.Ab.noX W) W := by
  have hL : laidMet Tryd.prog Rows.fdirPicksRow.laid W := by rwa [MakeChecks.laidMetH_plain _ _ _ (by kernel_rfl)] at hL
  have t0 : Lib.TabIs Tryd.prog W "strings.asciiSpace" .u8 Go.Ab.gz_asciiSpace := Lib.tabIs_of_head (g := 0) (t := 105) (e := 5) (n := 256) (by kernel_rfl) (by kernel_rfl) Tryd.underlying105 Tryd.underlying5 (by kernel_rfl) (by kernel_rfl) hL.tail
  have g0 := tab_rel t0 (g := 0) (by kernel_rfl) (by
    have := t0.cell (g := 0) (by kernel_rfl) 0 (by decide)
    simp only [World.cell?] at this
    cases hh : W.heap[0]? with
    | none => simp [hh] at this
    | some ob => exact (Array.getElem?_eq_some_iff.1 hh).1)
  intro g xs hl
  simp only [Go.Ab.gTab, Go.Ab.lk] at hl
  split at hl
  · rename_i e
    have e := eq_of_beq e
    subst e
    cases hl
    exact g0
  cases hl

set_option maxRecDepth 100000 in
theorem lifted (os : Os) (started : os.Started) (H : Type) (enc : TypeId × Value → H) :
    ReturnsInHanded {} Tryd.checked os 10 .any (fun w args => (Rows.fdirPicksSpec.pre enc Tryd.prog Tryd.f10 [] false w args ∧ laidMetH Tryd.prog Rows.fdirPicksRow.laid w) ∧ sizedMet enc Tryd.prog Tryd.f10 (OpenSpec.ofChange Rows.fdirPicksSpec) false w args) (Rows.fdirPicksSpec.post enc Tryd.prog Tryd.f10 false true false false) := by
  refine returnsInHanded_of_change_and (C := Tryd.checked) (X := fun w _ => laidMetH Tryd.prog Rows.fdirPicksRow.laid w) (fun _ _ _ hh h => h.of_heap hh) own started (by kernel_rfl) Tryd.func10
    (ChangeSpec.witness_shaped (enc := enc) (C := Tryd.checked) (os := os) (X := fun w _ => laidMetH Tryd.prog Rows.fdirPicksRow.laid w) false (World.doorLaid Tryd.prog 400 os) #[.slice none 0 0, .int .u8 0, .int .u8 0] 8 rfl (World.shaped_of_RefB (by kernel_rfl) (by kernel_rfl)) (by kernel_rfl) (by kernel_rfl) (by kernel_rfl) (door_met os _)) ?_
  intro W base args ds gs before hval0 hW _ _ hL _
  have hval : ∀ (j : Nat) t v, Tryd.f10.params[j]? = some t → args[j]? = some v → Value.okWide Tryd.prog W .any base t v := hval0
  have hW' := hW
  obtain ⟨p, q, hA0, hV, rfl, hfz, hnd⟩ := hW
  have hA : DataW.TrodAll enc Tryd.prog W 0 (fun _ => true) true Tryd.f10.params.toList args.toList ds p := hA0
  rw [Tryd.params10] at hA hval
  obtain ⟨v0, vs0, d0, ds0, p0, q0, hargs, rfl, rfl, h0, r0⟩ := trodAll_cons hA
  obtain ⟨v1, vs1, d1, ds1, p1, q1, rfl, rfl, rfl, h1, r1⟩ := trodAll_cons r0
  obtain ⟨v2, vs2, d2, ds2, p2, q2, rfl, rfl, rfl, h2, r2⟩ := trodAll_cons r1
  obtain ⟨rfl, rfl, rfl⟩ := trodAll_nil r2
  obtain rfl : args = #[v0, v1, v2] := by cases args; simp_all
  obtain ⟨rfl, rfl⟩ := trodVars_none hV
  have k0 := h0
  have lt0 : ∀ x ∈ p0, x.block < W.heap.size := by obtain ⟨m, hm⟩ := k0; exact DataW.trod_lt m _ _ _ hm
  obtain ⟨x0, e0, t0⟩ := arg_rel (n := 9) tcok (hval 0 82 v0 rfl rfl) h0 (by kernel_rfl)
  have k1 := h1
  have lt1 : ∀ x ∈ p1, x.block < W.heap.size := by obtain ⟨m, hm⟩ := k1; exact DataW.trod_lt m _ _ _ hm
  obtain ⟨x1, e1, t1⟩ := arg_rel (n := 9) tcok (hval 1 5 v1 rfl rfl) h1 (by kernel_rfl)
  have k2 := h2
  have lt2 : ∀ x ∈ p2, x.block < W.heap.size := by obtain ⟨m, hm⟩ := k2; exact DataW.trod_lt m _ _ _ hm
  obtain ⟨x2, e2, t2⟩ := arg_rel (n := 9) tcok (hval 2 5 v2 rfl rfl) h2 (by kernel_rfl)
  clear hA0 hval0
  refine (walk_of (w := W) (law_FdirPicks x0 x1 x2 t0 t1 t2) (.cons e0 (.cons e1 (.cons e2 .nil))) (gok_of hL)).mono fun e W' ⟨he, bel⟩ => ?_
  subst he
  exact ⟨_, rfl, _, _, _, [], _, [], hW', trodAll_mk1 (shut_bool Tryd.underlying4 _), (trodAll_cons_mk (Below.trod laidOut (by kernel_rfl) (of_decide_eq_true (by kernel_rfl)) k0 bel lt0) (trodAll_cons_mk (Below.trod laidOut (by kernel_rfl) (of_decide_eq_true (by kernel_rfl)) k1 bel lt1) (trodAll_cons_mk (Below.trod laidOut (by kernel_rfl) (of_decide_eq_true (by kernel_rfl)) k2 bel lt2) trodAll_mk0))), rfl, bel.frame _, fun h => by cases h⟩

theorem over : Rows.fdirPicksRow.holds Tryd.pinned (OpenSpec.ofChange Rows.fdirPicksSpec) :=
  OpenClaim.holds_of_wide 10 Tryd.f10 rfl rfl rfl rfl rfl rfl rfl ⟨rfl, rfl, rfl, rfl, rfl⟩ rfl rfl rfl rfl rfl (by kernel_rfl) Tryd.func10 (by kernel_rfl)
    (of_decide_eq_true (by kernel_rfl)) (by unfold Func.isWrapper; first | (rw [if_pos (by decide +kernel)]; kernel_rfl) | (rw [if_neg (by decide +kernel)]; exact ⟨rfl, rfl⟩))
    (fun os started H enc _ => lifted os started H enc)

/-- The statement: the tied card. -/
theorem proved : Rows.FdirPicksCardSaid :=
  Claim7.holds_tied_plain_at .later [] [.listed, .data] true (true, "669aba737706bb383c1f8f73422475bcfae637dcb0fbe15b55c38a821b781a45") false
    over (fun _ h => by cases h) (by kernel_rfl) (fun _ h => by cases h) fdirPicks_row_tie rfl ⟨rfl, rfl⟩ (by kernel_rfl) rfl
    (fun f fn hf hfn => by
      obtain rfl : f = 10 := Option.some.inj ((show Tryd.prog.funcNamed "aerie/aerielaw22.FdirPicks" = some 10 by kernel_rfl).symm.trans hf) |>.symm
      obtain rfl : fn = Tryd.f10 := (Option.some.inj (Tryd.func10.symm.trans hfn)).symm
      exact ⟨by kernel_rfl, fun j t ht => by
        rw [Tryd.params10] at ht
        have hm : t ∈ [82, 5, 5] := by simpa using Array.mem_of_getElem? ht
        have hall : ([82, 5, 5].all fun u => !Tryd.prog.wantsStandIn u) = true := by kernel_rfl
        exact (show Tryd.prog.wantsStandIn t = false by simpa using List.all_eq_true.1 hall t hm)⟩)
    (by kernel_rfl)
end Go.Proofs.YtklbonfbiakebaaDoor.fdirPicks
