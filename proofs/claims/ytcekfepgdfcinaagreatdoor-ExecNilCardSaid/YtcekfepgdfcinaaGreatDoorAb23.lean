/- Lists of bytes. -/
import Derived.Test.YtcekfepgdfcinaaGreatDoorAb18b
import Derived.IntWalk
import Derived.Carry
import Derived.WideShapes
import Derived.ProofKit
import Derived.OpenShut
set_option linter.unusedSimpArgs false
set_option linter.unusedVariables false
namespace Go.Ab
open Go.RowKit

theorem Inv.only {C : Cx} {G : Gl} {s : St} {φ : Phi} {a : Act} {w : World} (hI : Inv C G s φ a w) (ok : Nat → Bool) (h1 : tmIn ok s.tm = true) (h2 : HIn ok (onlyH ok s.H) = true) : Inv C G ⟨s.tm, onlyH ok s.H⟩ (φ.only ok) a w := by
  refine ⟨hI.size, hI.defers, fun t x hx => ?_, fun i blk hl => ?_, ⟨fun i j b c c' hi hj => ?_, fun i b c hi => ?_, fun i b c hi => ?_, fun i hi => ?_⟩, hI.x, hI.frm, fun i b c hi => ?_, fun i hb h0 => ?_⟩
  rotate_right
  · show φ.only ok i = _ ∨ lk (onlyH ok s.H) i = none
    rw [lk_onlyH]
    unfold Phi.only
    split
    · exact hI.fix i hb h0
    · exact .inr rfl
  · have h := hI.tm t x hx
    have hin := tmIn_get h1 hx
    cases x with
    | plain y => exact Rel.onlyOk h hin
    | gd d want y => exact ⟨fun e => (h.1 e).onlyOk hin, h.2⟩
  · have hb := HIn_get h2 hl
    rw [lk_onlyH] at hl
    split at hl
    · rename_i hok
      have := hI.hr i blk hl
      show BlkRel _ _ _ (if ok i = true then φ i else .none) _
      rw [if_pos hok]
      exact this.onlyOk hb
    · cases hl
  · unfold Phi.only at hi hj
    split at hi
    · split at hj
      · exact hI.ok.inj _ _ _ _ _ hi hj
      · cases hj
    · cases hi
  · unfold Phi.only at hi
    split at hi
    · exact hI.ok.lt _ _ _ hi
    · cases hi
  · unfold Phi.only at hi
    split at hi
    · exact hI.ok.free _ _ _ hi
    · cases hi
  · rw [lk_onlyH] at hi
    unfold Phi.only
    split
    · rename_i hok
      rw [if_pos hok] at hi
      exact hI.ok.dom i hi
    · rfl
  · unfold Phi.only at hi
    split at hi
    · exact hI.own _ _ _ hi
    · cases hi
section
variable {C : Cx} {c : Code} {s sf : St} {K : Exit → St → Prop}
def okIds (l : List Nat) (id : Nat) : Bool := l.contains id
/-- Only these slots and these own blocks are kept. -/
def keepS (l : List Tmp) (ids : List Nat) (s : St) : Option St :=
  if tmIn (okIds ids) (restr l s.tm) && HIn (okIds ids) (onlyH (okIds ids) s.H) then some ⟨restr l s.tm, onlyH (okIds ids) s.H⟩ else none
theorem AWP.keep' (l : List Tmp) (ids : List Nat) (hk : keepS l ids s = some sf) (h : AWP C c sf K) : AWP C c s K := by
  constructor
  intro G φ a w n hI
  unfold keepS at hk
  split at hk
  · rename_i hc
    cases hk
    simp only [Bool.and_eq_true] at hc
    have hI' : Inv C G (keepT l s) φ a w := ⟨hI.size, hI.defers, fun t x hx => hI.tm t x (lk_restr hx).2, hI.hr, hI.ok, hI.x, hI.frm, hI.own, hI.fix⟩
    exact h.run G _ a w n (hI'.only (okIds ids) hc.1 hc.2)
  · cases hk
end

/-! ### A function -/
def evRes1 (tc : List (Nat × TI)) (s : St) : ResultVar → Option (List Prop × V)
  | .tmp t => (rdT s.tm [] t).map fun v => ([], v)
  | .cell t ty => (rdT s.tm [] t).bind fun v => evLoad tc s.H false ty v
def evRes (tc : List (Nat × TI)) (s : St) : List ResultVar → Option (List V)
  | [] => some []
  | x :: r => match evRes1 tc s x, evRes tc s r with
    | some ([], v), some vs => some (v :: vs)
    | _, _ => none
def tupV : List V → V
  | [v] => v
  | vs => .tup vs
/-- What is handed back: the result, the blocks that go with it. -/
def finish (tc : List (Nat × TI)) (fn : Func) (ids : List Nat) (s : St) : Option (List (Nat × Blk) × V) :=
  match evRes tc s fn.results.toList with
  | some vs => if inIds (okIds ids) (tupV vs) && HIn (okIds ids) (onlyH (okIds ids) s.H) then some (onlyH (okIds ids) s.H, tupV vs) else none
  | none => none
section
variable {C : Cx} {G : Gl} {φ : Phi} {a : Act} {w : World} {s : St}
theorem evRes_ok (hT : TCok C.P C.tc) (hI : Inv C G s φ a w) : ∀ {l : List ResultVar} {vs : List V}, evRes C.tc s l = some vs →
    ∃ us, (l.mapM (fun r => match r with | .tmp t => pure (a.tmps.getD t undef) | .cell t ty => do loadVar ty (← asAddr (a.tmps.getD t undef)) : ResultVar → Sem Value)).run C.P w = .ok us w ∧ Rels (Imm φ G.X w) w φ vs us
  | [], vs, h => by
    cases h
    exact ⟨[], rfl, .nil⟩
  | x :: r, vs, h => by
    unfold evRes at h
    split at h
    · rename_i v vs' h1 h2
      cases h
      obtain ⟨us, q1, q2⟩ := evRes_ok hT hI h2
      cases x with
      | tmp t =>
        simp only [evRes1, Option.map_eq_some_iff, Prod.mk.injEq] at h1
        obtain ⟨v', hv, _, rfl⟩ := h1
        have hr := rdA_ok hI.gok hI.tm0 (ch := []) (fun p hp => by simp at hp) (.tmp t) _ hv
        refine ⟨a.tmps.getD t undef :: us, ?_, .cons hr q2⟩
        rw [List.mapM_cons]
        simp only [Sem.run_bind, Sem.run_pure, Result.andThen_ok, q1]
      | cell t ty =>
        simp only [evRes1, Option.bind_eq_some_iff] at h1
        obtain ⟨v', hv, hl⟩ := h1
        have hr := rdA_ok hI.gok hI.tm0 (ch := []) (fun p hp => by simp at hp) (.tmp t) _ hv
        obtain ⟨z, k1, k2⟩ := evLoad_ok hT hl trivial hr hI.hr
        refine ⟨z :: us, ?_, .cons k2 q2⟩
        rw [List.mapM_cons]
        have e : (do loadVar ty (← asAddr (a.tmps.getD t undef)) : Sem Value).run C.P w = .ok z w := by
          have k1' : (Instr.loadAt ty (a.tmps.getD t undef)).run C.P w = .ok z w := k1
          simp only [Instr.loadAt, Sem.run_bind] at k1' ⊢
          revert k1'
          generalize a.tmps.getD t undef = q
          intro k1'
          cases q <;> simp only [Instr.sureAddr, asAddr, run_stuck, Result.andThen_halt, reduceCtorEq] at k1' ⊢
          rename_i ad
          cases ad <;> simp only [run_stuck, Result.andThen_halt, reduceCtorEq] at k1' ⊢
          exact k1'
        rw [Sem.run_bind, e]
        simp only [Result.andThen_ok, Sem.run_bind, q1, Sem.run_pure]
    · cases h
theorem results_ok (hT : TCok C.P C.tc) (hI : Inv C G s φ a w) {fn : Func} {vs : List V} (h : evRes C.tc s fn.results.toList = some vs) : ∃ u, (results fn a.tmps).run C.P w = .ok u w ∧ Rel (Imm φ G.X w) w φ (tupV vs) u := by
  obtain ⟨us, h1, h2⟩ := evRes_ok hT hI h
  have hm : (fn.results.mapM (fun r => match r with | .tmp t => pure (a.tmps.getD t undef) | .cell t ty => do loadVar ty (← asAddr (a.tmps.getD t undef)) : ResultVar → Sem Value)).run C.P w = .ok us.toArray w := by
    have e : fn.results = fn.results.toList.toArray := by simp
    rw [e, List.mapM_toArray]
    simp only [Sem.run_map]
    have e2 : fn.results.toList.toArray.toList = fn.results.toList := by simp
    rw [h1]
    rfl
  refine ⟨if h : us.toArray.size = 1 then us.toArray[0] else .tuple us.toArray, ?_, ?_⟩
  · unfold results
    rw [Sem.run_bind]
    exact congrArg (fun r => Result.andThen r fun (z : Array Value) w' => Sem.run C.P (pure (if h : z.size = 1 then z[0] else Value.tuple z)) w') hm
  · cases h2 with
    | nil => exact .tup rfl (fun i h => by simp at h)
    | cons k1 k2 =>
      cases k2 with
      | nil => exact k1
      | cons k2 k3 =>
        have := (Rels.cons k1 (Rels.cons k2 k3)).tup
        rw [dif_neg (by simp)]
        exact .tup (by simpa using this.1) (by simpa using this.2)
end

def params : Nat → List V → List (Nat × T)
  | _, [] => []
  | i, x :: r => (i, .plain x) :: params (i + 1) r
theorem lk_params {I : Nat → Prop} {w : World} {φ : Phi} : ∀ {xs : List V} {us : List Value} (i : Nat) {t : Nat} {x : T}, Rels I w φ xs us → lk (params i xs) t = some x → ∃ v, x = .plain v ∧ i ≤ t ∧ ∃ u, us[t - i]? = some u ∧ Rel I w φ v u
  | [], _, i, t, x, _, h => by cases h
  | y :: r, _, i, t, x, hr, h => by
    cases hr with
    | cons h1 h2 =>
      rename_i u us
      simp only [params, lk] at h
      split at h
      · rename_i e
        simp at e
        subst e
        cases h
        exact ⟨y, rfl, Nat.le_refl _, u, by simp, h1⟩
      · obtain ⟨v, e1, e2, u', e3, e4⟩ := lk_params (i + 1) h2 h
        refine ⟨v, e1, by omega, u', ?_, e4⟩
        rw [show t - i = (t - (i + 1)) + 1 by omega]
        simpa using e3

/-! The marks at a function's end. -/
def shutD : List Nat → World → World
  | [], w => w
  | D :: r, w => shutD r (w.putObj D (.deferred none))
theorem shutD_same : ∀ (Ds : List Nat) (w : World), (shutD Ds w).os = w.os ∧ (shutD Ds w).tape = w.tape ∧ (shutD Ds w).output = w.output ∧ (shutD Ds w).heap.size = w.heap.size
  | [], _ => ⟨rfl, rfl, rfl, rfl⟩
  | D :: r, w => by
    obtain ⟨h1, h2, h3, h4⟩ := shutD_same r (w.putObj D (.deferred none))
    exact ⟨h1, h2, h3, h4.trans World.putObj_size⟩
theorem shutD_heap : ∀ (Ds : List Nat) (w : World) (b : Nat), b ∉ Ds → (shutD Ds w).heap[b]? = w.heap[b]?
  | [], _, _, _ => rfl
  | D :: r, w, b, h => by
    have h1 : b ≠ D := fun e => h (by rw [e]; simp)
    have h2 : b ∉ r := fun e => h (by simp [e])
    exact (shutD_heap r _ b h2).trans (World.putObj_heap_other h1)
theorem leaves_marks {F : Fence} {n : Nat} {P : Program} {fn : Func} {tmps : Array Value} {R : Ending → World → Prop} : ∀ (Ds : List Nat) (w : World), Ds.Nodup → (∀ D ∈ Ds, w.heap[D]? = some (.deferred (some []))) →
    (∃ v, (results fn tmps).run P (shutD Ds w) = .ok v (shutD Ds w) ∧ R (.returned v) (shutD Ds w)) → LeavesInM F n P fn tmps R (Ds.map markD) .returning w
  | [], w, _, _, h => h
  | D :: r, w, hn, hD, h => by
    have hn' := List.nodup_cons.1 hn
    refine ⟨by simp, .inl ⟨D, _, rfl, run_takeDeferred (hD D (by simp)), leaves_marks r _ hn'.2 (fun E hE => ?_) h⟩⟩
    exact (World.putObj_heap_other (fun e => hn'.1 (by rw [← e]; exact hE))).trans (hD E (by simp [hE]))
/-- The marks are let go. -/
theorem Inv.shut {C : Cx} {G G' : Gl} {s : St} {φ : Phi} {a : Act} {w : World} (hg : GExt G G') (hI : Inv C G' s φ a w) : ∃ Ds : List Nat, a.defers = Ds.map markD ++ G.ds ∧ Ds.Nodup ∧ (∀ D ∈ Ds, w.heap[D]? = some (.deferred (some []))) ∧
    (G.w0.heap.size ≤ G.w1.heap.size → Inv C G s φ { a with defers := G.ds } (shutD Ds w)) := by
  obtain ⟨Ds, d1, d2, d3, d4⟩ := hg.ds
  refine ⟨Ds, hI.defers.trans d1, d3, fun D hD => (hI.x.2.2 D ((d2 D).2 (.inr hD))).trans (d4 D hD).2, fun h01 => ?_⟩
  obtain ⟨e1, e2, e3, e4⟩ := shutD_same Ds w
  have im : ∀ b, Imm φ G'.X w b → Imm φ G.X (shutD Ds w) b ∧ (shutD Ds w).heap[b]? = w.heap[b]? := fun b hb =>
    ⟨⟨by rw [e4]; exact hb.1, hb.2.1, fun hx => hb.2.2 ((d2 b).2 (.inl hx))⟩, shutD_heap Ds w b (fun hD => hb.2.2 ((d2 b).2 (.inr hD)))⟩
  have own : ∀ i b c, φ i = .at b c → (shutD Ds w).heap[b]? = w.heap[b]? := fun i b c hi => shutD_heap Ds w b (fun hD => hI.ok.free i b c hi ((d2 b).2 (.inr hD)))
  have hnD : ∀ b, b < G.w1.heap.size → b ∉ Ds := fun b hb hD => by
    have := (d4 b hD).1
    omega
  have hlt : ∀ b, G.X b → b < G.w1.heap.size := fun b hx => by
    have h1 := hI.x.1 b ((d2 b).2 (.inl hx))
    have h2 := hg.x b hx
    rw [Array.getElem?_eq_getElem h1] at h2
    exact (Array.getElem?_eq_some_iff.1 h2.symm).1
  refine ⟨hI.size, rfl, fun t x hx => ?_, fun i blk hl => (hI.hr i blk hl).mono im (own i) (fun _ _ _ h => h) (fun _ h => h),
    ⟨hI.ok.inj, fun i b c hi => by rw [e4]; exact hI.ok.lt i b c hi, fun i b c hi hx => hI.ok.free i b c hi ((d2 b).2 (.inl hx)), hI.ok.dom⟩, ⟨fun b hx => ?_, ?_, fun b hx => ?_⟩, ?_, ?_, ?_⟩
  · have := hI.tm t x hx
    cases x with
    | plain y => exact Rel.mono im this _ (fun _ _ _ h => h) (fun _ h => h)
    | gd d want y => exact ⟨fun e => (this.1 e).mono im _ (fun _ _ _ h => h) (fun _ h => h), this.2⟩
  · exact hlt b hx
  · rw [e4]; exact Nat.le_trans hg.w1 hI.x.2.1
  · exact (shutD_heap Ds w b (hnD b (hlt b hx))).trans ((hI.x.2.2 b ((d2 b).2 (.inl hx))).trans (hg.x b hx))
  · have hf := hI.frm
    have q1 := hf.os; have q2 := hf.tape; have q3 := hf.output; have q4 := hf.size; have q5 := hf.block
    rw [hg.w0] at q1 q2 q3 q4 q5
    rw [hg.φ0] at q5
    exact ⟨e1.trans q1, e2.trans q2, e3.trans q3, by rw [e4]; exact q4, fun b hb h0 hx => (shutD_heap Ds w b (hnD b (Nat.lt_of_lt_of_le hb h01))).trans (q5 b hb h0 (fun hx' => by
      rcases (d2 b).1 hx' with h | h
      · exact hx h
      · exact hnD b (Nat.lt_of_lt_of_le hb h01) h))⟩
  · have ho := hI.own
    rw [hg.φ0, hg.w0] at ho
    exact ho
  · have hx := hI.fix
    rw [hg.φ0] at hx
    exact hx
/-- **A CONTRACT, OUT OF A READING OF THE BODY.** -/
theorem Con.of {C : Cx} {f : FuncId} {fn : Func} {c : Code} {Hin Hout : List (Nat × Blk)} {args : List V} {r : V} (ids : List Nat) (hT : TCok C.P C.tc) (hf : C.P.funcs[f]? = some fn) (hb : fn.body = some c) (hn : fn.ntmps = C.n) (hname : (fn.name == "runtime.NumGoroutine") = false) (hle : Nat.ble args.length C.n = true)
    (h : AWP C c ⟨params 0 args, Hin⟩ (fun e s => (e = .normal ∨ e = .ret) ∧ finish C.tc fn ids s = some (Hout, r))) : Con C.P f Hin args Hout r := by
  refine ⟨⟨fn, hf, hname, by simp [hb]⟩, fun X φ w us hφ hX hH hx hg => ?_⟩
  have hlen := hx.tup.1
  have hle' : args.length ≤ C.n := Nat.le_of_ble_eq_true hle
  refine (callsIn_wide (n := 0)).1 (callsIn_of_wp_marks hf hb trivial ?_ rfl)
  let G0 : Gl := ⟨X, φ, w, hg, [], w, none, fun l h => by cases h⟩
  have hI : Inv C G0 ⟨params 0 args, Hin⟩ φ { tmps := us.toArray ++ Array.replicate (fn.ntmps - us.toArray.size) undef, defers := [] } w := by
    refine ⟨by simp [hn]; omega, rfl, fun t x ht => ?_, hH, hφ, ⟨hX, Nat.le_refl _, fun _ _ => rfl⟩, ⟨rfl, rfl, rfl, Nat.le_refl _, fun _ _ _ _ => rfl⟩, fun id b c hs => .inl ⟨id, c, hs⟩, fun id _ _ => .inl rfl⟩
    obtain ⟨v, rfl, _, u, hu, hr⟩ := lk_params 0 hx ht
    show Rel _ _ _ v (Array.getD _ t undef)
    have hu' : us[t]? = some u := by simpa using hu
    have hlt : t < us.length := (List.getElem?_eq_some_iff.1 hu').1
    rw [Array.getD_eq_getD_getElem?, Array.getElem?_append_left (by simpa using hlt)]
    simp only [List.getElem?_toArray, hu', Option.getD_some]
    exact hr
  refine wpIn_mono (h.run G0 φ _ w 0 hI) fun e a' w' ⟨s', φ', G', hge, ⟨he, hfin⟩, hI'⟩ => ?_
  obtain ⟨Ds, hds, hnd, hDs, hsh⟩ := hI'.shut hge
  have hI' := hsh (Nat.le_refl _)
  have hds : a'.defers = Ds.map markD := by rw [hds]; exact List.append_nil _
  have key : LeavesInM Fence.wide 0 C.P fn a'.tmps (fun e w' => ∃ u φ', e = .returned u ∧ Frm φ w w' ∧ Phi.ok φ' X w' Hout ∧ (∀ id b c, φ' id = .at b c → (∃ id0 c0, φ id0 = .at b c0) ∨ w.heap.size ≤ b) ∧
      HR (Imm φ' X w') w' φ' Hout ∧ Rel (Imm φ' X w') w' φ' r u ∧ (∀ id, BIG ≤ id → stayS id (φ id) → φ' id = φ id ∨ lk Hout id = none)) a'.defers .returning w' := by
    rw [hds]
    refine leaves_marks Ds w' hnd hDs ?_
    generalize shutD Ds w' = w' at hI' ⊢
    unfold finish at hfin
    split at hfin
    · rename_i vs hvs
      split at hfin
      · rename_i hc
        cases hfin
        simp only [Bool.and_eq_true] at hc
        obtain ⟨u, h1, h2⟩ := results_ok hT hI' hvs
        have hIo : Inv C G0 ⟨[], onlyH (okIds ids) s'.H⟩ (φ'.only (okIds ids)) { a' with defers := G0.ds } w' := by
          have hI2 : Inv C G0 ⟨[], s'.H⟩ φ' { a' with defers := G0.ds } w' := ⟨hI'.size, hI'.defers, fun t x hx => by (cases hx), hI'.hr, hI'.ok, hI'.x, hI'.frm, hI'.own, hI'.fix⟩
          exact hI2.only (okIds ids) rfl hc.2
        exact ⟨u, h1, u, φ'.only (okIds ids), rfl, ⟨hI'.frm.os, hI'.frm.tape, hI'.frm.output, hI'.frm.size, fun b hb h0 => by
          by_cases hxb : G0.X b
          · exact hI'.x.2.2 b hxb
          · exact hI'.frm.block b hb h0 hxb⟩, hIo.ok, hIo.own, hIo.hr, h2.onlyOk hc.1, hIo.fix⟩
      · cases hfin
    · cases hfin
  rcases he with rfl | rfl <;> exact key
/-- A contract, its own numbers greater by k. -/
theorem Con.shift {P : Program} {f : FuncId} {Hout H' : List (Nat × Blk)} {args : List V} {r r' : V} (h : Con P f [] args Hout r) (k : Nat) (hs : renH k Hout = H') (hr : ren k r = r') : Con P f [] args H' r' := by
  subst hs hr
  refine ⟨h.1, fun X φ w us a b c d g => Calls.mono (h.2 X φ w us a b c d g) ?_⟩
  rintro e w' ⟨u, φ', he, hf, hok, hown, hhr, hrel, _⟩
  have im : ∀ b, Imm φ' X w' b → Imm (φ'.sh k) X w' b ∧ w'.heap[b]? = w'.heap[b]? := fun b h => ⟨⟨h.1, fun id c hs => h.2.1 _ c (Phi.sh_at hs).1, h.2.2⟩, rfl⟩
  have hk : ∀ id, φ' id ≠ .none → φ'.sh k (id + k) = φ' id := fun id _ => Phi.sh_add id
  refine ⟨u, φ'.sh k, he, hf, ⟨fun i j b c c' hi hj => ?_, fun i b c hi => ?_, fun i b c hi => ?_, fun i hi => ?_⟩, fun i b c hi => ?_, fun i blk hl => ?_, Rel.mono im (hrel.ren (φ'.sh k) hk) _ (fun _ _ _ h => h) (fun _ h => h), fun id _ h0 => by rw [a.dom id rfl] at h0; exact h0.elim⟩
  · obtain ⟨h1, k1⟩ := Phi.sh_at hi
    obtain ⟨h2, k2⟩ := Phi.sh_at hj
    have := hok.inj _ _ _ _ _ h1 h2
    omega
  · exact hok.lt _ _ _ (Phi.sh_at hi).1
  · exact hok.free _ _ _ (Phi.sh_at hi).1
  · unfold Phi.sh
    split
    · rfl
    · rename_i hge
      refine hok.dom _ ?_
      cases hc : lk Hout (i - k) with
      | none => rfl
      | some b0 =>
        have := lk_renH_of (k := k) hc
        rw [show i - k + k = i by omega] at this
        rw [this] at hi
        cases hi
  · exact hown _ _ _ (Phi.sh_at hi).1
  · obtain ⟨id, b0, rfl, h1, rfl⟩ := lk_renH hl
    rw [Phi.sh_add]
    exact ((hhr id b0 h1).ren (φ'.sh k) hk).mono im (fun _ _ _ => rfl) (fun _ _ _ h => h) (fun _ h => h)
theorem Con.args {P : Program} {f : FuncId} {Hin Hout : List (Nat × Blk)} {args args' : List V} {r : V} (e : args = args') (h : Con P f Hin args' Hout r) : Con P f Hin args Hout r := e ▸ h
theorem sl_vs {X : Nat → Prop} {w : World} {φ : Phi} {id n : Nat} {cs : List V} {q : Nat × Nat} {u : Value} (hok : Phi.ok φ X w [(id, ⟨cs, true, 0, some q⟩)]) (hhr : HR (Imm φ X w) w φ [(id, ⟨cs, true, 0, some q⟩)]) (hq : 0 < q.2) (h : Rel (Imm φ X w) w φ (.sl id 0 n) u) : Rel (Imm Phi.emp X w) w Phi.emp (.vs cs n) u := by
  have hb := hhr id ⟨cs, true, 0, some q⟩ (by simp [lk])
  cases h with
  | sl hs q1 q2 q3 =>
    rename_i cap b c
    rw [hs] at hb
    have hmp : isMp ⟨cs, true, 0, some q⟩ = false := isMp_some (e := q.1) (sz := q.2) rfl hq
    simp only [BlkRel, hmp] at hb
    obtain ⟨us, el, hh, hr, hk⟩ := hb
    have im : ∀ b, Imm φ X w b → Imm Phi.emp X w b ∧ w.heap[b]? = w.heap[b]? := fun b h => ⟨⟨h.1, fun _ _ h => (by cases h), h.2.2⟩, rfl⟩
    have hr' : RelL (Imm Phi.emp X w) w Phi.emp cs (us.toList.take cs.length) := RelL.mono im hr (fun _ _ _ h => h) (fun _ h => h)
    refine .vs hr'.1 hr'.2.1 hr'.2.2 (fun j v hv => ⟨b, 0, rfl, ⟨hok.lt _ _ _ hs, fun _ _ h => (by cases h), hok.free _ _ _ hs⟩, ?_⟩) (fun e => by cases e) q1 q2
    rw [List.getElem?_take] at hv
    split at hv
    · simp only [Nat.zero_add]
      simp [World.cell?, hh]
      simpa using hv
    · cases hv
  | slnil hs =>
    rw [hs] at hb
    have hc : cs = [] := hb.1
    subst hc
    exact .vs (us := []) rfl (fun i h => by simp at h) (fun u h => by simp at h) (fun j u h => by simp at h) (fun _ => rfl) (Nat.zero_le _) (Nat.zero_le _)
theorem emp_ok {X : Nat → Prop} {w : World} : Phi.ok Phi.emp X w [] := ⟨fun _ _ _ _ _ h => (by cases h), fun _ _ _ h => (by cases h), fun _ _ _ h => (by cases h), fun _ _ => rfl⟩
/-- What is handed back is nobody's: it may be taken as bytes that nobody writes. -/
theorem Con.frz1 {P : Program} {f : FuncId} {args : List V} {id n : Nat} {cs : List V} {q : Nat × Nat} (h : Con P f [] args [(id, ⟨cs, true, 0, some q⟩)] (.sl id 0 n)) (hq : 0 < q.2 := by decide) : Con P f [] args [] (.vs cs n) := by
  refine ⟨h.1, fun X φ w us a b c d g => Calls.mono (h.2 X φ w us a b c d g) ?_⟩
  rintro e w' ⟨u, φ', he, hf, hok, hown, hhr, hrel, _⟩
  exact ⟨u, Phi.emp, he, hf, emp_ok, fun _ _ _ h => (by cases h), fun _ _ h => (by cases h), sl_vs hok hhr hq hrel, fun id _ h0 => by rw [a.dom id rfl] at h0; exact h0.elim⟩
/-! What is owned is let go: bytes that nobody writes any more. -/
def frzT1 (id : Nat) (cs : List V) : T → T
  | .plain (.sl j off n) => if Nat.beq j id then .plain (.vs (dropC off cs) n) else .plain (.sl j off n)
  | x => if tIn (neId id) x then x else .plain .top
def frzTm (id : Nat) (cs : List V) : List (Nat × T) → List (Nat × T)
  | [] => []
  | (t, x) :: r => (t, frzT1 id cs x) :: frzTm id cs r
def frzV1 (id : Nat) (cs : List V) : V → V
  | .sl j off n => if Nat.beq j id then .vs (dropC off cs) n else .sl j off n
  | x => x
def frzB (id : Nat) (cs : List V) (b : Blk) : Blk :=
  if b.flat then b else { b with cells := b.cells.map (frzV1 id cs), flat := (b.cells.map (frzV1 id cs)).all flat }
def frzH (id : Nat) (cs : List V) : List (Nat × Blk) → List (Nat × Blk)
  | [] => []
  | (j, b) :: r => if Nat.beq j id then frzH id cs r else (j, frzB id cs b) :: frzH id cs r
def frzS (id : Nat) (s : St) : Option St :=
  match lkC s.H id with
  | some blk => if blk.flat && (blk.bld.isSome && HIn (neId id) (frzH id blk.cells s.H)) then some ⟨frzTm id blk.cells s.tm, frzH id blk.cells s.H⟩ else none
  | none => none
theorem lk_frzH {id : Nat} {cs : List V} : ∀ {H : List (Nat × Blk)} (i : Nat), lk (frzH id cs H) i = if i = id then none else (lk H i).map (frzB id cs)
  | [], i => by simp [frzH, lk]
  | (j, b) :: r, i => by
    simp only [frzH]
    split
    · rename_i e
      have e := Nat.eq_of_beq_eq_true e
      subst e
      rw [lk_frzH i]
      split
      · rfl
      · rename_i hne
        simp only [lk, beq_iff_eq]
        rw [if_neg hne]
    · rename_i e
      simp only [lk, beq_iff_eq]
      by_cases h : i = j
      · subst h
        have : ¬ i = id := fun e2 => e (by subst e2; exact Nat.beq_refl i)
        simp [this]
      · rw [if_neg h, if_neg h]
        exact lk_frzH i
theorem flat_in {ok : Nat → Bool} {x : V} (h : flat x = true) : inIds ok x = true := by
  cases x with
  | agg fl cs =>
    simp only [flat] at h
    subst h
    rfl
  | val _ => rfl
  | vs _ _ => rfl
  | vp _ => rfl
  | bo => rfl
  | top => rfl
  | ptr _ _ => cases h
  | sl _ _ _ => cases h
  | tup _ => cases h
  | clo _ _ _ => cases h
  | mp _ => cases h
theorem lk_frzTm {id : Nat} {cs : List V} : ∀ {tm : List (Nat × T)} {t : Nat} {x : T}, lk (frzTm id cs tm) t = some x → ∃ y, lk tm t = some y ∧ x = frzT1 id cs y
  | [], _, _, h => by cases h
  | (q, y) :: r, t, x, h => by
    simp only [frzTm, lk] at h ⊢
    split at h
    · rename_i e
      cases h
      exact ⟨y, by rw [if_pos e], rfl⟩
    · rename_i e
      obtain ⟨z, h1, h2⟩ := lk_frzTm h
      exact ⟨z, by rw [if_neg e]; exact h1, h2⟩
theorem sl_vsO {X : Nat → Prop} {w : World} {φ : Phi} {H : List (Nat × Blk)} {id off n : Nat} {blk : Blk} {u : Value} (hb : lkC H id = some blk) (hf : blk.flat = true) (hok : Phi.ok φ X w H) (hhr : HR (Imm φ X w) w φ H) (h : Rel (Imm φ X w) w φ (.sl id off n) u) : Rel (Imm (φ.only (neId id)) X w) w (φ.only (neId id)) (.vs (dropC off blk.cells) n) u := by
  rw [dropC_eq]
  have hbr := hhr id _ (lkC_lk hb).1
  cases h with
  | sl hs q1 q2 q3 =>
    rename_i cap b c
    obtain ⟨us, el, hh, hr, hk⟩ := slot_blk hhr hb hs
    rw [hf] at hr
    have im : ∀ b, Imm φ X w b → Imm (φ.only (neId id)) X w b ∧ w.heap[b]? = w.heap[b]? := fun b h => ⟨only_imm h, rfl⟩
    have hr' : RelL (Imm (φ.only (neId id)) X w) w Phi.emp (blk.cells.drop off) ((us.toList.take blk.cells.length).drop off) := RelL.drop (RelL.mono im hr (fun _ _ _ h => h) (fun _ h => h)) off
    refine .vs hr'.1 hr'.2.1 hr'.2.2 (fun j v hv => ⟨b, off, rfl, ⟨hok.lt _ _ _ hs, fun i c' hi => ?_, hok.free _ _ _ hs⟩, ?_⟩) (fun e => by cases e) q1 q2
    · unfold Phi.only at hi
      split at hi
      · rename_i hne
        have := hok.inj _ _ _ _ _ hi hs
        subst this
        simp [neId] at hne
      · cases hi
    · rw [List.getElem?_drop, List.getElem?_take] at hv
      split at hv
      · simp [World.cell?, hh]
        simpa using hv
      · cases hv
  | slnil hs =>
    rw [hs] at hbr
    have hc : blk.cells = [] := hbr.1
    rw [hc]
    exact .vs (us := []) rfl (fun i h => by simp at h) (fun u h => by simp at h) (fun j u h => by simp at h) (fun _ => rfl) (Nat.zero_le _) (Nat.zero_le _)
theorem Inv.frz {C : Cx} {G : Gl} {s s' : St} {φ : Phi} {a : Act} {w : World} (hI : Inv C G s φ a w) {id : Nat} (h : frzS id s = some s') : Inv C G s' (φ.only (neId id)) a w := by
  unfold frzS at h
  split at h
  case h_2 => cases h
  rename_i blk hb
  split at h
  case isFalse => cases h
  rename_i hc
  cases h
  simp only [Bool.and_eq_true] at hc
  obtain ⟨hf, _, hrest⟩ := hc
  refine ⟨hI.size, hI.defers, fun t x hx => ?_, fun i blk' hl => ?_, ⟨fun i j b c c' hi hj => ?_, fun i b c hi => ?_, fun i b c hi => ?_, fun i hi => ?_⟩, hI.x, hI.frm, fun i b c hi => ?_, fun i hbg h0 => ?_⟩
  rotate_right
  · show φ.only (neId id) i = _ ∨ lk (frzH id blk.cells s.H) i = none
    rw [lk_frzH]
    by_cases e : i = id
    · exact .inr (if_pos e)
    · rw [if_neg e]
      have hni : neId id i = true := by
        unfold neId
        cases hc : Nat.beq i id with
        | true => exact absurd (Nat.eq_of_beq_eq_true hc) e
        | false => rfl
      unfold Phi.only
      rw [if_pos hni]
      rcases hI.fix i hbg h0 with h | h
      · exact .inl h
      · exact .inr (by rw [h]; rfl)
  · obtain ⟨y, hy, rfl⟩ := lk_frzTm hx
    have h := hI.tm t y hy
    have other : ∀ y, TRel (Imm φ G.X w) w φ a.tmps t y → TRel (Imm (φ.only (neId id)) G.X w) w (φ.only (neId id)) a.tmps t (if tIn (neId id) y = true then y else .plain .top) := fun y h => by
      split
      · rename_i hin
        cases y with
        | plain y => exact Rel.onlyOk h hin
        | gd d want y => exact ⟨fun e => (h.1 e).onlyOk hin, h.2⟩
      · exact Rel.top
    unfold frzT1
    split
    · rename_i j off n
      split
      · rename_i e
        have e := Nat.eq_of_beq_eq_true e
        subst e
        exact sl_vsO hb hf hI.ok hI.hr h
      · rename_i e
        refine Rel.onlyOk h ?_
        show neId id j = true
        unfold neId
        cases hc : Nat.beq j id with
        | true => exact absurd hc e
        | false => rfl
    · exact other _ h
  · have hl : lk (frzH id blk.cells s.H) i = some blk' := hl
    have hin := HIn_get hrest hl
    rw [lk_frzH] at hl
    split at hl
    · cases hl
    rename_i hne
    simp only [Option.map_eq_some_iff] at hl
    obtain ⟨b0, hb0, rfl⟩ := hl
    have hni : neId id i = true := by
      unfold neId
      cases hc : Nat.beq i id with
      | true => exact absurd (Nat.eq_of_beq_eq_true hc) hne
      | false => rfl
    have h0 := hI.hr i b0 hb0
    show BlkRel _ _ _ (if neId id i = true then φ i else .none) _
    rw [if_pos hni]
    unfold frzB at hin ⊢
    cases hfl : b0.flat with
    | true =>
      rw [hfl] at hin
      simp only [if_true] at hin ⊢
      exact h0.onlyOk hin
    | false =>
      rw [hfl] at hin
      simp only [Bool.false_eq_true, if_false] at hin ⊢
      have one : ∀ x ∈ b0.cells.map (frzV1 id blk.cells), inIds (neId id) x = true := fun x hx => by
        simp only [blkIn, Bool.or_eq_true] at hin
        rcases hin with hin | hin
        · exact flat_in (List.all_eq_true.1 hin _ hx)
        · obtain ⟨j, hj, rfl⟩ := List.getElem_of_mem hx
          exact inIdsL_get hin j hj
      refine h0.imp (frzV1 id blk.cells) ((b0.cells.map (frzV1 id blk.cells)).all flat) (fun _ _ _ => rfl) (fun x hx u h1 => ?_)
      rw [hfl] at h1
      have h1 : Rel (Imm φ G.X w) w φ x u := h1
      have h2 := one _ (List.mem_map_of_mem hx)
      have hR : Rel (Imm (φ.only (neId id)) G.X w) w (φ.only (neId id)) (frzV1 id blk.cells x) u := by
        unfold frzV1 at h2 ⊢
        split
        · rename_i jj off n
          split
          · rename_i e
            have e := Nat.eq_of_beq_eq_true e
            subst e
            exact sl_vsO hb hf hI.ok hI.hr h1
          · rename_i e
            simp only [e, if_false, Bool.false_eq_true] at h2
            exact h1.onlyOk h2
        · rename_i hno
          refine h1.onlyOk ?_
          split at h2
          · exact absurd rfl (hno _ _ _)
          · exact h2
      cases hall : (b0.cells.map (frzV1 id blk.cells)).all flat with
      | false => exact hR
      | true => exact hR.emp (List.all_eq_true.1 hall _ (List.mem_map_of_mem hx))
  · unfold Phi.only at hi hj
    split at hi
    · split at hj
      · exact hI.ok.inj _ _ _ _ _ hi hj
      · cases hj
    · cases hi
  · unfold Phi.only at hi
    split at hi
    · exact hI.ok.lt _ _ _ hi
    · cases hi
  · unfold Phi.only at hi
    split at hi
    · exact hI.ok.free _ _ _ hi
    · cases hi
  · have hi : lk (frzH id blk.cells s.H) i = none := hi
    rw [lk_frzH] at hi
    unfold Phi.only
    split
    · rename_i hok
      split at hi
      · rename_i e
        subst e
        simp [neId] at hok
      · simp only [Option.map_eq_none_iff] at hi
        exact hI.ok.dom i hi
    · rfl
  · unfold Phi.only at hi
    split at hi
    · exact hI.own _ _ _ hi
    · cases hi
theorem AWP.frz {C : Cx} {c : Code} {s s' : St} {K : Exit → St → Prop} (id : Nat) (hs : frzS id s = some s') (h : AWP C c s' K) : AWP C c s K := ⟨fun G φ a w n hI => h.run G _ a w n (hI.frz hs)⟩
end Go.Ab

set_option linter.unusedSimpArgs false
set_option linter.unusedVariables false
namespace Go.Ab
open Go.RowKit
section
variable {e : Int}
theorem wr_u8 (h0 : 0 ≤ e) (h1 : e < 256) : V.val (.int .u8 (IntKind.wrap .u8 e)) = V.val (.int .u8 e) := by rw [IntWalk.u8_in e ⟨h0, by omega⟩]
theorem wr_u16 (h0 : 0 ≤ e) (h1 : e < 65536) : V.val (.int .u16 (IntKind.wrap .u16 e)) = V.val (.int .u16 e) := by rw [IntWalk.u16_in e ⟨h0, by omega⟩]
theorem wr_i64 (h0 : -9223372036854775808 ≤ e) (h1 : e < 9223372036854775808) : V.val (.int .i64 (IntKind.wrap .i64 e)) = V.val (.int .i64 e) := by rw [IntWalk.i64_in e ⟨h0, by omega⟩]
theorem in_eq {k : IntKind} {n : Int} (h : e = n) : V.val (.int k e) = V.val (.int k n) := by rw [h]
end
/-- A loop of so many rounds at most, round by round. -/
def Unr (C : Cx) (c : Code) (K : Exit → St → Prop) : Nat → St → Prop
  | 0, _ => False
  | n + 1, s => AWP C c s (fun e s' => match e with | .normal => Unr C c K n s' | e => K e s')
theorem AWP.unroll {C : Cx} {c : Code} {s : St} {K : Exit → St → Prop} (n : Nat) (h : Unr C c K n s) : AWP C (.loop c) s K := by
  refine AWP.loop (fun n s => Unr C c K n s) n h (fun n s hs => ?_)
  cases n with
  | zero => exact hs.elim
  | succ n =>
    refine AWP.mono (show AWP C c s _ from hs) (fun e s' he => ?_)
    cases e <;> first | exact ⟨n, by omega, he⟩ | exact he
/-- A region, and what is kept behind it. -/
def regK (C : Cx) (ops : List Oper) (draw : Bool) (hs : List (Nat × Hint)) (l : List Tmp) (ids : List Nat) (s : St) : Option (List Prop × St) :=
  match runR C ops draw hs s with
  | some (os, sf) => (match keepS l ids sf with | some s' => some (os, s') | none => none)
  | none => none
theorem AWP.regionT {C : Cx} {s s' : St} {y : Code} {K : Exit → St → Prop} {os : List Prop} (hT : TCok C.P C.tc) (hm : C.P.follows .mixedOrders = true) {id : Nat} {ops : List Oper} {draw : Bool} (hs : List (Nat × Hint)) (l : List Tmp) (ids : List Nat)
    (hr : regK C ops draw hs l ids s = some (os, s')) (ho : AllP os) (hk : AWP C y s' K) : AWP C (.region id ops.toArray draw) s (thenK C y K) := by
  unfold regK at hr
  split at hr
  · rename_i os1 sf h1
    split at hr
    · rename_i s1 h2
      cases hr
      exact AWP.region hT hm hs h1 ho (AWP.keep' l ids h2 hk)
    · cases hr
  · cases hr
/-- What a round leaves: so much is kept, and it holds again, with less to go. -/
def Nxt (l : List Tmp) (ids : List Nat) (I : Nat → St → Prop) (n : Nat) (s : St) : Prop := ∃ s', keepS l ids s = some s' ∧ ∃ m, m < n ∧ I m s'
def loopK (l : List Tmp) (ids : List Nat) (I : Nat → St → Prop) (n : Nat) (K : Exit → St → Prop) : Exit → St → Prop
  | .normal, s => Nxt l ids I n s
  | e, s => K e s
theorem AWP.loopI {C : Cx} {c : Code} {s s0 : St} {K : Exit → St → Prop} (l : List Tmp) (ids : List Nat) (I : Nat → St → Prop) (n : Nat) (hk : keepS l ids s = some s0) (h : I n s0)
    (hs : ∀ n s, I n s → AWP C c s (loopK l ids I n K)) : AWP C (.loop c) s K := by
  refine AWP.loop (fun n s => ∃ s', keepS l ids s = some s' ∧ I n s') n ⟨s0, hk, h⟩ (fun n s ⟨s', h1, h2⟩ => ?_)
  refine AWP.mono (AWP.keep' l ids h1 (hs n s' h2)) (fun e s' he => ?_)
  cases e with
  | normal =>
    obtain ⟨s2, k1, m, hm, k2⟩ := (he : Nxt l ids I n s')
    exact ⟨m, hm, s2, k1, k2⟩
  | exit j => exact he
  | goto j => exact he
  | ret => exact he
  | panic c => exact he
  | outgrown => exact he
end Go.Ab

set_option linter.unusedSimpArgs false
set_option linter.unusedVariables false
namespace Go.Ab
open Go.RowKit

/-- Values that are of a type: numbers within their kind, slices with as many elements as their length says. -/
def TyFs (tc : List (Nat × TI)) (ty : TypeId → List V → Prop) : List Field → List V → Prop
  | [], xs => xs = []
  | f :: fs, xs => ∃ a b, xs = a ++ b ∧ ty f.type a ∧ TyFs tc ty fs b
def Rows (ty : List V → Prop) (n : Nat) (xs : List V) : Prop := ∃ rows : List (List V), rows.length = n ∧ xs = rows.flatten ∧ ∀ r ∈ rows, ty r
def Ty (tc : List (Nat × TI)) : Nat → TypeId → List V → Prop
  | 0, _, _ => False
  | n + 1, t, xs => match lk tc t with
    | some ti => match ti.desc with
      | .bool => ∃ b, xs = [.val (.bool b)]
      | .int k => ∃ z, xs = [.val (.int k z)] ∧ k.min ≤ z ∧ z ≤ k.max
      | .string => ∃ s : ByteArray, xs = [.val (.string s)] ∧ s.size ≤ 9223372036854775807
      | .struct fs => TyFs tc (Ty tc n) fs.toList xs
      | .array m e => Rows (Ty tc n e) m xs
      | .slice e => ∃ cs len, xs = [.vs cs len] ∧ len ≤ 9223372036854775807 ∧ Rows (Ty tc n e) len cs
      | _ => False
    | none => False
/-- Types that are read so. -/
def fsOk (tc : List (Nat × TI)) (ok : TypeId → Bool) : List Field → Nat → Nat → Bool
  | [], p, n => p == n
  | f :: fs, p, n => f.offset == p && ok f.type && (match lk tc f.type with | some ti => fsOk tc ok fs (p + ti.size) n | none => false)
def tyOk (tc : List (Nat × TI)) : Nat → TypeId → Bool
  | 0, _ => false
  | n + 1, t => match lk tc t with
    | some ti => match ti.desc with
      | .bool | .int _ | .string => ti.size == 1
      | .struct fs => fsOk tc (tyOk tc n) fs.toList 0 ti.size
      | .array m e => tyOk tc n e && (match lk tc e with | some ei => m * ei.size == ti.size | none => false)
      | .slice e => ti.size == 1 && tyOk tc n e && (match lk tc e with | some _ => true | none => false)
      | _ => false
    | none => false

def Lo (w : World) (b : Nat) : Prop := b < w.heap.size
section
variable {P : Program} {w : World} {tc : List (Nat × TI)} {H : Type} {enc : TypeId × Value → H} {spare : Nat → Bool}
theorem mapM_get {α β : Type} {f : α → Option β} : ∀ {l : List α} {r : List β}, l.mapM f = some r → r.length = l.length ∧ ∀ i (h : i < l.length) (h' : i < r.length), f l[i] = some r[i]
  | [], r, h => by
    simp at h
    subst h
    exact ⟨rfl, fun i h => by simp at h⟩
  | x :: l, r, h => by
    rw [List.mapM_cons] at h
    simp only [bind, Option.bind_eq_some_iff, pure, Option.some.injEq] at h
    obtain ⟨y, hy, ys, hys, rfl⟩ := h
    obtain ⟨h1, h2⟩ := mapM_get hys
    refine ⟨by simp [h1], fun i hi hi' => ?_⟩
    cases i with
    | zero => exact hy
    | succ i => exact h2 i (by simpa using hi) (by simpa using hi')
theorem RelL.flat {I : Nat → Prop} {φ : Phi} : ∀ {rows : List (List V)} {cells : List (List Value)}, rows.length = cells.length → (∀ i (h : i < rows.length) (h' : i < cells.length), RelL I w φ rows[i] cells[i]) → RelL I w φ rows.flatten cells.flatten
  | [], cells, hl, _ => by
    obtain rfl : cells = [] := List.eq_nil_of_length_eq_zero (by simpa using hl.symm)
    exact RelL.nil
  | r :: rows, [], hl, _ => by simp at hl
  | r :: rows, c :: cells, hl, h => by
    simp only [List.flatten_cons]
    exact RelL.append (h 0 (by simp) (by simp)) (RelL.flat (by simpa using hl) fun i hi hi' => h (i + 1) (by simpa using hi) (by simpa using hi'))

/-- n rows. -/
theorem rows_read (ty : List V → Prop) {I : Nat → Prop} : ∀ (n : Nat) (f : Nat → List Value), (∀ i, i < n → ∃ xs, RelL I w Phi.emp xs (f i) ∧ ty xs) →
    ∃ rows : List (List V), rows.length = n ∧ (∀ r ∈ rows, ty r) ∧ ∀ i (h : i < rows.length), RelL I w Phi.emp rows[i] (f i)
  | 0, f, _ => ⟨[], rfl, by simp, fun i h => by simp at h⟩
  | n + 1, f, h => by
    obtain ⟨rows, h1, h2, h3⟩ := rows_read ty n f (fun i hi => h i (by omega))
    obtain ⟨xs, k1, k2⟩ := h n (by omega)
    refine ⟨rows ++ [xs], by simp [h1], fun r hr => ?_, fun i hi => ?_⟩
    · rcases List.mem_append.1 hr with hr | hr
      · exact h2 r hr
      · simp at hr; exact hr ▸ k2
    · rw [List.getElem_append]
      split
      · exact h3 i _
      · have : i = n := by simp at hi; omega
        subst this
        simpa using k1
/-- Where a cell of the rows' chain lies. -/
theorem flat_at {α : Type} {s : Nat} (hs : 0 < s) : ∀ (rows : List (List α)), (∀ c ∈ rows, c.length = s) → ∀ (j : Nat) (u : α), rows.flatten[j]? = some u → ∃ i k, rows[i]? = some (rows.getD i []) ∧ (rows.getD i [])[k]? = some u ∧ i * s + k = j
  | [], _, j, u, h => by simp at h
  | c :: rows, hl, j, u, h => by
    simp only [List.flatten_cons] at h
    have hc := hl c (by simp)
    by_cases hj : j < c.length
    · rw [List.getElem?_append_left hj] at h
      exact ⟨0, j, by simp, by simpa using h, by omega⟩
    · rw [List.getElem?_append_right (by omega)] at h
      obtain ⟨i, k, h1, h2, h3⟩ := flat_at hs rows (fun c hc => hl c (by simp [hc])) _ u h
      refine ⟨i + 1, k, by simpa using h1, by simpa using h2, ?_⟩
      rw [Nat.add_mul]
      omega
theorem chunks (s : Nat) : ∀ (n : Nat) (cs : List Value), cs.length = n * s → ((List.range n).map fun i => (cs.drop (i * s)).take s).flatten = cs
  | 0, cs, h => by
    have : cs = [] := List.eq_nil_of_length_eq_zero (by simpa using h)
    simp [this]
  | n + 1, cs, h => by
    have hl : cs.length = n * s + s := by rw [h, Nat.add_mul, Nat.one_mul]
    rw [List.range_succ, List.map_append, List.flatten_append]
    have h1 : ((List.range n).map fun i => (cs.drop (i * s)).take s) = (List.range n).map fun i => ((cs.take (n * s)).drop (i * s)).take s := by
      apply List.map_congr_left
      intro i hi
      have hi' : i < n := List.mem_range.1 hi
      have : i * s + s ≤ n * s := by
        have := Nat.mul_le_mul_right s (show i + 1 ≤ n by omega)
        rwa [Nat.add_mul, Nat.one_mul] at this
      rw [List.drop_take, List.take_take, Nat.min_eq_left (by omega)]
    rw [h1, chunks s n (cs.take (n * s)) (by simp; omega)]
    simp only [List.map_cons, List.map_nil, List.flatten_cons, List.flatten_nil, List.append_nil]
    rw [show (cs.drop (n * s)).take s = cs.drop (n * s) from List.take_of_length_le (by rw [List.length_drop]; omega)]
    exact List.take_append_drop _ _

theorem addr_add (a : Addr) (m k : Nat) : a.add (m + k) = (a.add m).add k := by
  unfold Addr.add
  by_cases hm : m = 0
  · subst hm
    simp
  · by_cases hk : k = 0
    · subst hk
      simp
    · have : m + k ≠ 0 := by omega
      simp [hm, hk, Nat.add_assoc]

theorem trod_ty (hT : TCok P tc) : ∀ (fuel : Nat) (n : Nat) (t : TypeId) (cs : List Value) (d : DataW H) (ps : List MemPlace), DataW.trod enc P w 0 spare true fuel t cs = some (d, ps) → tyOk tc n t = true →
    ∃ xs, RelL (Lo w) w Phi.emp xs cs ∧ Ty tc n t xs
  | 0, n, t, cs, d, ps, h, _ => by simp [DataW.trod] at h
  | fuel + 1, 0, t, cs, d, ps, h, hok => by simp [tyOk] at hok
  | fuel + 1, n + 1, t, cs, d, ps, h, hok => by
    unfold tyOk at hok
    split at hok
    case h_2 => cases hok
    rename_i ti hti
    have ht := hT.get hti
    have hd := ht.desc
    unfold Ty
    simp only [hti]
    have hcells : ∀ {e : TypeId} {ei : TI}, lk tc e = some ei → P.cellsOf e = ei.size := fun {e ei} he => by
      obtain ⟨i, h1, h2, _⟩ := (hT.get he).info
      simp [Program.cellsOf, h1, h2]
    split at hok
    · -- bool
      rename_i hdesc
      rw [hdesc] at hd
      unfold DataW.trod at h
      rw [hd] at h
      split at h <;> first | (rename_i e _; cases e; done) | skip
      all_goals (try (simp at *; done))
      rename_i b _
      exact ⟨[.val (.bool b)], RelL.cons (.val rfl) rfl RelL.nil, b, rfl⟩
    · -- int
      rename_i k hdesc
      rw [hdesc] at hd
      unfold DataW.trod at h
      rw [hd] at h
      split at h <;> first | (rename_i e _; cases e; done) | skip
      all_goals (try (simp at *; done))
      rename_i k1 k' z he
      cases he
      split at h
      · rename_i hk
        obtain ⟨rfl, hwf⟩ := hk
        simp only [Lit.wf, Bool.and_eq_true, decide_eq_true_eq] at hwf
        exact ⟨[.val (.int k' z)], RelL.cons (.val rfl) rfl RelL.nil, z, rfl, hwf⟩
      · cases h
    · -- string
      rename_i hdesc
      rw [hdesc] at hd
      unfold DataW.trod at h
      rw [hd] at h
      split at h <;> first | (rename_i e _; cases e; done) | skip
      all_goals (try (simp at *; done))
      rename_i s _
      split at h
      · rename_i hs
        exact ⟨[.val (.string s)], RelL.cons (.val rfl) rfl RelL.nil, s, rfl, hs⟩
      · cases h
    · -- struct
      rename_i fs hdesc
      rw [hdesc] at hd
      have heq : DataW.trod enc P w 0 spare true (fuel + 1) t cs = (if cs.length = P.cellsOf t then (fs.toList.mapM fun f => DataW.trod enc P w 0 spare true fuel f.type ((cs.drop f.offset).take (P.cellsOf f.type))).map fun xs => (.agg (xs.map (·.1)), xs.flatMap (·.2)) else none) := by
        conv => lhs; unfold DataW.trod
        rw [hd]
      rw [heq] at h
      split at h
      · rename_i hlen
        rw [hcells hti] at hlen
        simp only [Option.map_eq_some_iff] at h
        obtain ⟨xs, hxs, _⟩ := h
        obtain ⟨_, hget⟩ := mapM_get hxs
        have key : ∀ (gs : List Field) (p : Nat), fsOk tc (tyOk tc n) gs p ti.size = true → (∀ f ∈ gs, ∃ d ps, DataW.trod enc P w 0 spare true fuel f.type ((cs.drop f.offset).take (P.cellsOf f.type)) = some (d, ps)) →
            ∃ xs, RelL (Lo w) w Phi.emp xs (cs.drop p) ∧ TyFs tc (Ty tc n) gs xs := by
          intro gs
          induction gs with
          | nil =>
            intro p hp _
            simp only [fsOk, beq_iff_eq] at hp
            refine ⟨[], ?_, rfl⟩
            rw [List.drop_eq_nil_of_le (by omega)]
            exact RelL.nil
          | cons f gs ih =>
            intro p hp hf
            simp only [fsOk, Bool.and_eq_true, beq_iff_eq] at hp
            obtain ⟨⟨hp1, hp2⟩, hp3⟩ := hp
            split at hp3
            · rename_i fi hfi
              obtain ⟨ys, h1, h2⟩ := ih (p + fi.size) hp3 (fun g hg => hf g (by simp [hg]))
              obtain ⟨d', ps', hd'⟩ := hf f (by simp)
              obtain ⟨zs, k1, k2⟩ := trod_ty hT fuel n f.type _ _ _ hd' hp2
              rw [hcells hfi, hp1] at k1
              refine ⟨zs ++ ys, ?_, zs, ys, rfl, k2, h2⟩
              have := k1.append h1
              rwa [← List.drop_drop, List.take_append_drop] at this
            · cases hp3
        obtain ⟨xs', h1, h2⟩ := key fs.toList 0 hok (fun f hf => by
          obtain ⟨i, hi, rfl⟩ := List.getElem_of_mem hf
          have hi' : i < xs.length := by rw [(mapM_get hxs).1]; exact hi
          exact ⟨_, _, hget i hi hi'⟩)
        exact ⟨xs', by simpa using h1, h2⟩
      · cases h
    · -- array
      rename_i m e hdesc
      rw [hdesc] at hd
      simp only [Bool.and_eq_true] at hok
      obtain ⟨hok1, hok2⟩ := hok
      split at hok2
      case h_2 => cases hok2
      rename_i ei hei
      simp only [beq_iff_eq] at hok2
      have heq : DataW.trod enc P w 0 spare true (fuel + 1) t cs = (if cs.length = P.cellsOf t then ((List.range m).mapM fun i => DataW.trod enc P w 0 spare true fuel e ((cs.drop (i * P.cellsOf e)).take (P.cellsOf e))).map fun xs => (.agg (xs.map (·.1)), xs.flatMap (·.2)) else none) := by
        conv => lhs; unfold DataW.trod
        rw [hd]
      rw [heq] at h
      split at h
      · rename_i hlen
        rw [hcells hti] at hlen
        simp only [Option.map_eq_some_iff] at h
        obtain ⟨xs, hxs, _⟩ := h
        obtain ⟨hl, hget⟩ := mapM_get hxs
        simp only [List.length_range, hcells hei] at hl hget
        obtain ⟨rows, r1, r2, r3⟩ := rows_read (w := w) (I := Lo w) (Ty tc n e) m (fun i => (cs.drop (i * ei.size)).take ei.size) (fun i hi => by
          have := hget i hi (by omega)
          simp only [List.getElem_range] at this
          exact trod_ty hT fuel n e _ _ _ this hok1)
        refine ⟨rows.flatten, ?_, rows, r1, rfl, r2⟩
        have := RelL.flat (w := w) (I := Lo w) (φ := Phi.emp) (rows := rows) (cells := (List.range m).map fun i => (cs.drop (i * ei.size)).take ei.size) (by simp [r1]) (fun i hi hi' => by simpa using r3 i hi)
        rwa [chunks ei.size m cs (by omega)] at this
      · cases h
    · -- slice
      rename_i e hdesc
      rw [hdesc] at hd
      simp only [Bool.and_eq_true] at hok
      obtain ⟨⟨_, hok1⟩, hok2⟩ := hok
      split at hok2
      case h_2 => cases hok2
      rename_i ei hei
      unfold DataW.trod at h
      rw [hd] at h
      split at h <;> first | (rename_i e _; cases e; done) | skip
      all_goals (try (simp at *; done))
      · refine ⟨[.vs [] 0], RelL.cons (.vs (us := []) rfl (fun i h => by simp at h) (fun u h => by simp at h) (fun j u hu => by simp at hu) (fun _ => rfl) (Nat.le_refl _) (by omega)) rfl RelL.nil, [], 0, rfl, by omega, [], rfl, rfl, by simp⟩
      · rename_i e' a len cap he
        cases he
        split at h
        · rename_i hb
          obtain ⟨_, hlc, hcm⟩ := hb
          simp only [Option.bind_eq_some_iff] at h
          obtain ⟨elems, hel, _⟩ := h
          obtain ⟨hl, hget⟩ := mapM_get hel
          simp only [List.length_range, hcells hei, Option.bind_eq_some_iff] at hl hget
          have hget' : ∀ i, i < len → ∃ cs, w.cells? 0 (a.add (i * ei.size)) ei.size = some cs ∧ ∃ d ps, DataW.trod enc P w 0 spare true fuel e cs = some (d, ps) := fun i hi => by
            obtain ⟨cs, h1, h2⟩ := hget i hi (by omega)
            simp only [List.getElem_range] at h1
            exact ⟨cs, h1, _, _, h2⟩
          -- the cells of each element
          have hch : ∃ f : Nat → List Value, ∀ i, i < len → w.cells? 0 (a.add (i * ei.size)) ei.size = some (f i) ∧ ∃ d ps, DataW.trod enc P w 0 spare true fuel e (f i) = some (d, ps) := by
            refine ⟨fun i => if hi : i < len then (hget' i hi).choose else [], fun i hi => ?_⟩
            simp only [hi, dif_pos]
            exact (hget' i hi).choose_spec
          obtain ⟨f, hf⟩ := hch
          obtain ⟨rows, r1, r2, r3⟩ := rows_read (w := w) (I := Lo w) (Ty tc n e) len f (fun i hi => by
            obtain ⟨_, d', ps', hd'⟩ := hf i hi
            exact trod_ty hT fuel n e _ _ _ hd' hok1)
          have hfl : ∀ i, i < len → (f i).length = ei.size ∧ ∀ k u, (f i)[k]? = some u → w.cell? ((a.add (i * ei.size)).add k) = some u := fun i hi => by
            have := (hf i hi).1
            unfold World.cells? at this
            rw [if_pos (Nat.zero_le _)] at this
            obtain ⟨h1, h2⟩ := mapM_get this
            simp only [List.length_range] at h1 h2
            refine ⟨h1, fun k u hk => ?_⟩
            obtain ⟨hk', rfl⟩ := List.getElem?_eq_some_iff.1 hk
            have := h2 k (by omega) hk'
            simpa using this
          have hrel := RelL.flat (w := w) (I := Lo w) (φ := Phi.emp) (rows := rows) (cells := (List.range len).map f) (by simp [r1]) (fun i hi hi' => by simpa using r3 i hi)
          refine ⟨[.vs rows.flatten len], RelL.cons (.vs hrel.1 hrel.2.1 hrel.2.2 (fun j u hu => ?_) (fun e => by cases e) hlc (by simpa [maxLen] using hcm)) rfl RelL.nil, rows.flatten, len, rfl, by simp only [maxLen] at hcm; omega, rows, r1, rfl, r2⟩
          -- where a cell lies
          have hcell : ∀ j u, ((List.range len).map f).flatten[j]? = some u → w.cell? (a.add j) = some u := by
            intro j u hu
            have hlen' : ∀ c ∈ (List.range len).map f, c.length = ei.size := fun c hc => by
              obtain ⟨i, hi, rfl⟩ := List.mem_map.1 hc
              exact (hfl i (List.mem_range.1 hi)).1
            have hs : 0 < ei.size := by
              refine Nat.pos_of_ne_zero fun h0 => ?_
              have : ((List.range len).map f).flatten = [] := by
                rw [List.flatten_eq_nil_iff]
                intro c hc
                exact List.eq_nil_of_length_eq_zero ((hlen' c hc).trans h0)
              rw [this] at hu
              simp at hu
            obtain ⟨i, k, hi, hk, hik⟩ := flat_at hs _ hlen' j u hu
            simp only [List.getElem?_map, Option.map_eq_some_iff] at hi
            obtain ⟨i', hi', hfi⟩ := hi
            have hi2 : i < len := by have := (List.getElem?_eq_some_iff.1 hi').1; simpa using this
            have : i' = i := by have := (List.getElem?_eq_some_iff.1 hi').2; simpa using this.symm
            subst this
            have := (hfl i' hi2).2 k u (by rw [hfi]; exact hk)
            rw [← hik, ← this]
            congr 1
            exact addr_add a _ k
          have hlt := World.block_lt_of_cell? w _ (hcell j u hu)
          have hb2 := hcell j u hu
          obtain ⟨ab, ao, asp⟩ := a
          have hblk : ∀ k, ((⟨ab, ao, asp⟩ : Addr).add k).block = ab := fun k => by unfold Addr.add; split <;> rfl
          rw [hblk] at hlt
          -- no spot
          have hsp : asp = none := by
            cases asp with
            | none => rfl
            | some q =>
              exfalso
              have hl0 : 0 < ((List.range len).map f).flatten.length := by have := (List.getElem?_eq_some_iff.1 hu).1; omega
              have h0 := hcell 0 _ (List.getElem?_eq_getElem hl0)
              have h1 : w.cell? ⟨ab, ao, some q⟩ = none := by
                unfold World.cell?
                split <;> simp
              have h2 : (⟨ab, ao, some q⟩ : Addr).add 0 = ⟨ab, ao, some q⟩ := rfl
              rw [h2, h1] at h0
              cases h0
          subst hsp
          refine ⟨ab, ao, rfl, hlt, ?_⟩
          rw [Addr.add_mid] at hb2
          exact hb2
        · cases h
    · cases hok
end
end Go.Ab

set_option linter.unusedSimpArgs false
set_option linter.unusedVariables false
namespace Go.Ab
open Go.RowKit

abbrev u8 (n : Int) : V := .val (.int .u8 n)
abbrev u16 (n : Int) : V := .val (.int .u16 n)
abbrev u32 (n : Int) : V := .val (.int .u32 n)
abbrev u64 (n : Int) : V := .val (.int .u64 n)
abbrev i8 (n : Int) : V := .val (.int .i8 n)
abbrev i32 (n : Int) : V := .val (.int .i32 n)
abbrev i64 (n : Int) : V := .val (.int .i64 n)
abbrev vb (b : Bool) : V := .val (.bool b)
def TyV (tc : List (Nat × TI)) (n : Nat) (t : TypeId) (x : V) : Prop :=
  match lk tc t with
  | some ti => if isRow ti.desc then ∃ xs, x = .agg true xs ∧ Ty tc n t xs else Ty tc n t [x]
  | none => False
theorem rows_cons {ty : List V → Prop} {n : Nat} {xs : List V} (h : Rows ty (n + 1) xs) : ∃ a b, xs = a ++ b ∧ ty a ∧ Rows ty n b := by
  obtain ⟨rows, h1, rfl, h2⟩ := h
  cases rows with
  | nil => simp at h1
  | cons r rows => exact ⟨r, rows.flatten, by simp, h2 r (by simp), rows, by simpa using h1, rfl, fun r hr => h2 r (by simp [hr])⟩
theorem rows_nil {ty : List V → Prop} {xs : List V} (h : Rows ty 0 xs) : xs = [] := by
  obtain ⟨rows, h1, rfl, h2⟩ := h
  simp at h1
  simp [h1]
def noX : Nat → Prop := fun _ => False
section
variable {P : Program} {w w' : World} {tc : List (Nat × TI)} {H : Type} {enc : TypeId × Value → H} {spare : Nat → Bool}
theorem lo_imm {b : Nat} (h : Lo w b) : Imm Phi.emp noX w b := ⟨h, fun _ _ h => (by cases h), fun h => h⟩
theorem arg_rel (hT : TCok P tc) {n : Nat} {t : TypeId} {v : Value} {d : DataW H} {ps : List MemPlace} {r : Reach} {base : Nat} (hv : Value.okWide P w r base t v) (h : DataW.Trod enc P w 0 spare true t v d ps) (hok : tyOk tc n t = true) :
    ∃ x, Rel (Imm Phi.emp noX w) w Phi.emp x v ∧ TyV tc n t x := by
  obtain ⟨fuel, hf⟩ := h
  obtain ⟨xs, hr, hty⟩ := trod_ty hT fuel n t _ _ _ hf hok
  have hr' : RelL (Imm Phi.emp noX w) w Phi.emp xs v.cells.toList := hr.mono (fun b hb => ⟨lo_imm hb, rfl⟩) (fun _ _ _ h => h) (fun _ h => h)
  cases n with
  | zero => simp [tyOk] at hok
  | succ n =>
  unfold tyOk at hok
  split at hok
  case h_2 => cases hok
  rename_i ti hti
  have hd := (hT.get hti).desc
  unfold TyV
  simp only [hti]
  have one : v.cells = #[v] → (isRow ti.desc = false) → xs.length = 1 → ∃ x, Rel (Imm Phi.emp noX w) w Phi.emp x v ∧ (if isRow ti.desc = true then ∃ xs, x = .agg true xs ∧ Ty tc (n + 1) t xs else Ty tc (n + 1) t [x]) := fun hc hrow hl => by
    rw [hc] at hr'
    match xs, hl with
    | [x], _ =>
      have := hr'.2.1 0 (by simp)
      refine ⟨x, by simpa using this, ?_⟩
      rw [hrow]
      exact hty
  have row : (∃ cs, v = .agg cs) → (isRow ti.desc = true) → ∃ x, Rel (Imm Phi.emp noX w) w Phi.emp x v ∧ (if isRow ti.desc = true then ∃ xs, x = .agg true xs ∧ Ty tc (n + 1) t xs else Ty tc (n + 1) t [x]) := fun hc hrow => by
    obtain ⟨cs, rfl⟩ := hc
    refine ⟨.agg true xs, ?_, ?_⟩
    · exact RelL.agg (fl := true) (φ := Phi.emp) (by simpa [bFlat, Value.cells] using hr')
    · rw [if_pos hrow]
      exact ⟨xs, rfl, hty⟩
  have hty' := hty
  unfold Ty at hty'
  simp only [hti] at hty'
  split at hok
  · rename_i hdesc
    rw [hdesc] at hd hty'
    obtain ⟨b, rfl⟩ := Go.WideShapes.okWide_bool hd hv
    obtain ⟨_, rfl⟩ := hty'
    exact one rfl (by rw [hdesc]; rfl) rfl
  · rename_i k hdesc
    rw [hdesc] at hd hty'
    obtain ⟨b, rfl⟩ := Go.WideShapes.okWide_int hd hv
    obtain ⟨_, rfl, _⟩ := hty'
    exact one rfl (by rw [hdesc]; rfl) rfl
  · rename_i hdesc
    rw [hdesc] at hd hty'
    obtain ⟨b, rfl⟩ := Go.WideShapes.okWide_string hd hv
    obtain ⟨_, rfl, _⟩ := hty'
    exact one rfl (by rw [hdesc]; rfl) rfl
  · rename_i fs hdesc
    rw [hdesc] at hd
    refine row ?_ (by rw [hdesc]; rfl)
    simp only [Value.okWide, hd] at hv
    obtain ⟨cs, rfl, _⟩ := hv
    exact ⟨cs, rfl⟩
  · rename_i m e hdesc
    rw [hdesc] at hd
    refine row ?_ (by rw [hdesc]; rfl)
    simp only [Value.okWide, hd] at hv
    obtain ⟨cs, rfl, _⟩ := hv
    exact ⟨cs, rfl⟩
  · rename_i e hdesc
    rw [hdesc] at hd hty'
    obtain ⟨a, l, c, rfl⟩ := Go.WideShapes.okWide_slice hd hv
    obtain ⟨_, _, rfl, _⟩ := hty'
    exact one rfl (by rw [hdesc]; rfl) rfl
  · cases hok

/-- A contract on values that are handed in, as the statement's frame asks it. -/
theorem walk_of {f : FuncId} {xs : List V} {us : List Value} {v : Value} (h : Con P f [] xs [] (.val v)) (hr : Rels (Imm Phi.emp noX w) w Phi.emp xs us) (hg : GOk (Imm Phi.emp noX w) w) : Calls P f us.toArray w fun e w' => e = .returned v ∧ Below w.heap.size w w' := by
  refine (h.2 noX Phi.emp w us ⟨fun i j b c c' h => (by cases h), fun i b c h => (by cases h), fun i b c h => (by cases h), fun i _ => rfl⟩ (fun b h => h.elim) (fun id blk h => by cases h) hr hg).mono ?_
  rintro e w' ⟨u, φ', rfl, hf, _, _, _, hu, _⟩
  refine ⟨by rw [hu.val_inv], ⟨hf.os, hf.tape, hf.output, hf.size, fun k hk => hf.block k hk (fun id c h => by cases h)⟩⟩
end
end Go.Ab

set_option linter.unusedSimpArgs false
set_option linter.unusedVariables false
namespace Go.Ab
open Go.RowKit
def u8s (l : List Int) : List V := l.map u8
def BL (l : List Int) : Prop := ∀ b ∈ l, 0 ≤ b ∧ b < 256
theorem len_u8s (l : List Int) : (u8s l).length = l.length := by simp [u8s]
theorem u8s_app (a b : List Int) : u8s a ++ u8s b = u8s (a ++ b) := by simp [u8s]
theorem u8s_take (l : List Int) (n : Nat) : (u8s l).take n = u8s (l.take n) := by simp [u8s]
theorem u8s_drop (l : List Int) (n : Nat) : (u8s l).drop n = u8s (l.drop n) := by simp [u8s]
theorem u8s_at (l : List Int) (i : Nat) (h : i < l.length) : (u8s l).drop (i * 1) = u8 (l.getD i 0) :: u8s (l.drop (i + 1)) := by
  rw [Nat.mul_one, u8s_drop, List.drop_eq_getElem_cons h]
  have e : l.getD i 0 = l[i] := by simp [List.getD_eq_getElem?_getD, h]
  rw [e]
  rfl
theorem BL.at_ {l : List Int} (h : BL l) (i : Nat) : 0 ≤ l.getD i 0 ∧ l.getD i 0 < 256 := by
  rw [List.getD_eq_getElem?_getD]
  cases hi : l[i]? with
  | none => simp
  | some b => exact h b (List.mem_of_getElem? hi)
theorem BL.nil : BL [] := fun b h => by simp at h
theorem BL.cons {b : Int} {l : List Int} (h : 0 ≤ b ∧ b < 256) (k : BL l) : BL (b :: l) := fun x hx => by
  rcases List.mem_cons.1 hx with rfl | hx
  · exact h
  · exact k x hx
theorem BL.app {a b : List Int} (h : BL a) (k : BL b) : BL (a ++ b) := fun x hx => (List.mem_append.1 hx).elim (h x) (k x)
theorem BL.take {l : List Int} (h : BL l) (n : Nat) : BL (l.take n) := fun x hx => h x (List.mem_of_mem_take hx)
theorem BL.drop {l : List Int} (h : BL l) (n : Nat) : BL (l.drop n) := fun x hx => h x (List.mem_of_mem_drop hx)
theorem VOL.u8s (l : List Int) : VOL (u8s l) := fun x hx => by
  obtain ⟨b, _, rfl⟩ := List.mem_map.1 hx
  exact VO.val _
theorem VOL.app {a b : List V} (h : VOL a) (k : VOL b) : VOL (a ++ b) := fun x hx => (List.mem_append.1 hx).elim (h x) (k x)
theorem gI_u8s {l : List Int} {k : Nat} (h : k < l.length) : gI (u8s l) k = u8 (l.getD k 0) := by
  unfold gI u8s
  rw [List.getD_eq_getElem?_getD, List.getD_eq_getElem?_getD, List.getElem?_map, List.getElem?_eq_getElem h]
  rfl
theorem part_u8s {l : List Int} {k s : Nat} {fl : Bool} (h : k < l.length) : part_ fl false (u8s l) k s = u8 (l.getD k 0) := gI_u8s h
theorem part_u8e {cs : List V} {l : List Int} {k s : Nat} {fl : Bool} (e : cs = u8s l) (h : k < l.length) : part_ fl false cs k s = u8 (l.getD k 0) := by rw [e]; exact part_u8s h
theorem BL.set {l : List Int} (h : BL l) {k : Nat} {z : Int} (hz : 0 ≤ z ∧ z < 256) : BL (l.set k z) := fun x hx => by
  rcases List.mem_or_eq_of_mem_set hx with h1 | h1
  · exact h x h1
  · subst h1
    exact hz
end Go.Ab
