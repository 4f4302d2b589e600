/- What is let go; a function's contract. -/
import Derived.Test.YtmeiemdnhjnpcaaAb18b
set_option linter.unusedSimpArgs false
set_option linter.unusedVariables false
namespace Go.Ab
open Go.RowKit

theorem Inv.only {C : Cx} {G : Gl} {s : St} {φ : Phi} {a : Act} {w : World} (hI : Inv C G s φ a w) (ok : Nat → Bool) (h1 : tmIn ok s.tm = true) (h2 : HIn ok (onlyH ok s.H) = true) : Inv C G ⟨s.tm, onlyH ok s.H⟩ (φ.only ok) a w := by
  refine ⟨hI.size, hI.defers, fun t x hx => ?_, fun i blk hl => ?_, ⟨fun i j b c c' hi hj => ?_, fun i b c hi => ?_, fun i b c hi => ?_, fun i hi => ?_⟩, hI.x, hI.frm, fun i b c hi => ?_⟩
  · have h := hI.tm t x hx
    have hin := tmIn_get h1 hx
    cases x with
    | plain y => exact Rel.onlyOk h hin
    | gd d want y => exact ⟨fun e => (h.1 e).onlyOk hin, h.2⟩
  · have hb := HIn_get h2 hl
    rw [lk_onlyH] at hl
    split at hl
    · rename_i hok
      have := hI.hr i blk hl
      show BlkRel _ _ _ (if ok i = true then φ i else .none) _
      rw [if_pos hok]
      exact this.onlyOk hb
    · cases hl
  · unfold Phi.only at hi hj
    split at hi
    · split at hj
      · exact hI.ok.inj _ _ _ _ _ hi hj
      · cases hj
    · cases hi
  · unfold Phi.only at hi
    split at hi
    · exact hI.ok.lt _ _ _ hi
    · cases hi
  · unfold Phi.only at hi
    split at hi
    · exact hI.ok.free _ _ _ hi
    · cases hi
  · rw [lk_onlyH] at hi
    unfold Phi.only
    split
    · rename_i hok
      rw [if_pos hok] at hi
      exact hI.ok.dom i hi
    · rfl
  · unfold Phi.only at hi
    split at hi
    · exact hI.own _ _ _ hi
    · cases hi
section
variable {C : Cx} {c : Code} {s sf : St} {K : Exit → St → Prop}
def okIds (l : List Nat) (id : Nat) : Bool := l.contains id
/-- Only these slots and these own blocks are kept. -/
def keepS (l : List Tmp) (ids : List Nat) (s : St) : Option St :=
  if tmIn (okIds ids) (restr l s.tm) && HIn (okIds ids) (onlyH (okIds ids) s.H) then some ⟨restr l s.tm, onlyH (okIds ids) s.H⟩ else none
theorem AWP.keep' (l : List Tmp) (ids : List Nat) (hk : keepS l ids s = some sf) (h : AWP C c sf K) : AWP C c s K := by
  constructor
  intro G φ a w hI
  unfold keepS at hk
  split at hk
  · rename_i hc
    cases hk
    simp only [Bool.and_eq_true] at hc
    have hI' : Inv C G (keepT l s) φ a w := ⟨hI.size, hI.defers, fun t x hx => hI.tm t x (lk_restr hx).2, hI.hr, hI.ok, hI.x, hI.frm, hI.own⟩
    exact h.run G _ a w (hI'.only (okIds ids) hc.1 hc.2)
  · cases hk
end

/-! ### A function -/
def evRes1 (tc : List (Nat × TI)) (s : St) : ResultVar → Option (List Prop × V)
  | .tmp t => (rdT s.tm [] t).map fun v => ([], v)
  | .cell t ty => (rdT s.tm [] t).bind fun v => evLoad tc s.H false ty v
def evRes (tc : List (Nat × TI)) (s : St) : List ResultVar → Option (List V)
  | [] => some []
  | x :: r => match evRes1 tc s x, evRes tc s r with
    | some ([], v), some vs => some (v :: vs)
    | _, _ => none
def tupV : List V → V
  | [v] => v
  | vs => .tup vs
/-- What is handed back: the result, the blocks that go with it. -/
def finish (tc : List (Nat × TI)) (fn : Func) (ids : List Nat) (s : St) : Option (List (Nat × Blk) × V) :=
  match evRes tc s fn.results.toList with
  | some vs => if inIds (okIds ids) (tupV vs) && HIn (okIds ids) (onlyH (okIds ids) s.H) then some (onlyH (okIds ids) s.H, tupV vs) else none
  | none => none
section
variable {C : Cx} {G : Gl} {φ : Phi} {a : Act} {w : World} {s : St}
theorem evRes_ok (hT : TCok C.P C.tc) (hI : Inv C G s φ a w) : ∀ {l : List ResultVar} {vs : List V}, evRes C.tc s l = some vs →
    ∃ us, (l.mapM (fun r => match r with | .tmp t => pure (a.tmps.getD t undef) | .cell t ty => do loadVar ty (← asAddr (a.tmps.getD t undef)) : ResultVar → Sem Value)).run C.P w = .ok us w ∧ Rels (Imm φ G.X w) w φ vs us
  | [], vs, h => by
    cases h
    exact ⟨[], rfl, .nil⟩
  | x :: r, vs, h => by
    unfold evRes at h
    split at h
    · rename_i v vs' h1 h2
      cases h
      obtain ⟨us, q1, q2⟩ := evRes_ok hT hI h2
      cases x with
      | tmp t =>
        simp only [evRes1, Option.map_eq_some_iff, Prod.mk.injEq] at h1
        obtain ⟨v', hv, _, rfl⟩ := h1
        have hr := rdA_ok hI.tm0 (ch := []) (fun p hp => by simp at hp) (.tmp t) _ hv
        refine ⟨a.tmps.getD t undef :: us, ?_, .cons hr q2⟩
        rw [List.mapM_cons]
        simp only [Sem.run_bind, Sem.run_pure, Result.andThen_ok, q1]
      | cell t ty =>
        simp only [evRes1, Option.bind_eq_some_iff] at h1
        obtain ⟨v', hv, hl⟩ := h1
        have hr := rdA_ok hI.tm0 (ch := []) (fun p hp => by simp at hp) (.tmp t) _ hv
        obtain ⟨z, k1, k2⟩ := evLoad_ok hT hl trivial hr hI.hr
        refine ⟨z :: us, ?_, .cons k2 q2⟩
        rw [List.mapM_cons]
        have e : (do loadVar ty (← asAddr (a.tmps.getD t undef)) : Sem Value).run C.P w = .ok z w := by
          have k1' : (Instr.loadAt ty (a.tmps.getD t undef)).run C.P w = .ok z w := k1
          simp only [Instr.loadAt, Sem.run_bind] at k1' ⊢
          revert k1'
          generalize a.tmps.getD t undef = q
          intro k1'
          cases q <;> simp only [Instr.sureAddr, asAddr, run_stuck, Result.andThen_halt, reduceCtorEq] at k1' ⊢
          rename_i ad
          cases ad <;> simp only [run_stuck, Result.andThen_halt, reduceCtorEq] at k1' ⊢
          exact k1'
        rw [Sem.run_bind, e]
        simp only [Result.andThen_ok, Sem.run_bind, q1, Sem.run_pure]
    · cases h
theorem Rels.tup {I : Nat → Prop} {vs : List V} {us : List Value} (h : Rels I w φ vs us) : us.length = vs.length ∧ ∀ i (hi : i < vs.length), Rel I w φ vs[i] (us.getD i undef) := by
  induction h with
  | nil => exact ⟨rfl, fun i h => by simp at h⟩
  | cons h1 _ ih =>
    refine ⟨by simp [ih.1], fun i hi => ?_⟩
    cases i with
    | zero => simpa using h1
    | succ i => simpa using ih.2 i (by simpa using hi)
theorem results_ok (hT : TCok C.P C.tc) (hI : Inv C G s φ a w) {fn : Func} {vs : List V} (h : evRes C.tc s fn.results.toList = some vs) : ∃ u, (results fn a.tmps).run C.P w = .ok u w ∧ Rel (Imm φ G.X w) w φ (tupV vs) u := by
  obtain ⟨us, h1, h2⟩ := evRes_ok hT hI h
  have hm : (fn.results.mapM (fun r => match r with | .tmp t => pure (a.tmps.getD t undef) | .cell t ty => do loadVar ty (← asAddr (a.tmps.getD t undef)) : ResultVar → Sem Value)).run C.P w = .ok us.toArray w := by
    have e : fn.results = fn.results.toList.toArray := by simp
    rw [e, List.mapM_toArray]
    simp only [Sem.run_map]
    have e2 : fn.results.toList.toArray.toList = fn.results.toList := by simp
    rw [h1]
    rfl
  refine ⟨if h : us.toArray.size = 1 then us.toArray[0] else .tuple us.toArray, ?_, ?_⟩
  · unfold results
    rw [Sem.run_bind]
    exact congrArg (fun r => Result.andThen r fun (z : Array Value) w' => Sem.run C.P (pure (if h : z.size = 1 then z[0] else Value.tuple z)) w') hm
  · cases h2 with
    | nil => exact .tup rfl (fun i h => by simp at h)
    | cons k1 k2 =>
      cases k2 with
      | nil => exact k1
      | cons k2 k3 =>
        have := (Rels.cons k1 (Rels.cons k2 k3)).tup
        rw [dif_neg (by simp)]
        exact .tup (by simpa using this.1) (by simpa using this.2)
end

def params : Nat → List V → List (Nat × T)
  | _, [] => []
  | i, x :: r => (i, .plain x) :: params (i + 1) r
theorem lk_params {I : Nat → Prop} {w : World} {φ : Phi} : ∀ {xs : List V} {us : List Value} (i : Nat) {t : Nat} {x : T}, Rels I w φ xs us → lk (params i xs) t = some x → ∃ v, x = .plain v ∧ i ≤ t ∧ ∃ u, us[t - i]? = some u ∧ Rel I w φ v u
  | [], _, i, t, x, _, h => by cases h
  | y :: r, _, i, t, x, hr, h => by
    cases hr with
    | cons h1 h2 =>
      rename_i u us
      simp only [params, lk] at h
      split at h
      · rename_i e
        simp at e
        subst e
        cases h
        exact ⟨y, rfl, Nat.le_refl _, u, by simp, h1⟩
      · obtain ⟨v, e1, e2, u', e3, e4⟩ := lk_params (i + 1) h2 h
        refine ⟨v, e1, by omega, u', ?_, e4⟩
        rw [show t - i = (t - (i + 1)) + 1 by omega]
        simpa using e3

/-- **A CONTRACT, OUT OF A READING OF THE BODY.** -/
theorem Con.of {C : Cx} {f : FuncId} {fn : Func} {c : Code} {Hin Hout : List (Nat × Blk)} {args : List V} {r : V} (ids : List Nat) (hT : TCok C.P C.tc) (hf : C.P.funcs[f]? = some fn) (hb : fn.body = some c) (hn : fn.ntmps = C.n) (hname : (fn.name == "runtime.NumGoroutine") = false) (hle : Nat.ble args.length C.n = true)
    (h : AWP C c ⟨params 0 args, Hin⟩ (fun e s => (e = .normal ∨ e = .ret) ∧ finish C.tc fn ids s = some (Hout, r))) : Con C.P f Hin args Hout r := by
  refine ⟨⟨fn, hf, hname, by simp [hb]⟩, fun X φ w us hφ hX hH hx => ?_⟩
  have hlen := hx.tup.1
  have hle' : args.length ≤ C.n := Nat.le_of_ble_eq_true hle
  refine calls_of_wp hf hb ?_
  have hI : Inv C ⟨X, φ, w⟩ ⟨params 0 args, Hin⟩ φ { tmps := us.toArray ++ Array.replicate (fn.ntmps - us.toArray.size) undef, defers := [] } w := by
    refine ⟨by simp [hn]; omega, rfl, fun t x ht => ?_, hH, hφ, hX, Frm.refl _ _, fun id b c hs => .inl ⟨id, c, hs⟩⟩
    obtain ⟨v, rfl, _, u, hu, hr⟩ := lk_params 0 hx ht
    show Rel _ _ _ v (Array.getD _ t undef)
    have hu' : us[t]? = some u := by simpa using hu
    have hlt : t < us.length := (List.getElem?_eq_some_iff.1 hu').1
    rw [Array.getD_eq_getD_getElem?, Array.getElem?_append_left (by simpa using hlt)]
    simp only [List.getElem?_toArray, hu', Option.getD_some]
    exact hr
  refine wp_mono (h.run ⟨X, φ, w⟩ φ _ w hI) fun e a' w' ⟨s', φ', ⟨he, hfin⟩, hI'⟩ => ?_
  have key : a'.defers = [] ∧ ∃ v, (results fn a'.tmps).run C.P w' = .ok v w' ∧ (∃ u φ'', Ending.returned v = .returned u ∧ Frm φ w w' ∧ Phi.ok φ'' X w' Hout ∧ (∀ id b c, φ'' id = .at b c → (∃ id0 c0, φ id0 = .at b c0) ∨ w.heap.size ≤ b) ∧
      HR (Imm φ'' X w') w' φ'' Hout ∧ Rel (Imm φ'' X w') w' φ'' r u) := by
    unfold finish at hfin
    split at hfin
    · rename_i vs hvs
      split at hfin
      · rename_i hc
        cases hfin
        simp only [Bool.and_eq_true] at hc
        obtain ⟨u, h1, h2⟩ := results_ok hT hI' hvs
        have hIo : Inv C ⟨X, φ, w⟩ ⟨[], onlyH (okIds ids) s'.H⟩ (φ'.only (okIds ids)) a' w' := by
          have hI2 : Inv C ⟨X, φ, w⟩ ⟨[], s'.H⟩ φ' a' w' := ⟨hI'.size, hI'.defers, fun t x hx => by (cases hx), hI'.hr, hI'.ok, hI'.x, hI'.frm, hI'.own⟩
          exact hI2.only (okIds ids) rfl hc.2
        exact ⟨hI'.defers, u, h1, u, φ'.only (okIds ids), rfl, hI'.frm, hIo.ok, hIo.own, hIo.hr, h2.onlyOk hc.1⟩
      · cases hfin
    · cases hfin
  rcases he with rfl | rfl <;> exact key
end Go.Ab
