/- What is let go; a function's contract. -/
import Derived.Test.YtmeiemdnhjnpcaaAb18b
set_option linter.unusedSimpArgs false
set_option linter.unusedVariables false
namespace Go.Ab
open Go.RowKit

theorem Inv.only {C : Cx} {G : Gl} {s : St} {φ : Phi} {a : Act} {w : World} (hI : Inv C G s φ a w) (ok : Nat → Bool) (h1 : tmIn ok s.tm = true) (h2 : HIn ok (onlyH ok s.H) = true) : Inv C G ⟨s.tm, onlyH ok s.H⟩ (φ.only ok) a w := by
  refine ⟨hI.size, hI.defers, fun t x hx => ?_, fun i blk hl => ?_, ⟨fun i j b c c' hi hj => ?_, fun i b c hi => ?_, fun i b c hi => ?_, fun i hi => ?_⟩, hI.x, hI.frm, fun i b c hi => ?_, fun i b hb h0 => ?_⟩
  rotate_right
  · show φ.only ok i = _ ∨ lk (onlyH ok s.H) i = none
    rw [lk_onlyH]
    unfold Phi.only
    split
    · exact hI.fix i b hb h0
    · exact .inr rfl
  · have h := hI.tm t x hx
    have hin := tmIn_get h1 hx
    cases x with
    | plain y => exact Rel.onlyOk h hin
    | gd d want y => exact ⟨fun e => (h.1 e).onlyOk hin, h.2⟩
  · have hb := HIn_get h2 hl
    rw [lk_onlyH] at hl
    split at hl
    · rename_i hok
      have := hI.hr i blk hl
      show BlkRel _ _ _ (if ok i = true then φ i else .none) _
      rw [if_pos hok]
      exact this.onlyOk hb
    · cases hl
  · unfold Phi.only at hi hj
    split at hi
    · split at hj
      · exact hI.ok.inj _ _ _ _ _ hi hj
      · cases hj
    · cases hi
  · unfold Phi.only at hi
    split at hi
    · exact hI.ok.lt _ _ _ hi
    · cases hi
  · unfold Phi.only at hi
    split at hi
    · exact hI.ok.free _ _ _ hi
    · cases hi
  · rw [lk_onlyH] at hi
    unfold Phi.only
    split
    · rename_i hok
      rw [if_pos hok] at hi
      exact hI.ok.dom i hi
    · rfl
  · unfold Phi.only at hi
    split at hi
    · exact hI.own _ _ _ hi
    · cases hi
section
variable {C : Cx} {c : Code} {s sf : St} {K : Exit → St → Prop}
def okIds (l : List Nat) (id : Nat) : Bool := l.contains id
/-- Only these slots and these own blocks are kept. -/
def keepS (l : List Tmp) (ids : List Nat) (s : St) : Option St :=
  if tmIn (okIds ids) (restr l s.tm) && HIn (okIds ids) (onlyH (okIds ids) s.H) then some ⟨restr l s.tm, onlyH (okIds ids) s.H⟩ else none
theorem AWP.keep' (l : List Tmp) (ids : List Nat) (hk : keepS l ids s = some sf) (h : AWP C c sf K) : AWP C c s K := by
  constructor
  intro G φ a w hI
  unfold keepS at hk
  split at hk
  · rename_i hc
    cases hk
    simp only [Bool.and_eq_true] at hc
    have hI' : Inv C G (keepT l s) φ a w := ⟨hI.size, hI.defers, fun t x hx => hI.tm t x (lk_restr hx).2, hI.hr, hI.ok, hI.x, hI.frm, hI.own, hI.fix⟩
    exact h.run G _ a w (hI'.only (okIds ids) hc.1 hc.2)
  · cases hk
end

/-! ### A function -/
def evRes1 (tc : List (Nat × TI)) (s : St) : ResultVar → Option (List Prop × V)
  | .tmp t => (rdT s.tm [] t).map fun v => ([], v)
  | .cell t ty => (rdT s.tm [] t).bind fun v => evLoad tc s.H false ty v
def evRes (tc : List (Nat × TI)) (s : St) : List ResultVar → Option (List V)
  | [] => some []
  | x :: r => match evRes1 tc s x, evRes tc s r with
    | some ([], v), some vs => some (v :: vs)
    | _, _ => none
def tupV : List V → V
  | [v] => v
  | vs => .tup vs
/-- What is handed back: the result, the blocks that go with it. -/
def finish (tc : List (Nat × TI)) (fn : Func) (ids : List Nat) (s : St) : Option (List (Nat × Blk) × V) :=
  match evRes tc s fn.results.toList with
  | some vs => if inIds (okIds ids) (tupV vs) && HIn (okIds ids) (onlyH (okIds ids) s.H) then some (onlyH (okIds ids) s.H, tupV vs) else none
  | none => none
section
variable {C : Cx} {G : Gl} {φ : Phi} {a : Act} {w : World} {s : St}
theorem evRes_ok (hT : TCok C.P C.tc) (hI : Inv C G s φ a w) : ∀ {l : List ResultVar} {vs : List V}, evRes C.tc s l = some vs →
    ∃ us, (l.mapM (fun r => match r with | .tmp t => pure (a.tmps.getD t undef) | .cell t ty => do loadVar ty (← asAddr (a.tmps.getD t undef)) : ResultVar → Sem Value)).run C.P w = .ok us w ∧ Rels (Imm φ G.X w) w φ vs us
  | [], vs, h => by
    cases h
    exact ⟨[], rfl, .nil⟩
  | x :: r, vs, h => by
    unfold evRes at h
    split at h
    · rename_i v vs' h1 h2
      cases h
      obtain ⟨us, q1, q2⟩ := evRes_ok hT hI h2
      cases x with
      | tmp t =>
        simp only [evRes1, Option.map_eq_some_iff, Prod.mk.injEq] at h1
        obtain ⟨v', hv, _, rfl⟩ := h1
        have hr := rdA_ok hI.gok hI.tm0 (ch := []) (fun p hp => by simp at hp) (.tmp t) _ hv
        refine ⟨a.tmps.getD t undef :: us, ?_, .cons hr q2⟩
        rw [List.mapM_cons]
        simp only [Sem.run_bind, Sem.run_pure, Result.andThen_ok, q1]
      | cell t ty =>
        simp only [evRes1, Option.bind_eq_some_iff] at h1
        obtain ⟨v', hv, hl⟩ := h1
        have hr := rdA_ok hI.gok hI.tm0 (ch := []) (fun p hp => by simp at hp) (.tmp t) _ hv
        obtain ⟨z, k1, k2⟩ := evLoad_ok hT hl trivial hr hI.hr
        refine ⟨z :: us, ?_, .cons k2 q2⟩
        rw [List.mapM_cons]
        have e : (do loadVar ty (← asAddr (a.tmps.getD t undef)) : Sem Value).run C.P w = .ok z w := by
          have k1' : (Instr.loadAt ty (a.tmps.getD t undef)).run C.P w = .ok z w := k1
          simp only [Instr.loadAt, Sem.run_bind] at k1' ⊢
          revert k1'
          generalize a.tmps.getD t undef = q
          intro k1'
          cases q <;> simp only [Instr.sureAddr, asAddr, run_stuck, Result.andThen_halt, reduceCtorEq] at k1' ⊢
          rename_i ad
          cases ad <;> simp only [run_stuck, Result.andThen_halt, reduceCtorEq] at k1' ⊢
          exact k1'
        rw [Sem.run_bind, e]
        simp only [Result.andThen_ok, Sem.run_bind, q1, Sem.run_pure]
    · cases h
theorem results_ok (hT : TCok C.P C.tc) (hI : Inv C G s φ a w) {fn : Func} {vs : List V} (h : evRes C.tc s fn.results.toList = some vs) : ∃ u, (results fn a.tmps).run C.P w = .ok u w ∧ Rel (Imm φ G.X w) w φ (tupV vs) u := by
  obtain ⟨us, h1, h2⟩ := evRes_ok hT hI h
  have hm : (fn.results.mapM (fun r => match r with | .tmp t => pure (a.tmps.getD t undef) | .cell t ty => do loadVar ty (← asAddr (a.tmps.getD t undef)) : ResultVar → Sem Value)).run C.P w = .ok us.toArray w := by
    have e : fn.results = fn.results.toList.toArray := by simp
    rw [e, List.mapM_toArray]
    simp only [Sem.run_map]
    have e2 : fn.results.toList.toArray.toList = fn.results.toList := by simp
    rw [h1]
    rfl
  refine ⟨if h : us.toArray.size = 1 then us.toArray[0] else .tuple us.toArray, ?_, ?_⟩
  · unfold results
    rw [Sem.run_bind]
    exact congrArg (fun r => Result.andThen r fun (z : Array Value) w' => Sem.run C.P (pure (if h : z.size = 1 then z[0] else Value.tuple z)) w') hm
  · cases h2 with
    | nil => exact .tup rfl (fun i h => by simp at h)
    | cons k1 k2 =>
      cases k2 with
      | nil => exact k1
      | cons k2 k3 =>
        have := (Rels.cons k1 (Rels.cons k2 k3)).tup
        rw [dif_neg (by simp)]
        exact .tup (by simpa using this.1) (by simpa using this.2)
end

def params : Nat → List V → List (Nat × T)
  | _, [] => []
  | i, x :: r => (i, .plain x) :: params (i + 1) r
theorem lk_params {I : Nat → Prop} {w : World} {φ : Phi} : ∀ {xs : List V} {us : List Value} (i : Nat) {t : Nat} {x : T}, Rels I w φ xs us → lk (params i xs) t = some x → ∃ v, x = .plain v ∧ i ≤ t ∧ ∃ u, us[t - i]? = some u ∧ Rel I w φ v u
  | [], _, i, t, x, _, h => by cases h
  | y :: r, _, i, t, x, hr, h => by
    cases hr with
    | cons h1 h2 =>
      rename_i u us
      simp only [params, lk] at h
      split at h
      · rename_i e
        simp at e
        subst e
        cases h
        exact ⟨y, rfl, Nat.le_refl _, u, by simp, h1⟩
      · obtain ⟨v, e1, e2, u', e3, e4⟩ := lk_params (i + 1) h2 h
        refine ⟨v, e1, by omega, u', ?_, e4⟩
        rw [show t - i = (t - (i + 1)) + 1 by omega]
        simpa using e3

/-- **A CONTRACT, OUT OF A READING OF THE BODY.** -/
theorem Con.of {C : Cx} {f : FuncId} {fn : Func} {c : Code} {Hin Hout : List (Nat × Blk)} {args : List V} {r : V} (ids : List Nat) (hT : TCok C.P C.tc) (hf : C.P.funcs[f]? = some fn) (hb : fn.body = some c) (hn : fn.ntmps = C.n) (hname : (fn.name == "runtime.NumGoroutine") = false) (hle : Nat.ble args.length C.n = true)
    (h : AWP C c ⟨params 0 args, Hin⟩ (fun e s => (e = .normal ∨ e = .ret) ∧ finish C.tc fn ids s = some (Hout, r))) : Con C.P f Hin args Hout r := by
  refine ⟨⟨fn, hf, hname, by simp [hb]⟩, fun X φ w us hφ hX hH hx hg => ?_⟩
  have hlen := hx.tup.1
  have hle' : args.length ≤ C.n := Nat.le_of_ble_eq_true hle
  refine calls_of_wp hf hb ?_
  have hI : Inv C ⟨X, φ, w, hg⟩ ⟨params 0 args, Hin⟩ φ { tmps := us.toArray ++ Array.replicate (fn.ntmps - us.toArray.size) undef, defers := [] } w := by
    refine ⟨by simp [hn]; omega, rfl, fun t x ht => ?_, hH, hφ, hX, Frm.refl _ _, fun id b c hs => .inl ⟨id, c, hs⟩, fun id b _ h0 => .inl h0⟩
    obtain ⟨v, rfl, _, u, hu, hr⟩ := lk_params 0 hx ht
    show Rel _ _ _ v (Array.getD _ t undef)
    have hu' : us[t]? = some u := by simpa using hu
    have hlt : t < us.length := (List.getElem?_eq_some_iff.1 hu').1
    rw [Array.getD_eq_getD_getElem?, Array.getElem?_append_left (by simpa using hlt)]
    simp only [List.getElem?_toArray, hu', Option.getD_some]
    exact hr
  refine wp_mono (h.run ⟨X, φ, w, hg⟩ φ _ w hI) fun e a' w' ⟨s', φ', ⟨he, hfin⟩, hI'⟩ => ?_
  have key : a'.defers = [] ∧ ∃ v, (results fn a'.tmps).run C.P w' = .ok v w' ∧ (∃ u φ'', Ending.returned v = .returned u ∧ Frm φ w w' ∧ Phi.ok φ'' X w' Hout ∧ (∀ id b c, φ'' id = .at b c → (∃ id0 c0, φ id0 = .at b c0) ∨ w.heap.size ≤ b) ∧
      HR (Imm φ'' X w') w' φ'' Hout ∧ Rel (Imm φ'' X w') w' φ'' r u ∧ (∀ id b, BIG ≤ id → φ id = .at b none → φ'' id = .at b none ∨ lk Hout id = none)) := by
    unfold finish at hfin
    split at hfin
    · rename_i vs hvs
      split at hfin
      · rename_i hc
        cases hfin
        simp only [Bool.and_eq_true] at hc
        obtain ⟨u, h1, h2⟩ := results_ok hT hI' hvs
        have hIo : Inv C ⟨X, φ, w, hg⟩ ⟨[], onlyH (okIds ids) s'.H⟩ (φ'.only (okIds ids)) a' w' := by
          have hI2 : Inv C ⟨X, φ, w, hg⟩ ⟨[], s'.H⟩ φ' a' w' := ⟨hI'.size, hI'.defers, fun t x hx => by (cases hx), hI'.hr, hI'.ok, hI'.x, hI'.frm, hI'.own, hI'.fix⟩
          exact hI2.only (okIds ids) rfl hc.2
        exact ⟨hI'.defers, u, h1, u, φ'.only (okIds ids), rfl, hI'.frm, hIo.ok, hIo.own, hIo.hr, h2.onlyOk hc.1, hIo.fix⟩
      · cases hfin
    · cases hfin
  rcases he with rfl | rfl <;> exact key
/-- A contract, its own numbers greater by k. -/
theorem Con.shift {P : Program} {f : FuncId} {Hout H' : List (Nat × Blk)} {args : List V} {r r' : V} (h : Con P f [] args Hout r) (k : Nat) (hs : renH k Hout = H') (hr : ren k r = r') : Con P f [] args H' r' := by
  subst hs hr
  refine ⟨h.1, fun X φ w us a b c d g => Calls.mono (h.2 X φ w us a b c d g) ?_⟩
  rintro e w' ⟨u, φ', he, hf, hok, hown, hhr, hrel, _⟩
  have im : ∀ b, Imm φ' X w' b → Imm (φ'.sh k) X w' b ∧ w'.heap[b]? = w'.heap[b]? := fun b h => ⟨⟨h.1, fun id c hs => h.2.1 _ c (Phi.sh_at hs).1, h.2.2⟩, rfl⟩
  have hk : ∀ id, φ' id ≠ .none → φ'.sh k (id + k) = φ' id := fun id _ => Phi.sh_add id
  refine ⟨u, φ'.sh k, he, hf, ⟨fun i j b c c' hi hj => ?_, fun i b c hi => ?_, fun i b c hi => ?_, fun i hi => ?_⟩, fun i b c hi => ?_, fun i blk hl => ?_, Rel.mono im (hrel.ren (φ'.sh k) hk) _ (fun _ _ _ h => h) (fun _ h => h), fun id b _ h0 => by rw [a.dom id rfl] at h0; cases h0⟩
  · obtain ⟨h1, k1⟩ := Phi.sh_at hi
    obtain ⟨h2, k2⟩ := Phi.sh_at hj
    have := hok.inj _ _ _ _ _ h1 h2
    omega
  · exact hok.lt _ _ _ (Phi.sh_at hi).1
  · exact hok.free _ _ _ (Phi.sh_at hi).1
  · unfold Phi.sh
    split
    · rfl
    · rename_i hge
      refine hok.dom _ ?_
      cases hc : lk Hout (i - k) with
      | none => rfl
      | some b0 =>
        have := lk_renH_of (k := k) hc
        rw [show i - k + k = i by omega] at this
        rw [this] at hi
        cases hi
  · exact hown _ _ _ (Phi.sh_at hi).1
  · obtain ⟨id, b0, rfl, h1, rfl⟩ := lk_renH hl
    rw [Phi.sh_add]
    exact ((hhr id b0 h1).ren (φ'.sh k) hk).mono im (fun _ _ _ => rfl) (fun _ _ _ h => h) (fun _ h => h)
theorem Con.args {P : Program} {f : FuncId} {Hin Hout : List (Nat × Blk)} {args args' : List V} {r : V} (e : args = args') (h : Con P f Hin args' Hout r) : Con P f Hin args Hout r := e ▸ h
theorem sl_vs {X : Nat → Prop} {w : World} {φ : Phi} {id n : Nat} {cs : List V} {q : Nat × Nat} {u : Value} (hok : Phi.ok φ X w [(id, ⟨cs, true, 0, some q⟩)]) (hhr : HR (Imm φ X w) w φ [(id, ⟨cs, true, 0, some q⟩)]) (h : Rel (Imm φ X w) w φ (.sl id 0 n) u) : Rel (Imm Phi.emp X w) w Phi.emp (.vs cs n) u := by
  have hb := hhr id ⟨cs, true, 0, some q⟩ (by simp [lk])
  cases h with
  | sl hs q1 q2 q3 =>
    rename_i cap b c
    rw [hs] at hb
    obtain ⟨us, el, hh, hr, hk⟩ := hb
    have im : ∀ b, Imm φ X w b → Imm Phi.emp X w b ∧ w.heap[b]? = w.heap[b]? := fun b h => ⟨⟨h.1, fun _ _ h => (by cases h), h.2.2⟩, rfl⟩
    have hr' : RelL (Imm Phi.emp X w) w Phi.emp cs (us.toList.take cs.length) := RelL.mono im hr (fun _ _ _ h => h) (fun _ h => h)
    refine .vs hr'.1 hr'.2.1 hr'.2.2 (fun j v hv => ⟨b, 0, rfl, ⟨hok.lt _ _ _ hs, fun _ _ h => (by cases h), hok.free _ _ _ hs⟩, ?_⟩) (fun e => by cases e) q1 q2
    rw [List.getElem?_take] at hv
    split at hv
    · simp only [Nat.zero_add]
      simp [World.cell?, hh]
      simpa using hv
    · cases hv
  | slnil hs =>
    rw [hs] at hb
    have hc : cs = [] := hb.1
    subst hc
    exact .vs (us := []) rfl (fun i h => by simp at h) (fun u h => by simp at h) (fun j u h => by simp at h) (fun _ => rfl) (Nat.zero_le _) (Nat.zero_le _)
theorem emp_ok {X : Nat → Prop} {w : World} : Phi.ok Phi.emp X w [] := ⟨fun _ _ _ _ _ h => (by cases h), fun _ _ _ h => (by cases h), fun _ _ _ h => (by cases h), fun _ _ => rfl⟩
/-- What is handed back is nobody's: it may be taken as bytes that nobody writes. -/
theorem Con.frz1 {P : Program} {f : FuncId} {args : List V} {id n : Nat} {cs : List V} {q : Nat × Nat} (h : Con P f [] args [(id, ⟨cs, true, 0, some q⟩)] (.sl id 0 n)) : Con P f [] args [] (.vs cs n) := by
  refine ⟨h.1, fun X φ w us a b c d g => Calls.mono (h.2 X φ w us a b c d g) ?_⟩
  rintro e w' ⟨u, φ', he, hf, hok, hown, hhr, hrel, _⟩
  exact ⟨u, Phi.emp, he, hf, emp_ok, fun _ _ _ h => (by cases h), fun _ _ h => (by cases h), sl_vs hok hhr hrel, fun id b _ h0 => by rw [a.dom id rfl] at h0; cases h0⟩
theorem Con.frz3 {P : Program} {f : FuncId} {args : List V} {id n : Nat} {cs : List V} {q : Nat × Nat} {x y : Value} (h : Con P f [] args [(id, ⟨cs, true, 0, some q⟩)] (.tup [.val x, .sl id 0 n, .val y])) : Con P f [] args [] (.tup [.val x, .vs cs n, .val y]) := by
  refine ⟨h.1, fun X φ w us a b c d g => Calls.mono (h.2 X φ w us a b c d g) ?_⟩
  rintro e w' ⟨u, φ', he, hf, hok, hown, hhr, hrel, _⟩
  refine ⟨u, Phi.emp, he, hf, emp_ok, fun _ _ _ h => (by cases h), fun _ _ h => (by cases h), ?_, fun id b _ h0 => by rw [a.dom id rfl] at h0; cases h0⟩
  have im : ∀ b, Imm φ' X w' b → Imm Phi.emp X w' b ∧ w'.heap[b]? = w'.heap[b]? := fun b h => ⟨⟨h.1, fun _ _ h => (by cases h), h.2.2⟩, rfl⟩
  cases hrel with
  | tup hl hr =>
    refine .tup hl (fun i hi => ?_)
    match i, hi with
    | 0, _ => exact Rel.mono im ((hr 0 (by simp)).emp rfl) _ (fun _ _ _ h => h) (fun _ h => h)
    | 1, _ => exact sl_vs hok hhr (hr 1 (by simp))
    | 2, _ => exact Rel.mono im ((hr 2 (by simp)).emp rfl) _ (fun _ _ _ h => h) (fun _ h => h)
/-! What is owned is let go: bytes that nobody writes any more. -/
def frzT1 (id : Nat) (cs : List V) : T → T
  | .plain (.sl j off n) => if Nat.beq j id then .plain (.vs (dropC off cs) n) else .plain (.sl j off n)
  | x => if tIn (neId id) x then x else .plain .top
def frzTm (id : Nat) (cs : List V) : List (Nat × T) → List (Nat × T)
  | [] => []
  | (t, x) :: r => (t, frzT1 id cs x) :: frzTm id cs r
def frzV1 (id : Nat) (cs : List V) : V → V
  | .sl j off n => if Nat.beq j id then .vs (dropC off cs) n else .sl j off n
  | x => x
def frzB (id : Nat) (cs : List V) (b : Blk) : Blk :=
  if b.flat then b else { b with cells := b.cells.map (frzV1 id cs), flat := (b.cells.map (frzV1 id cs)).all flat }
def frzH (id : Nat) (cs : List V) : List (Nat × Blk) → List (Nat × Blk)
  | [] => []
  | (j, b) :: r => if Nat.beq j id then frzH id cs r else (j, frzB id cs b) :: frzH id cs r
def frzS (id : Nat) (s : St) : Option St :=
  match lk s.H id with
  | some blk => if blk.flat && (blk.bld.isSome && HIn (neId id) (frzH id blk.cells s.H)) then some ⟨frzTm id blk.cells s.tm, frzH id blk.cells s.H⟩ else none
  | none => none
theorem lk_frzH {id : Nat} {cs : List V} : ∀ {H : List (Nat × Blk)} (i : Nat), lk (frzH id cs H) i = if i = id then none else (lk H i).map (frzB id cs)
  | [], i => by simp [frzH, lk]
  | (j, b) :: r, i => by
    simp only [frzH]
    split
    · rename_i e
      have e := Nat.eq_of_beq_eq_true e
      subst e
      rw [lk_frzH i]
      split
      · rfl
      · rename_i hne
        simp only [lk, beq_iff_eq]
        rw [if_neg hne]
    · rename_i e
      simp only [lk, beq_iff_eq]
      by_cases h : i = j
      · subst h
        have : ¬ i = id := fun e2 => e (by subst e2; exact Nat.beq_refl i)
        simp [this]
      · rw [if_neg h, if_neg h]
        exact lk_frzH i
theorem flat_in {ok : Nat → Bool} {x : V} (h : flat x = true) : inIds ok x = true := by
  cases x with
  | agg fl cs =>
    simp only [flat] at h
    subst h
    rfl
  | val _ => rfl
  | vs _ _ => rfl
  | vp _ => rfl
  | bo => rfl
  | top => rfl
  | ptr _ _ => cases h
  | sl _ _ _ => cases h
  | tup _ => cases h
  | clo _ _ _ => cases h
theorem lk_frzTm {id : Nat} {cs : List V} : ∀ {tm : List (Nat × T)} {t : Nat} {x : T}, lk (frzTm id cs tm) t = some x → ∃ y, lk tm t = some y ∧ x = frzT1 id cs y
  | [], _, _, h => by cases h
  | (q, y) :: r, t, x, h => by
    simp only [frzTm, lk] at h ⊢
    split at h
    · rename_i e
      cases h
      exact ⟨y, by rw [if_pos e], rfl⟩
    · rename_i e
      obtain ⟨z, h1, h2⟩ := lk_frzTm h
      exact ⟨z, by rw [if_neg e]; exact h1, h2⟩
theorem sl_vsO {X : Nat → Prop} {w : World} {φ : Phi} {H : List (Nat × Blk)} {id off n : Nat} {blk : Blk} {u : Value} (hb : lk H id = some blk) (hf : blk.flat = true) (hok : Phi.ok φ X w H) (hhr : HR (Imm φ X w) w φ H) (h : Rel (Imm φ X w) w φ (.sl id off n) u) : Rel (Imm (φ.only (neId id)) X w) w (φ.only (neId id)) (.vs (dropC off blk.cells) n) u := by
  rw [dropC_eq]
  have hbr := hhr id _ hb
  cases h with
  | sl hs q1 q2 q3 =>
    rename_i cap b c
    rw [hs] at hbr
    obtain ⟨us, el, hh, hr, hk⟩ := hbr
    rw [hf] at hr
    have im : ∀ b, Imm φ X w b → Imm (φ.only (neId id)) X w b ∧ w.heap[b]? = w.heap[b]? := fun b h => ⟨only_imm h, rfl⟩
    have hr' : RelL (Imm (φ.only (neId id)) X w) w Phi.emp (blk.cells.drop off) ((us.toList.take blk.cells.length).drop off) := RelL.drop (RelL.mono im hr (fun _ _ _ h => h) (fun _ h => h)) off
    refine .vs hr'.1 hr'.2.1 hr'.2.2 (fun j v hv => ⟨b, off, rfl, ⟨hok.lt _ _ _ hs, fun i c' hi => ?_, hok.free _ _ _ hs⟩, ?_⟩) (fun e => by cases e) q1 q2
    · unfold Phi.only at hi
      split at hi
      · rename_i hne
        have := hok.inj _ _ _ _ _ hi hs
        subst this
        simp [neId] at hne
      · cases hi
    · rw [List.getElem?_drop, List.getElem?_take] at hv
      split at hv
      · simp [World.cell?, hh]
        simpa using hv
      · cases hv
  | slnil hs =>
    rw [hs] at hbr
    have hc : blk.cells = [] := hbr.1
    rw [hc]
    exact .vs (us := []) rfl (fun i h => by simp at h) (fun u h => by simp at h) (fun j u h => by simp at h) (fun _ => rfl) (Nat.zero_le _) (Nat.zero_le _)
theorem Inv.frz {C : Cx} {G : Gl} {s s' : St} {φ : Phi} {a : Act} {w : World} (hI : Inv C G s φ a w) {id : Nat} (h : frzS id s = some s') : Inv C G s' (φ.only (neId id)) a w := by
  unfold frzS at h
  split at h
  case h_2 => cases h
  rename_i blk hb
  split at h
  case isFalse => cases h
  rename_i hc
  cases h
  simp only [Bool.and_eq_true] at hc
  obtain ⟨hf, _, hrest⟩ := hc
  refine ⟨hI.size, hI.defers, fun t x hx => ?_, fun i blk' hl => ?_, ⟨fun i j b c c' hi hj => ?_, fun i b c hi => ?_, fun i b c hi => ?_, fun i hi => ?_⟩, hI.x, hI.frm, fun i b c hi => ?_, fun i b hbg h0 => ?_⟩
  rotate_right
  · show φ.only (neId id) i = _ ∨ lk (frzH id blk.cells s.H) i = none
    rw [lk_frzH]
    by_cases e : i = id
    · exact .inr (if_pos e)
    · rw [if_neg e]
      have hni : neId id i = true := by
        unfold neId
        cases hc : Nat.beq i id with
        | true => exact absurd (Nat.eq_of_beq_eq_true hc) e
        | false => rfl
      unfold Phi.only
      rw [if_pos hni]
      rcases hI.fix i b hbg h0 with h | h
      · exact .inl h
      · exact .inr (by rw [h]; rfl)
  · obtain ⟨y, hy, rfl⟩ := lk_frzTm hx
    have h := hI.tm t y hy
    have other : ∀ y, TRel (Imm φ G.X w) w φ a.tmps t y → TRel (Imm (φ.only (neId id)) G.X w) w (φ.only (neId id)) a.tmps t (if tIn (neId id) y = true then y else .plain .top) := fun y h => by
      split
      · rename_i hin
        cases y with
        | plain y => exact Rel.onlyOk h hin
        | gd d want y => exact ⟨fun e => (h.1 e).onlyOk hin, h.2⟩
      · exact Rel.top
    unfold frzT1
    split
    · rename_i j off n
      split
      · rename_i e
        have e := Nat.eq_of_beq_eq_true e
        subst e
        exact sl_vsO hb hf hI.ok hI.hr h
      · rename_i e
        refine Rel.onlyOk h ?_
        show neId id j = true
        unfold neId
        cases hc : Nat.beq j id with
        | true => exact absurd hc e
        | false => rfl
    · exact other _ h
  · have hl : lk (frzH id blk.cells s.H) i = some blk' := hl
    have hin := HIn_get hrest hl
    rw [lk_frzH] at hl
    split at hl
    · cases hl
    rename_i hne
    simp only [Option.map_eq_some_iff] at hl
    obtain ⟨b0, hb0, rfl⟩ := hl
    have hni : neId id i = true := by
      unfold neId
      cases hc : Nat.beq i id with
      | true => exact absurd (Nat.eq_of_beq_eq_true hc) hne
      | false => rfl
    have h0 := hI.hr i b0 hb0
    show BlkRel _ _ _ (if neId id i = true then φ i else .none) _
    rw [if_pos hni]
    unfold frzB at hin ⊢
    cases hfl : b0.flat with
    | true =>
      rw [hfl] at hin
      simp only [if_true] at hin ⊢
      exact h0.onlyOk hin
    | false =>
      rw [hfl] at hin
      simp only [Bool.false_eq_true, if_false] at hin ⊢
      cases hs : φ i with
      | none => trivial
      | nil =>
        rw [hs] at h0
        exact ⟨by rw [show b0.cells = [] from h0.1]; rfl, h0.2⟩
      | «at» b c =>
        rw [hs] at h0
        obtain ⟨us, el, k1, k2, k3⟩ := h0
        rw [hfl] at k2
        have one : ∀ j (hj : j < (b0.cells.map (frzV1 id blk.cells)).length), inIds (neId id) (b0.cells.map (frzV1 id blk.cells))[j] = true := fun j hj => by
          simp only [blkIn, Bool.or_eq_true] at hin
          rcases hin with hin | hin
          · exact flat_in (List.all_eq_true.1 hin _ (List.getElem_mem hj))
          · exact inIdsL_get hin j hj
        have hL : RelL (Imm (φ.only (neId id)) G.X w) w (φ.only (neId id)) (b0.cells.map (frzV1 id blk.cells)) (us.toList.take b0.cells.length) := by
          refine ⟨by rw [List.length_map]; exact k2.1, fun j hj => ?_, k2.2.2⟩
          have hj' : j < b0.cells.length := by rw [List.length_map] at hj; exact hj
          have h1 : Rel (Imm φ G.X w) w φ b0.cells[j] ((us.toList.take b0.cells.length).getD j undef) := k2.2.1 j hj'
          have h2 := one j hj
          rw [List.getElem_map] at h2 ⊢
          generalize b0.cells[j] = x at h1 h2
          unfold frzV1 at h2 ⊢
          split
          · rename_i jj off n
            split
            · rename_i e
              have e := Nat.eq_of_beq_eq_true e
              subst e
              exact sl_vsO hb hf hI.ok hI.hr h1
            · rename_i e
              simp only [e, if_false, Bool.false_eq_true] at h2
              exact h1.onlyOk h2
          · rename_i hno
            refine h1.onlyOk ?_
            split at h2
            · exact absurd rfl (hno _ _ _)
            · exact h2
        refine ⟨us, el, k1, ?_, ?_⟩
        · simp only [List.length_map]
          cases hall : (b0.cells.map (frzV1 id blk.cells)).all flat with
          | false => exact hL
          | true => exact ⟨hL.1, fun j hj => (hL.2.1 j hj).emp (List.all_eq_true.1 hall _ (List.getElem_mem hj)), hL.2.2⟩
        · simp only [List.length_map]
          exact k3
  · unfold Phi.only at hi hj
    split at hi
    · split at hj
      · exact hI.ok.inj _ _ _ _ _ hi hj
      · cases hj
    · cases hi
  · unfold Phi.only at hi
    split at hi
    · exact hI.ok.lt _ _ _ hi
    · cases hi
  · unfold Phi.only at hi
    split at hi
    · exact hI.ok.free _ _ _ hi
    · cases hi
  · have hi : lk (frzH id blk.cells s.H) i = none := hi
    rw [lk_frzH] at hi
    unfold Phi.only
    split
    · rename_i hok
      split at hi
      · rename_i e
        subst e
        simp [neId] at hok
      · simp only [Option.map_eq_none_iff] at hi
        exact hI.ok.dom i hi
    · rfl
  · unfold Phi.only at hi
    split at hi
    · exact hI.own _ _ _ hi
    · cases hi
theorem AWP.frz {C : Cx} {c : Code} {s s' : St} {K : Exit → St → Prop} (id : Nat) (hs : frzS id s = some s') (h : AWP C c s' K) : AWP C c s K := ⟨fun G φ a w hI => h.run G _ a w (hI.frz hs)⟩
/-! A nil slice may be taken for one without elements. -/
def nilVs : V → V
  | .val (.slice none 0 0) => .vs [] 0
  | x => x
def wkC : Nat → List V → List V
  | 0, cs => cs
  | _, [] => []
  | k + 1, x :: r => nilVs x :: wkC k r
def wkS (id k : Nat) (s : St) : Option St :=
  match lk s.H id with
  | some b => some ⟨s.tm, ins id { b with cells := wkC k b.cells } s.H⟩
  | none => none
theorem Rel.nilVs {I : Nat → Prop} {w : World} {φ : Phi} {x : V} {u : Value} (h : Rel I w φ x u) : Rel I w φ (nilVs x) u := by
  unfold Ab.nilVs
  split
  · obtain rfl := h.val_inv
    exact .vs (us := []) rfl (fun i h => by simp at h) (fun u h => by simp at h) (fun j u h => by simp at h) (fun _ => rfl) (Nat.zero_le _) (Nat.zero_le _)
  · exact h
theorem wkC_len : ∀ (k : Nat) (cs : List V), (wkC k cs).length = cs.length
  | 0, cs => rfl
  | k + 1, [] => rfl
  | k + 1, x :: r => by simp [wkC, wkC_len k r]
theorem RelL.wkC {I : Nat → Prop} {w : World} {φ : Phi} : ∀ (k : Nat) {cs : List V} {us : List Value}, RelL I w φ cs us → RelL I w φ (wkC k cs) us
  | 0, _, _, h => h
  | k + 1, [], us, h => h
  | k + 1, x :: r, us, h => by
    cases us with
    | nil => have := h.1; simp at this
    | cons u us =>
      have h0 := h.2.1 0 (by simp)
      have ht : RelL I w φ r us := by
        have := h.drop 1
        simpa using this
      exact RelL.cons (Rel.nilVs (by simpa using h0)) (h.2.2 u (by simp)) (RelL.wkC k ht)
theorem Inv.wk {C : Cx} {G : Gl} {s s' : St} {φ : Phi} {a : Act} {w : World} (hI : Inv C G s φ a w) {id k : Nat} (h : wkS id k s = some s') : Inv C G s' φ a w := by
  unfold wkS at h
  split at h
  case h_2 => cases h
  rename_i b hb
  cases h
  refine ⟨hI.size, hI.defers, hI.tm, fun i blk hl => ?_, ⟨hI.ok.inj, hI.ok.lt, hI.ok.free, fun i hi => ?_⟩, hI.x, hI.frm, hI.own, fun i q hq h0 => ?_⟩
  · rw [lk_ins] at hl
    split at hl
    · rename_i e
      subst e
      cases hl
      have h0 := hI.hr i b hb
      cases hs : φ i with
      | none => trivial
      | nil =>
        rw [hs] at h0
        refine ⟨?_, h0.2⟩
        show Ab.wkC k b.cells = []
        rw [show b.cells = [] from h0.1]
        cases k <;> rfl
      | «at» bb c =>
        rw [hs] at h0
        obtain ⟨us, el, h1, h2, h3⟩ := h0
        refine ⟨us, el, h1, ?_, ?_⟩
        · show RelL _ _ _ (Ab.wkC k b.cells) (us.toList.take (Ab.wkC k b.cells).length)
          rw [wkC_len]
          exact h2.wkC k
        · simp only [wkC_len]
          exact h3
    · exact hI.hr i blk hl
  · rw [lk_ins] at hi
    split at hi
    · cases hi
    · exact hI.ok.dom i hi
  · rcases hI.fix i q hq h0 with h | h
    · exact .inl h
    · refine .inr ?_
      show lk (ins id _ s.H) i = none
      rw [lk_ins, if_neg (fun e => by subst e; rw [hb] at h; cases h)]
      exact h
theorem AWP.wk {C : Cx} {c : Code} {s s' : St} {K : Exit → St → Prop} (id k : Nat) (hs : wkS id k s = some s') (h : AWP C c s' K) : AWP C c s K := ⟨fun G φ a w hI => h.run G _ a w (hI.wk hs)⟩
end Go.Ab
