/- Ranges over functions. -/
import Derived.Test.YtcekfepgdfcinaaGreatDoorAb32
import Derived.RangeFuncCalls
import Derived.RangeFuncSeq
import Derived.RangeFuncNested
set_option linter.unusedSimpArgs false
set_option linter.unusedVariables false
namespace Go.Ab
open Go.RowKit
section
variable {C : Cx} {G : Gl} {s : St} {φ : Phi} {a : Act} {w w' : World}
/-- What is nobody's here may be changed by its owner; and more may be nobody's, if it is new. -/
theorem Inv.swap (hI : Inv C G s φ a w) {G2 : Gl} {a2 : Act} {w2 : World} (h0 : G2.φ0 = G.φ0) (hw0 : G2.w0 = G.w0) (ht : a2.tmps = a.tmps) (hd : a2.defers = G2.ds)
    (hos : w2.os = w.os ∧ w2.tape = w.tape ∧ w2.output = w.output) (hsz : w.heap.size ≤ w2.heap.size) (hb : ∀ b, b < w.heap.size → ¬ G.X b → w2.heap[b]? = w.heap[b]?)
    (hX : ∀ b, b < w.heap.size → G2.X b → G.X b) (hxx : ∀ b, b < G.w0.heap.size → ¬ G2.X b → ¬ G.X b) (hx2 : XOk G2 w2) : Inv C G2 s φ a2 w2 := by
  have im : ∀ b, Imm φ G.X w b → Imm φ G2.X w2 b ∧ w2.heap[b]? = w.heap[b]? := fun b h =>
    ⟨⟨Nat.lt_of_lt_of_le h.1 hsz, h.2.1, fun hx => h.2.2 (hX b h.1 hx)⟩, hb b h.1 h.2.2⟩
  have own : ∀ i b c, φ i = .at b c → w2.heap[b]? = w.heap[b]? := fun i b c hi => hb b (hI.ok.lt i b c hi) (hI.ok.free i b c hi)
  refine ⟨by rw [ht]; exact hI.size, hd, fun t x hx => ?_, fun i blk hl => (hI.hr i blk hl).mono im (own i) (fun _ _ _ h => h) (fun _ h => h),
    ⟨hI.ok.inj, fun i b c hi => Nat.lt_of_lt_of_le (hI.ok.lt i b c hi) hsz, fun i b c hi hx => hI.ok.free i b c hi (hX b (hI.ok.lt i b c hi) hx), hI.ok.dom⟩, hx2, ?_, ?_, ?_⟩
  · have := hI.tm t x hx
    cases x with
    | plain y =>
      show Rel _ _ _ _ _
      rw [ht]
      exact Rel.mono im this _ (fun _ _ _ h => h) (fun _ h => h)
    | gd d want y =>
      refine ⟨fun e => ?_, fun e => ?_⟩
      · rw [ht] at e ⊢
        exact (this.1 e).mono im _ (fun _ _ _ h => h) (fun _ h => h)
      · rw [ht] at e ⊢
        exact this.2 e
  · have hfr := hI.frm
    refine ⟨by rw [hw0]; exact hos.1.trans hfr.os, by rw [hw0]; exact hos.2.1.trans hfr.tape, by rw [hw0]; exact hos.2.2.trans hfr.output, by rw [hw0]; exact Nat.le_trans hfr.size hsz, fun b hb0 hn hx => ?_⟩
    rw [hw0] at hb0 ⊢
    rw [h0] at hn
    have hlt := Nat.lt_of_lt_of_le hb0 hfr.size
    have hx1 := hxx b hb0 hx
    exact (hb b hlt hx1).trans (hfr.block b hb0 hn hx1)
  · rw [h0, hw0]; exact hI.own
  · rw [h0]; exact hI.fix
/-- What grows without touching what was. -/
theorem Inv.grow (hI : Inv C G s φ a w) (h : Below w.heap.size w w') : Inv C G s φ a w' :=
  hI.swap rfl rfl rfl hI.defers ⟨h.os, h.tape, h.output⟩ h.size (fun b hb _ => h.block b hb) (fun _ _ h => h) (fun _ _ h => h)
    (hI.x.to h.size fun b hb => h.block b (hI.x.lt b hb))
end
/-- A loop's record and its marks are laid. -/
theorem enter_ok {P : Program} {G : Gl} {w : World} (hx : XOk G w) (fn : FuncId) (tmps : Array Value) (ps : Array Tmp) (assign body : Code) :
    ∃ (l : Nat) (Ds : List Nat) (W1 : World) (r0 : Loop), (Instr.enterLoop fn tmps ps assign body G.rd).run P w = .ok (l, Ds.map markD) W1 ∧ r0.fn = fn ∧ r0.tmps = tmps ∧ r0.params = ps ∧ r0.assign = assign ∧ r0.body = body ∧ r0.state = .ready ∧ r0.pending = none ∧
      W1.heap[l]? = some (.loop r0) ∧ w.heap.size ≤ l ∧ Below w.heap.size w W1 ∧ l ∉ Ds ∧ Ds.Nodup ∧ ∀ D ∈ Ds, w.heap.size ≤ D ∧ W1.heap[D]? = some (.deferred (some [])) := by
  cases hrd : G.rd with
  | none =>
    refine ⟨_, [w.heap.size], _, { state := .ready, pending := none, fn, tmps, params := ps, assign, body, defers := w.heap.size }, run_enterLoop_outer fn tmps ps assign body, rfl, rfl, rfl, rfl, rfl, rfl, rfl, ?_, by omega, ?_, by simp, by simp, fun D hD => ?_⟩
    · have := World.alloc_heap_new (w.alloc (.deferred (some []))) (.loop { state := .ready, pending := none, fn, tmps, params := ps, assign, body, defers := w.heap.size })
      rwa [World.size_alloc] at this
    · exact ((Below.refl _ w).alloc (Nat.le_refl _) _).alloc (by simp) _
    · rw [List.mem_singleton] at hD
      subst hD
      exact ⟨Nat.le_refl _, (Below.heap_alloc _ _ _ (by simp)).trans (World.alloc_heap_new w _)⟩
  | some l0 =>
    obtain ⟨h1, r, h2⟩ := G.hrd l0 hrd
    have h3 : w.heap[l0]? = some (.loop r) := (hx.2.2 l0 h1).trans h2
    refine ⟨_, [], _, { state := .ready, pending := none, fn, tmps, params := ps, assign, body, defers := r.defers }, run_enterLoop_inner h3 fn tmps ps assign body, rfl, rfl, rfl, rfl, rfl, rfl, rfl, World.alloc_heap_new w _, Nat.le_refl _, (Below.refl _ w).alloc (Nat.le_refl _) _, by simp, by simp, fun D hD => by cases hD⟩
/-- What a function does that is ranged over: it hands over one row of values after another, in worlds in which what it has caught lies as it lay. -/
def ViewOk (Hc : List (Nat × Blk)) (caps : List V) (lb : List Value) (A : World) (X : Nat → Prop) (φ : Phi) : Prop :=
  Phi.ok φ X A Hc ∧ (∀ b, X b → b < A.heap.size) ∧ HR (Imm φ X A) A φ Hc ∧ Rels (Imm φ X A) A φ caps lb ∧ GOk (Imm φ X A) A
def IterOk (P : Program) (gf : FuncId) (Hc : List (Nat × Blk)) (caps : List V) (xs : List (List V)) : Prop :=
  FnOk P gf ∧ ∀ (m l : Nat) (lb : List Value) (J : Nat → World → Prop) (Vw : Nat → World → (Nat → Prop) → Phi → Prop) (Jx : World → Prop) (W : World),
    (∀ k A, J k A → ∃ X φ, Vw k A X φ) → (∀ k A X φ, Vw k A X φ → ViewOk Hc caps lb A X φ) → (∀ k A B, J k A → Below A.heap.size A B → J k B) →
    (∀ k A X φ us x, J k A → Vw k A X φ → xs[k]? = some x → Rels (Imm φ X A) A φ x us → YieldAt Fence.wide m P l us.toArray A fun e B => (e = .returned (.bool true) ∧ J (k + 1) B) ∨ (e = .returned (.bool false) ∧ Jx B)) →
    J 0 W → CallsIn Fence.wide (m + 1) P gf (#[.func (.yield l) #[] #[]] ++ lb.toArray) W fun e W' => (∃ v, e = .returned v) ∧ (J xs.length W' ∨ Jx W')
/-! A round, as a piece of the program that is lent blocks. -/
def takeT (tm : List (Nat × T)) : List Tmp → Option (List V)
  | [] => some []
  | t :: r => match lk tm t, takeT tm r with
    | some (.plain v), some l => some (v :: l)
    | _, _ => none
def zipT : List Tmp → List V → List (Nat × T) → List (Nat × T)
  | t :: r, v :: l, tm => ins t (.plain v) (zipT r l tm)
  | _, _, tm => tm
def setAll : List Tmp → List Value → Array Value → Array Value
  | p :: r, v :: l, tm => setAll r l (tm.setIfInBounds p v)
  | _, _, tm => tm
theorem foldl_setAll : ∀ (ps : List Tmp) (us : List Value) (tm : Array Value), (ps.zip us).foldl (fun t (p, v) => t.setIfInBounds p v) tm = setAll ps us tm
  | [], _, _ => rfl
  | _ :: _, [], _ => rfl
  | p :: r, v :: l, tm => foldl_setAll r l _
theorem setAll_size : ∀ (ps : List Tmp) (us : List Value) (tm : Array Value), (setAll ps us tm).size = tm.size
  | [], _, _ => rfl
  | _ :: _, [], _ => rfl
  | p :: r, v :: l, tm => by rw [setAll, setAll_size r l]; simp
theorem setAll_not : ∀ (ps : List Tmp) (us : List Value) (tm : Array Value) (t : Tmp), t ∉ ps → (setAll ps us tm).getD t undef = tm.getD t undef
  | [], _, _, _, _ => rfl
  | _ :: _, [], _, _, _ => rfl
  | p :: r, v :: l, tm, t, h => by
    have h1 : ¬ p = t := fun e => h (by rw [e]; simp)
    rw [setAll, setAll_not r l _ t (fun h' => h (by simp [h']))]
    simp [Array.getD_eq_getD_getElem?, Array.getElem?_setIfInBounds, h1]
theorem setAll_get : ∀ (ps : List Tmp) (us : List Value) (tm : Array Value) (i : Nat) (t : Tmp) (u : Value), ps.Nodup → (∀ p ∈ ps, p < tm.size) → ps[i]? = some t → us[i]? = some u → (setAll ps us tm).getD t undef = u
  | [], _, _, i, _, _, _, _, h, _ => by simp at h
  | _ :: _, [], _, i, _, _, _, _, _, h => by simp at h
  | p :: r, v :: l, tm, 0, t, u, hn, hlt, h, hu => by
    simp only [List.getElem?_cons_zero, Option.some.injEq] at h hu
    subst h hu
    rw [setAll, setAll_not r l _ _ (List.nodup_cons.1 hn).1]
    have := hlt p (by simp)
    simp [Array.getD_eq_getD_getElem?, Array.getElem?_setIfInBounds, this]
  | p :: r, v :: l, tm, i + 1, t, u, hn, hlt, h, hu => by
    simp only [List.getElem?_cons_succ] at h hu
    exact setAll_get r l _ i t u (List.nodup_cons.1 hn).2 (fun q hq => by simpa using hlt q (by simp [hq])) h hu
theorem lk_zipT : ∀ {ps : List Tmp} {vs : List V} {tm : List (Nat × T)} {t : Nat} {z : T}, lk (zipT ps vs tm) t = some z → (∃ (i : Nat) (v : V), ps[i]? = some t ∧ vs[i]? = some v ∧ z = .plain v) ∨ ((t ∉ ps ∨ ps.length ≠ vs.length) ∧ lk tm t = some z)
  | [], _, _, _, _, h => .inr ⟨.inl (by simp), h⟩
  | _ :: _, [], _, _, _, h => .inr ⟨.inr (by simp), h⟩
  | p :: r, v :: l, tm, t, z, h => by
    rw [zipT, lk_ins] at h
    split at h
    · rename_i e
      cases h
      exact .inl ⟨0, v, by simp [e], rfl, rfl⟩
    · rename_i e
      rcases lk_zipT h with ⟨i, v', h1, h2, h3⟩ | ⟨h1, h2⟩
      · exact .inl ⟨i + 1, v', h1, h2, h3⟩
      · refine .inr ⟨?_, h2⟩
        rcases h1 with h1 | h1
        · exact .inl (by simp [e, h1])
        · exact .inr (by simpa using h1)
theorem Rels.get {I : Nat → Prop} {w : World} {φ : Phi} : ∀ {cs : List V} {us : List Value}, Rels I w φ cs us → ∀ {i : Nat} {v : V}, cs[i]? = some v → ∃ u, us[i]? = some u ∧ Rel I w φ v u := fun {cs us} h => by
  induction h with
  | nil => intro i v h; simp at h
  | cons h1 _ ih =>
    intro i v h
    cases i with
    | zero => simp only [List.getElem?_cons_zero, Option.some.injEq] at h; subst h; exact ⟨_, rfl, h1⟩
    | succ i => exact ih h
theorem rels_map {I : Nat → Prop} {w : World} {φ : Phi} {a : Act} {tm : List (Nat × T)} (ht : TmRel I w φ tm a) : ∀ {ts : List Tmp} {xs : List V}, takeT tm ts = some xs → Rels I w φ xs (ts.map fun t => a.tmps.getD t undef)
  | [], xs, h => by cases h; exact .nil
  | t :: r, xs, h => by
    unfold takeT at h
    split at h
    · rename_i v l h1 h2
      cases h
      exact .cons (ht t _ h1) (rels_map ht h2)
    · cases h
/-- What a round leaves, by the loop's numbers. -/
def evRnd (s : St) (d : Nat) (ps : List (Nat × Nat)) (Hout : List (Nat × Blk)) : Option St :=
  match setOwn Hout s.H ps (base d) ps with
  | some H1 => if restOk ps Hout && (othersOk ps (movers s.H ps) s.H && stays ps) then
      match insAll (restH (gOut ps (base d)) (base d) Hout) H1 with
      | some H2 => some ⟨killTs (movers s.H ps) s.tm, H2⟩
      | none => none
    else none
  | none => none
def rndK (K : Exit → St → Prop) (I : Nat → St → Prop) (k d : Nat) (pb : List (Nat × Nat)) (s : St) (e : Exit) (sB : St) : Prop :=
  ∃ ids s', HIn (okIds ids) (onlyH (okIds ids) sB.H) = true ∧ evRnd s d pb (onlyH (okIds ids) sB.H) = some s' ∧
    match e with
    | .normal => I (k + 1) s'
    | .exit id => K (.exit id) s'
    | .goto t => K (.goto t) s'
    | .ret => K .ret s'
    | _ => False
/-- What stands behind the assignments to the loop's left sides. -/
def asgK (C : Cx) (y : Code) (K : Exit → St → Prop) : Exit → St → Prop
  | .normal, s => AWP C y s K
  | _, _ => False
/-- A round: what it is lent, and handed; its code; what it leaves. -/
def RoundP (C : Cx) (K : Exit → St → Prop) (I : Nat → St → Prop) (ps : List Tmp) (assign body : Code) (k : Nat) (s : St) (x : List V) : Prop :=
  ∃ d pb ts xs ys Hin, takeT s.tm ts = some xs ∧ ownIn s.H pb pb = some Hin ∧ ownArgs pb xs = some ys ∧ (distinct (pb.map (·.1)) && distinct (pb.map (·.2))) = true ∧
    AWP C assign ⟨zipT ps x (zipT ts ys []), Hin⟩ (asgK C body (rndK K I k d pb s))
def jumpC : Exit → Option Code
  | .exit id => some (.exit id)
  | .goto t => some (.goto t)
  | .ret => some .ret
  | _ => none
theorem putObj_twice (w : World) (l : Nat) (o o' : Obj) : (w.putObj l o).putObj l o' = w.putObj l o' := by simp [World.putObj]
/-- One round. -/
theorem round_run {C : Cx} {G : Gl} {s : St} {φ : Phi} {a : Act} {A : World} {K : Exit → St → Prop} {I : Nat → St → Prop} {ps : Array Tmp} {assign body : Code} {k l : Nat} {x : List V} {us : List Value} {r0 : Loop}
    (hI : Inv C G s φ a A) (hXl : G.X l) (hl : A.heap[l]? = some (.loop r0)) (htm : r0.tmps = a.tmps) (hpa : r0.params = ps) (has : r0.assign = assign) (hbo : r0.body = body) (hst : r0.state = .ready) (hpe : r0.pending = none)
    (hps : ps.toList.Nodup) (hpn : ∀ p ∈ ps.toList, p < C.n) (hxl : x.length = ps.size) (hr : RoundP C K I ps.toList assign body k s x) (hus : Rels (Imm φ G.X A) A φ x us) (hfree : inIdsL (fun _ => false) x = true) :
    YieldAt Fence.wide 0 C.P l us.toArray A fun e B => (e = .returned (.bool true) ∧ ∃ s' φ', I (k + 1) s' ∧ Inv C G s' φ' a B) ∨
      (e = .returned (.bool false) ∧ ∃ ex jc s' φ' B0, jumpC ex = some jc ∧ K ex s' ∧ Inv C G s' φ' a B0 ∧ B = B0.putObj l (.loop { r0 with state := .done, pending := some jc })) := by
  obtain ⟨d, pb, ts, vs, ys, Hin, htk, hin, hargs, hd, hAs⟩ := hr
  simp only [Bool.and_eq_true] at hd
  obtain ⟨X', φc, hokc, hX', hHin, hys, hgk, hGX, im, mi, hpost⟩ := callO_core hI hin hargs hd.1 hd.2
  have hlu : us.length = x.length := hus.tup.1
  have hll : l < A.heap.size := (Array.getElem?_eq_some_iff.1 hl).1
  subst hpa has hbo
  refine ⟨_, _, _, _, run_yield hl (by simp [hlu, hxl]), ?_⟩
  have hfold : (r0.params.zip us.toArray).foldl (fun tmps (t, a) => tmps.setIfInBounds t a) r0.tmps = setAll r0.params.toList us a.tmps := by
    rw [htm, ← Array.foldl_toList, Array.toList_zip, ← foldl_setAll]
  rw [hfold]
  -- the round's own view
  let Gb : Gl := ⟨X', φc, A, hgk, [], A, some l, fun l' e => by cases e; exact ⟨hGX l hXl, r0, hl⟩⟩
  let ar : Act := { tmps := setAll r0.params.toList us a.tmps, defers := [] }
  have hIb : Inv C Gb ⟨zipT r0.params.toList x (zipT ts ys []), Hin⟩ φc ar A := by
    refine ⟨by show (setAll _ _ _).size = _; rw [setAll_size]; exact hI.size, rfl, fun t z hz => ?_, hHin, hokc, ⟨hX', Nat.le_refl _, fun _ _ => rfl⟩, ⟨rfl, rfl, rfl, Nat.le_refl _, fun _ _ _ _ => rfl⟩, fun id b c h => .inl ⟨id, c, h⟩, fun id _ _ => .inl rfl⟩
    rcases lk_zipT hz with ⟨i, v, h1, h2, rfl⟩ | ⟨h1, h2⟩
    · obtain ⟨u, hu, hrel⟩ := hus.get h2
      show Rel _ _ _ v ((setAll r0.params.toList us a.tmps).getD t undef)
      rw [setAll_get r0.params.toList us a.tmps i t u hps (fun p hp => by rw [hI.size]; exact hpn p hp) h1 hu]
      have hf : inIds (fun _ => false) v = true := by
        obtain ⟨q1, q2⟩ := List.getElem?_eq_some_iff.1 h2
        rw [← q2]
        exact inIdsL_get hfree i q1
      exact Rel.mono (fun b hb => ⟨im b hb, rfl⟩) (hrel.only hf φc (fun _ h => by cases h)) _ (fun _ _ _ h => h) (fun _ h => h)
    · rcases lk_zipT h2 with ⟨i, v, g1, g2, rfl⟩ | ⟨_, g2⟩
      · have hnot : t ∉ r0.params.toList := by
          rcases h1 with h1 | h1
          · exact h1
          · exact absurd (by simp [hxl]) h1
        obtain ⟨u, hu, hrel⟩ := (hys (rels_map hI.tm htk)).get g2
        show Rel _ _ _ v ((setAll r0.params.toList us a.tmps).getD t undef)
        rw [setAll_not _ _ _ _ hnot]
        rw [List.getElem?_map, g1] at hu
        cases hu
        exact hrel
      · cases g2
  have hbk : ∀ {G' : Gl} {s' : St} {φ' : Phi} {a' : Act} {w' : World}, GExt Gb G' → Inv C G' s' φ' a' w' → G'.X l ∧ w'.heap[l]? = some (.loop r0) := fun {G'} {s'} {φ'} {a'} {w'} hg hI' => by
    obtain ⟨Ds, d1, d2, d3, d4⟩ := hg.ds
    have h1 : G'.X l := (d2 l).2 (.inl (hGX l hXl))
    exact ⟨h1, (hI'.x.2.2 l h1).trans ((hg.x l (hGX l hXl)).trans hl)⟩
  refine roundIn_of_wpIn (F := Fence.wide) (n := 0) trivial ?_
  refine wpIn_mono (hAs.run Gb φc ar A 0 hIb) fun e a1 w1 ⟨s1, φ1, G1, hg1, hasg, hI1⟩ => ?_
  obtain ⟨he, hbody⟩ : e = .normal ∧ AWP C r0.body s1 (rndK K I k d pb s) := by
    cases e <;> first | exact ⟨rfl, hasg⟩ | exact (hasg : False).elim
  subst he
  obtain ⟨hx1, hl1⟩ := hbk hg1 hI1
  have hw1 : l < w1.heap.size := (Array.getElem?_eq_some_iff.1 hl1).1
  refine ⟨_, run_beginRound hl1 hst, ?_⟩
  generalize hw2 : w1.putObj l (.loop { r0 with state := .busy }) = w2
  have hl2 : w2.heap[l]? = some (.loop { r0 with state := .busy }) := by rw [← hw2]; exact World.putObj_heap_same hw1
  have ho2 : ∀ b, b ≠ l → w2.heap[b]? = w1.heap[b]? := fun b hb => by rw [← hw2]; exact World.putObj_heap_other hb
  have hs2 : w2.heap.size = w1.heap.size := by rw [← hw2]; exact World.putObj_size
  have hX1 : XOk ⟨G1.X, G1.φ0, G1.w0, G1.gok, G1.ds, w2, some l, fun l' e => by cases e; exact ⟨hx1, _, hl2⟩⟩ w2 := ⟨fun b hb => by show b < w2.heap.size; rw [hs2]; exact hI1.x.lt b hb, Nat.le_refl _, fun _ _ => rfl⟩
  have hI2 := hI1.swap (G2 := ⟨G1.X, G1.φ0, G1.w0, G1.gok, G1.ds, w2, some l, fun l' e => by cases e; exact ⟨hx1, _, hl2⟩⟩) (a2 := a1) (w2 := w2) rfl rfl rfl hI1.defers (by rw [← hw2]; exact ⟨rfl, rfl, rfl⟩) (by rw [hs2]; exact Nat.le_refl _)
    (fun b _ hb => ho2 b (fun e => hb (by rw [e]; exact hx1))) (fun _ _ h => h) (fun _ _ h => h) hX1
  refine wpIn_mono (hbody.run _ φ1 a1 w2 0 hI2) fun e a3 w3 ⟨sB, φB, GB, hgB, ⟨ids, s', hH, hev, hk⟩, hIB⟩ => ?_
  -- behind the body
  obtain ⟨Es, e1, e2, e3, e4⟩ := hgB.ds
  obtain ⟨Ds, d1, d2, d3, d4⟩ := hg1.ds
  have hxB : GB.X l := (e2 l).2 (.inl hx1)
  have hl3 : w3.heap[l]? = some (.loop { r0 with state := .busy }) := (hIB.x.2.2 l hxB).trans ((hgB.x l hx1).trans hl2)
  have hw3 : l < w3.heap.size := (Array.getElem?_eq_some_iff.1 hl3).1
  have hXB : ∀ b, X' b → GB.X b := fun b hb => (e2 b).2 (.inl ((d2 b).2 (.inl hb)))
  have hsame : ∀ b, X' b → b ≠ l → w3.heap[b]? = A.heap[b]? := fun b hb hne => by
    have q1 : G1.X b := (d2 b).2 (.inl hb)
    exact (hIB.x.2.2 b (hXB b hb)).trans ((hgB.x b q1).trans ((ho2 b hne).trans ((hI1.x.2.2 b q1).trans (hg1.x b hb))))
  have hszA : A.heap.size ≤ w3.heap.size := by
    have q := hIB.frm.size
    rw [hgB.w0] at q
    show _ ≤ _
    have q2 : G1.w0 = A := hg1.w0
    have q3 : (⟨G1.X, G1.φ0, G1.w0, G1.gok, G1.ds, w2, some l, fun l' e => by cases e; exact ⟨hx1, _, hl2⟩⟩ : Gl).w0 = A := q2
    rw [q3] at q
    exact q
  generalize hw4 : w3.putObj l (.loop r0) = w4
  have hl4 : w4.heap[l]? = some (.loop r0) := by rw [← hw4]; exact World.putObj_heap_same hw3
  have ho4 : ∀ b, b ≠ l → w4.heap[b]? = w3.heap[b]? := fun b hb => by rw [← hw4]; exact World.putObj_heap_other hb
  have hs4 : w4.heap.size = w3.heap.size := by rw [← hw4]; exact World.putObj_size
  have hX4 : ∀ b, X' b → w4.heap[b]? = A.heap[b]? := fun b hb => by
    by_cases e : b = l
    · rw [e, hl4, hl]
    · exact (ho4 b e).trans (hsame b hb e)
  have hI3 : Inv C GB ⟨[], onlyH (okIds ids) sB.H⟩ (φB.only (okIds ids)) a3 w3 := by
    have hI2 : Inv C GB ⟨[], sB.H⟩ φB a3 w3 := ⟨hIB.size, hIB.defers, fun t x hx => by (cases hx), hIB.hr, hIB.ok, hIB.x, hIB.frm, hIB.own, hIB.fix⟩
    exact hI2.only (okIds ids) rfl hH
  have hI4 : Inv C Gb ⟨[], onlyH (okIds ids) sB.H⟩ (φB.only (okIds ids)) { a3 with defers := [] } w4 := by
    refine hI3.swap (by rw [hgB.φ0]; exact hg1.φ0.symm) (by rw [hgB.w0]; exact hg1.w0.symm) rfl rfl (by rw [← hw4]; exact ⟨rfl, rfl, rfl⟩) (by rw [hs4]; exact Nat.le_refl _) (fun b _ hb => ho4 b (fun e => hb (by rw [e]; exact hxB))) (fun b _ hb => hXB b hb) ?_ ⟨hX', by rw [hs4]; exact hszA, hX4⟩
    intro b hb hnb hxb
    have q0 : GB.w0 = A := by rw [hgB.w0]; exact hg1.w0
    rw [q0] at hb
    rcases (e2 b).1 hxb with h | h
    · rcases (d2 b).1 h with h | h
      · exact hnb h
      · have q := (d4 b h).1
        have : Gb.w1 = A := rfl
        rw [this] at q
        omega
    · have q := (e4 b h).1
      have q2 : A.heap.size ≤ w2.heap.size := by
        have := hI1.frm.size
        rw [hg1.w0] at this
        rw [hs2]
        exact this
      have q : w2.heap.size ≤ b := q
      omega
  have hfin : ∃ φ2, Inv C G s' φ2 a w4 := by
    unfold evRnd at hev
    split at hev
    case h_2 => cases hev
    rename_i H1 hset
    split at hev
    case isFalse => cases hev
    rename_i hc
    split at hev
    case h_2 => cases hev
    rename_i H2 hins
    cases hev
    simp only [Bool.and_eq_true] at hc
    obtain ⟨φ2, h1, _, _⟩ := hpost d _ H1 H2 (.val (.bool true)) hset hc.1 rfl hc.2.1 hc.2.2 hins w4 (.bool true) _ ⟨hI4.frm.os, hI4.frm.tape, hI4.frm.output, hI4.frm.size, fun b hb h0 => by
      by_cases hxb : X' b
      · exact hX4 b hxb
      · exact hI4.frm.block b hb h0 hxb⟩ hI4.ok hI4.own hI4.hr (.val rfl) hI4.fix
    exact ⟨φ2, h1⟩
  obtain ⟨φ2, hfin⟩ := hfin
  have fin : ∀ (j : Option Code), (Instr.endRound l j).run C.P w3 = .ok (.bool j.isNone) (w3.putObj l (.loop { r0 with state := if j.isNone then .ready else .done, pending := j })) := fun j => run_endRound (r := { r0 with state := .busy }) j hl3
  have fin2 : ∀ ex jc, jumpC ex = some jc → K ex s' → ∃ v w', (Instr.endRound l (some jc)).run C.P w3 = .ok v w' ∧ (((Ending.returned v) = .returned (.bool true) ∧ ∃ s' φ', I (k + 1) s' ∧ Inv C G s' φ' a w') ∨
      ((Ending.returned v) = .returned (.bool false) ∧ ∃ ex jc s' φ' B0, jumpC ex = some jc ∧ K ex s' ∧ Inv C G s' φ' a B0 ∧ w' = B0.putObj l (.loop { r0 with state := .done, pending := some jc }))) := fun ex jc hj hK =>
    ⟨_, _, fin (some jc), .inr ⟨rfl, ex, jc, s', φ2, w4, hj, hK, hfin, by rw [← hw4, putObj_twice]; rfl⟩⟩
  cases e with
  | normal =>
    refine ⟨_, _, fin none, .inl ⟨rfl, s', φ2, hk, ?_⟩⟩
    have : w3.putObj l (.loop { r0 with state := if (none : Option Code).isNone then .ready else .done, pending := none }) = w4 := by
      rw [← hw4]
      congr 2
      cases r0
      simp_all
    rw [this]
    exact hfin
  | exit id => exact fin2 (.exit id) _ rfl hk
  | goto t => exact fin2 (.goto t) _ rfl hk
  | ret => exact fin2 .ret _ rfl hk
  | panic c => exact hk.elim
  | outgrown => exact hk.elim
theorem distinct_nodup : ∀ {l : List Nat}, distinct l = true → l.Nodup
  | [], _ => List.nodup_nil
  | x :: r, h => by
    simp only [distinct, Bool.and_eq_true, Bool.not_eq_true', List.contains_eq_mem, decide_eq_false_iff_not] at h
    exact List.nodup_cons.2 ⟨h.1, distinct_nodup h.2⟩
def psOk (n : Nat) (l : List Tmp) : Bool := distinct l && l.all fun p => Nat.blt p n
theorem Rels.free {I I' : Nat → Prop} {w : World} {φ φ' : Phi} (hI : ∀ b, I b → I' b) {cs : List V} {us : List Value} (h : Rels I w φ cs us) : inIdsL (fun _ => false) cs = true → Rels I' w φ' cs us := by
  induction h with
  | nil => exact fun _ => .nil
  | cons h1 _ ih =>
    intro hf
    simp only [inIdsL, Bool.and_eq_true] at hf
    exact .cons (Rel.mono (fun b hb => ⟨hI b hb, rfl⟩) (h1.only hf.1 φ' (fun _ h => by cases h)) _ (fun _ _ _ h => h) (fun _ h => h)) (ih hf.2)
theorem clo_inv {I : Nat → Prop} {w : World} {φ : Phi} {f : Fn} {cap : List V} {u : Value} (h : Rel I w φ (.clo f [] cap) u) : ∃ vs : Array Value, u = .func f #[] vs ∧ Rels I w φ cap vs.toList := by
  cases h with
  | clo hz h2 hl hh =>
    rename_i us vs
    have : us = #[] := Array.size_eq_zero_iff.1 (by simpa using hz)
    subst this
    exact ⟨vs, rfl, rels_of (by simpa using hl) hh⟩
/-- **A RANGE OVER A FUNCTION.** -/
theorem AWP.rangeF {C : Cx} {g : Operand} {ps : Array Tmp} {assign body : Code} {s : St} {K : Exit → St → Prop} {gf : FuncId} (psC : List (Nat × Nat)) {Hc : List (Nat × Blk)} {capsY : List V} {xs : List (List V)} (it : IterOk C.P gf Hc capsY xs) (I : Nat → St → Prop)
    (hcap : ∀ k s, I k s → ∃ caps, rdA s.tm [] g = some (.clo (.func gf) [] caps) ∧ ownIn s.H psC psC = some Hc ∧ ownArgs psC caps = some capsY) (hdC : (distinct (psC.map (·.1)) && distinct (psC.map (·.2))) = true) (hps : psOk C.n ps.toList = true)
    (hxs : ∀ x ∈ xs, x.length = ps.size ∧ inIdsL (fun _ => false) x = true) (h0 : I 0 s) (round : ∀ k s x, I k s → xs[k]? = some x → RoundP C K I ps.toList assign body k s x) (hend : ∀ s, I xs.length s → K .normal s) : AWP C (.rangeFunc g ps assign body) s K := by
  simp only [psOk, Bool.and_eq_true, List.all_eq_true, Nat.blt_eq] at hps
  simp only [Bool.and_eq_true] at hdC
  constructor
  intro G φ a w n hI
  refine wpIn_rangeFunc fun fn _ => ?_
  obtain ⟨l, Ds, W1, r0, hrun, hfn, htm, hpa, has, hbo, hst, hpe, hl1, hle, hB1, hlD, hDn, hDs⟩ := enter_ok (P := C.P) hI.x fn a.tmps ps assign body
  have hw0 : G.w0.heap.size ≤ w.heap.size := hI.frm.size
  have hlW : l < W1.heap.size := (Array.getElem?_eq_some_iff.1 hl1).1
  have gk : ∀ X' : Nat → Prop, (∀ b, X' b → G.X b ∨ w.heap.size ≤ b) → GOk (Imm G.φ0 X' G.w0) G.w0 := fun X' hX => G.gok.mono fun b hb => ⟨⟨hb.1, hb.2.1, fun hx => by
    rcases hX b hx with h | h
    · exact hb.2.2 h
    · have := hb.1
      omega⟩, rfl⟩
  let G1 : Gl := ⟨fun b => G.X b ∨ b = l ∨ b ∈ Ds, G.φ0, G.w0, gk _ (fun b h => by
    rcases h with h | h | h
    · exact .inl h
    · exact .inr (by omega)
    · exact .inr (hDs b h).1), Ds.map markD ++ G.ds, W1, G.rd, fun l' hl' => by
      obtain ⟨h1, r, h2⟩ := G.hrd l' hl'
      exact ⟨.inl h1, r, (hB1.block l' (hI.x.lt l' h1)).trans ((hI.x.2.2 l' h1).trans h2)⟩⟩
  let a1 : Act := { a with defers := Ds.map markD ++ a.defers }
  have hX1lt : ∀ b, b < w.heap.size → G1.X b → G.X b := fun b hb h => by
    rcases h with h | h | h
    · exact h
    · omega
    · have := (hDs b h).1
      omega
  have hI1 : Inv C G1 s φ a1 W1 := by
    refine hI.swap rfl rfl rfl (by show Ds.map markD ++ a.defers = Ds.map markD ++ G.ds; rw [hI.defers]) ⟨hB1.os, hB1.tape, hB1.output⟩ hB1.size (fun b hb _ => hB1.block b hb) hX1lt (fun b _ h hx => h (.inl hx)) ⟨fun b h => ?_, Nat.le_refl _, fun _ _ => rfl⟩
    show b < W1.heap.size
    rcases h with h | h | h
    · exact Nat.lt_of_lt_of_le (hI.x.lt b h) hB1.size
    · rw [h]; exact hlW
    · exact (Array.getElem?_eq_some_iff.1 (hDs b h).2).1
  -- the loop is left
  have leave : ∀ {s' : St} {φ' : Phi} {B0 : World} (o : Obj) {e : Exit}, K e s' → Inv C G1 s' φ' a1 B0 → ∃ s' φ' G', GExt G G' ∧ K e s' ∧ Inv C G' s' φ' a1 (B0.putObj l o) := fun {s'} {φ'} {B0} o {e} hK hI' => by
    have hlB : B0.heap[l]? = some (.loop r0) := (hI'.x.2.2 l (.inr (.inl rfl))).trans hl1
    have hlB' : l < B0.heap.size := (Array.getElem?_eq_some_iff.1 hlB).1
    have hold : ∀ b, G1.X b → b ≠ l → (B0.putObj l o).heap[b]? = W1.heap[b]? := fun b hb hne => (World.putObj_heap_other hne).trans (hI'.x.2.2 b hb)
    have hnl : ∀ b, G.X b → b ≠ l := fun b hb e => by
      have := hI.x.lt b hb
      omega
    have holdG : ∀ b, G.X b → (B0.putObj l o).heap[b]? = G.w1.heap[b]? := fun b hb => (hold b (.inl hb) (hnl b hb)).trans ((hB1.block b (hI.x.lt b hb)).trans (hI.x.2.2 b hb))
    have hsz : W1.heap.size ≤ (B0.putObj l o).heap.size := by rw [World.putObj_size]; exact hI'.x.2.1
    let Gf : Gl := ⟨fun b => G.X b ∨ b ∈ Ds, G.φ0, G.w0, gk _ (fun b h => by
      rcases h with h | h
      · exact .inl h
      · exact .inr (hDs b h).1), Ds.map markD ++ G.ds, B0.putObj l o, G.rd, fun l' hl' => by
        obtain ⟨h1, r, h2⟩ := G.hrd l' hl'
        exact ⟨.inl h1, r, (holdG l' h1).trans h2⟩⟩
    refine ⟨s', φ', Gf, ⟨rfl, rfl, rfl, ⟨Ds, rfl, fun b => Iff.rfl, hDn, fun D hD => ⟨Nat.le_trans hI.x.2.1 (hDs D hD).1, ?_⟩⟩, Nat.le_trans hI.x.2.1 (Nat.le_trans hB1.size hsz), holdG⟩, hK, ?_⟩
    · exact (hold D (.inr (.inr hD)) (fun e => hlD (by rw [← e]; exact hD))).trans (hDs D hD).2
    · refine hI'.swap rfl rfl rfl hI'.defers ⟨rfl, rfl, rfl⟩ (by rw [World.putObj_size]; exact Nat.le_refl _) (fun b _ hb => World.putObj_heap_other (fun e => hb (.inr (.inl e)))) (fun b _ h => ?_) (fun b hb h hx => ?_) ⟨fun b h => ?_, Nat.le_refl _, fun _ _ => rfl⟩
      · rcases h with h | h
        · exact .inl h
        · exact .inr (.inr h)
      · rcases hx with hx | hx | hx
        · exact h (.inl hx)
        · have hb : b < G.w0.heap.size := hb
          omega
        · exact h (.inr hx)
      · show b < (B0.putObj l o).heap.size
        refine Nat.lt_of_lt_of_le ?_ hsz
        rcases h with h | h
        · exact Nat.lt_of_lt_of_le (hI.x.lt b h) hB1.size
        · exact (Array.getElem?_eq_some_iff.1 (hDs b h).2).1
  -- what is ranged over
  obtain ⟨caps, hrd, hH0, hY0⟩ := hcap 0 s h0
  obtain ⟨vs, hgv, _⟩ := clo_inv (rdA_ok hI.gok hI.tm0 (fun p hp => by simp at hp) _ _ hrd)
  have hev1 : a1.eval g = a.eval g := by cases g <;> rfl
  obtain ⟨⟨gn, hf1, hf2, hf3⟩, hit⟩ := it
  have hcf : ∀ (args : Array Value) (w : World), (callFunc gf args).run C.P w = .ok (.enter gf args) w := fun args w => by
    simp only [callFunc, Sem.run_bind, run_program, Result.andThen_ok, hf1, hf2, hf3, Bool.false_eq_true, if_false, Sem.run_pure]
  refine ⟨l, Ds.map markD, W1, { target := .fn (.func gf) vs, args := #[.func (.yield l) #[] #[]] }, W1, gf, #[.func (.yield l) #[] #[]] ++ vs, W1, hrun, ?_, fun _ _ => trivial, ?_, fun h => (by cases h), ?_⟩
  · simp only [resolve, hgv]
    simp [go_sem]
  · simp [invoke, go_sem, hcf]
  · refine callsIn_fw (callsIn_wide.1 ((hit 0 l vs.toList (fun k A => ∃ sk φk, I k sk ∧ Inv C G1 sk φk a1 A)
      (fun k A X φv => ViewOk Hc capsY vs.toList A X φv ∧ ∃ sk φk, I k sk ∧ Inv C G1 sk φk a1 A ∧ ∀ b, Imm φv X A b → Imm φk G1.X A b)
      (fun B => ∃ ex jc s' φ' B0, jumpC ex = some jc ∧ K ex s' ∧ Inv C G1 s' φ' a1 B0 ∧ B = B0.putObj l (.loop { r0 with state := .done, pending := some jc })) W1 ?_ (fun _ _ _ _ h => h.1) ?_ ?_ ⟨s, φ, h0, hI1⟩).mono ?_))
    · rintro k A ⟨sk, φk, hk, hIk⟩
      obtain ⟨ck, hrk, hHk, hYk⟩ := hcap k sk hk
      obtain ⟨X', φc, hokc, hX', hHin, hys, hgk, hGX, im, mi, _⟩ := callO_core hIk hHk hYk hdC.1 hdC.2
      obtain ⟨vs', hgv', hrel⟩ := clo_inv (rdA_ok hIk.gok hIk.tm0 (fun p hp => by simp at hp) _ _ hrk)
      rw [hev1, hgv] at hgv'
      cases hgv'
      exact ⟨X', φc, ⟨hokc, hX', hHin, hys hrel, hgk⟩, sk, φk, hk, hIk, mi⟩
    · rintro k A B ⟨sk, φk, hk, hIk⟩ hAB
      exact ⟨sk, φk, hk, hIk.grow hAB⟩
    · rintro k A X φv us x _ ⟨_, sk, φk, hk, hIk, him⟩ hx hus
      have hxm := hxs x (List.mem_of_getElem? hx)
      exact round_run hIk (.inr (.inl rfl)) ((hIk.x.2.2 l (.inr (.inl rfl))).trans hl1) htm hpa has hbo hst hpe (distinct_nodup hps.1) hps.2 hxm.1 (round k sk x hk hx) (hus.free him hxm.2) hxm.2
    · rintro e W' ⟨⟨v, rfl⟩, ⟨sk, φk, hk, hIk⟩ | ⟨ex, jc, s', φ', B0, hj, hK, hIB, rfl⟩⟩
      · have hlW' : W'.heap[l]? = some (.loop r0) := (hIk.x.2.2 l (.inr (.inl rfl))).trans hl1
        refine ⟨_, _, run_endLoop hlW' (by rw [hst]; simp), ?_⟩
        rw [hpe]
        exact leave _ (hend sk hk) hIk
      · have hlB : B0.heap[l]? = some (.loop r0) := (hIB.x.2.2 l (.inr (.inl rfl))).trans hl1
        have hlW' : (B0.putObj l (.loop { r0 with state := .done, pending := some jc })).heap[l]? = some (.loop { r0 with state := .done, pending := some jc }) := World.putObj_heap_same (Array.getElem?_eq_some_iff.1 hlB).1
        refine ⟨_, _, run_endLoop (r := { r0 with state := .done, pending := some jc }) hlW' (by simp), ?_⟩
        rw [putObj_twice]
        dsimp only
        cases ex with
        | exit id => cases hj; exact wpIn_exit (leave _ hK hIB)
        | goto t => cases hj; exact wpIn_goto (leave _ hK hIB)
        | ret => cases hj; exact wpIn_ret (leave _ hK hIB)
        | normal => cases hj
        | panic c => cases hj
        | outgrown => cases hj
end Go.Ab
