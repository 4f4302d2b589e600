/- A region that draws its order, walked once: operations that only yield a value are taken as soon as they may come up; all others come up one by one, each when nothing else may. Whatever is made between is new memory. -/
import Derived.Test.YthpogmkhfgkgoaaBase
namespace Go.Proofs.Ythpogmkhfgkgoaa
open Go.RowKit

/-- A world behind W, from which nothing that was in W has turned. -/
structure EW (W : World) where
  w : World
  ext : Ext W w
instance (W : World) : Nonempty (EW W) := ⟨⟨W, Ext.refl W⟩⟩
theorem EW.cell {W : World} (s : EW W) {p : Addr} {v : Value} (h : W.cell? p = some v) : s.w.cell? p = some v := s.ext.cell_some h

section
variable {P : Program} {ops : Array Oper} {Q : Exit → Act → World → Prop} {md : Region.Mode}

theorem yields_later {W W' : World} {o : Oper} {v : Value} {a : Act} (h : YieldsIf P ops (Ext W) o v a) (hw : Ext W W') : YieldsIf P ops (Ext W') o v a :=
  h.imp (fun ⟨h1, h2⟩ => ⟨h1, fun w hx => h2 w (hw.trans hx)⟩) id

/-- i waits for k, by its own list. -/
def waitsFor (md : Region.Mode) (ops : Array Oper) (i k : Nat) : Bool :=
  match ops[i]? with
  | some o => o.after.any fun e => e.on == k && Region.binds md e
  | none => true
/-- Each other operation waits for this one, or this one for it. -/
def barrier (md : Region.Mode) (ops : Array Oper) (i : Nat) : Bool :=
  (List.range ops.size).all fun k => k == i || waitsFor md ops k i || waitsFor md ops i k
theorem not_waits {i j : Nat} {listed : Array Bool} (hi : i ∈ Region.ready md ops listed) (hj : j ∈ Region.ready md ops listed) : waitsFor md ops i j = false := by
  obtain ⟨_, oi, hoi, hall⟩ := mem_ready.1 hi
  have hun : listed.getD j true = false := (mem_ready.1 hj).1
  unfold waitsFor
  rw [hoi, Bool.eq_false_iff]
  intro h
  simp only [Array.any_eq_true'] at h
  obtain ⟨e, he, h⟩ := h
  simp only [Bool.and_eq_true, beq_iff_eq] at h
  have h1 := hall e he h.2
  rw [h.1] at h1
  by_cases hlt : j < listed.size
  · simp [hlt] at hun h1
    rw [hun] at h1
    cases h1
  · simp [Array.getElem?_eq_none (Nat.le_of_not_lt hlt)] at h1
theorem ready_lt {i : Nat} {listed : Array Bool} (hi : i ∈ Region.ready md ops listed) : i < ops.size := by
  obtain ⟨_, oi, hoi, _⟩ := mem_ready.1 hi
  exact (Array.getElem?_eq_some_iff.1 hoi).1
theorem barrier_alone {i j : Nat} {listed : Array Bool} (hi : i ∈ Region.ready md ops listed) (hj : j ∈ Region.ready md ops listed) (hne : i ≠ j) : barrier md ops j = false := by
  rw [Bool.eq_false_iff]
  intro h
  have := (List.all_eq_true.1 h) i (List.mem_range.2 (ready_lt hi))
  rw [not_waits hi hj, not_waits hj hi] at this
  simp [hne] at this

/-- Whatever order is picked from here on; each operation leaves what was there, or is a barrier. -/
def wpAnyE (P : Program) (md : Region.Mode) (ops : Array Oper) (Q : Exit → Act → World → Prop) : Nat → Array Bool → Act → World → Prop
  | 0, listed, a, w => Region.ready md ops listed = [] ∧ Q .normal a w
  | fuel + 1, listed, a, w =>
    (Region.ready md ops listed = [] → Q .normal a w) ∧
    ∀ i ∈ Region.ready md ops listed, wpOp P ops Q i (fun a' w' => (barrier md ops i = true ∨ Ext w w') ∧ wpAnyE P md ops Q fuel (listed.setIfInBounds i true) a' w') a w
theorem wpAny_of_E : ∀ (fuel : Nat) (listed : Array Bool) (a : Act) (w : World), wpAnyE P md ops Q fuel listed a w → wpAny P md ops Q fuel listed a w
  | 0, _, _, _, h => h
  | fuel + 1, _, _, _, h => ⟨h.1, fun i hi => wpOp_mono (fun a' w' h' => wpAny_of_E fuel _ a' w' h'.2) (h.2 i hi)⟩

theorem free_later {i : Nat} {oi : Oper} {listed : Array Bool} (hi : ops[i]? = some oi) (h : Region.free md ops listed i = true) (j : Nat) : Region.free md ops (listed.setIfInBounds j true) i = true := by
  simp only [Region.free, hi, List.all_eq_true, List.mem_range, Bool.or_eq_true] at h ⊢
  intro k hk
  rcases h k hk with (h1 | h1) | h1
  · exact .inl (.inl h1)
  · refine .inl (.inr ?_)
    by_cases e : j = k
    · subst e
      by_cases hlt : j < listed.size
      · simp [hlt]
      · simp
    · rw [getD_set_ne true e]
      exact h1
  · exact .inr h1
/-- One that may come up now and only yields may be taken first, if all that do not wait for it are apart from it. -/
theorem wpAnyE_first {i : Nat} {oi : Oper} {v : Value} (hi : ops[i]? = some oi) (hsel : Region.noSelect ops = true) (hQ : ∀ c a w, ¬ Q (.panic c) a w) :
    ∀ (fuel : Nat) (listed : Array Bool) (a : Act) (w : World), Region.free md ops listed i = true → i ∈ Region.ready md ops listed → YieldsIf P ops (Ext w) oi v a →
      wpAnyE P md ops Q fuel (listed.setIfInBounds i true) (a.put oi.dst v) w → wpAnyE P md ops Q (fuel + 1) listed a w
  | fuel, listed, a, w, hf, hr, hy, H => by
    refine ⟨fun h => absurd hr (by rw [h]; simp), fun j hj => ?_⟩
    by_cases hji : j = i
    · subst hji
      exact hy.wpOp hi (Ext.refl w) ⟨.inr (Ext.refl w), H⟩
    cases fuel with
    | zero =>
      have := ready_mono hj hji
      rw [H.1] at this
      simp at this
    | succ fuel =>
      obtain ⟨hjun, oj, hoj, hall⟩ := mem_ready.1 hj
      have hun : listed.getD i true = false := (mem_ready.1 hr).1
      have hnot : ∀ e ∈ oj.after, Region.binds md e = true → e.on ≠ i := by
        rintro e he hb rfl
        have h1 := hall e he hb
        by_cases hlt : e.on < listed.size
        · simp [hlt] at hun h1
          rw [hun] at h1
          cases h1
        · simp [Array.getElem?_eq_none (Nat.le_of_not_lt hlt)] at h1
      have h2 := wpOp_putIf hoj (Region.free_spec hi hf j oj hoj hji hjun hnot) (fun cs b => Region.noSelect_spec hsel i oi cs b hi) (fun cs b => Region.noSelect_spec hsel j oj cs b hoj)
        (fun c a w hq => absurd hq (hQ _ _ _)) hy (H.2 j (ready_mono hj hji))
      have hb : ∀ {x y : World}, (barrier md ops j = true ∨ Ext x y) → Ext x y := fun h => h.resolve_left (by rw [barrier_alone hr hj (Ne.symm hji)]; simp)
      refine wpOp_mono (fun a' w' h3 => ⟨.inr (hb h3.2.1), wpAnyE_first hi hsel hQ fuel _ a' w' ?_ (ready_mono hr (Ne.symm hji)) (yields_later h3.1 (hb h3.2.1)) ?_⟩) h2
      · exact free_later hi hf j
      · rw [Array.setIfInBounds_comm _ _ hji]
        exact h3.2.2

/-- Operations that do no more than yield a value, if they end. -/
def calmOp : Op → Bool
  | .move _ | .assign _ | .pick .. | .load .. | .binOp .. | .unOp .. | .convert .. | .slice .. | .fieldAddr .. | .field .. | .indexAddr .. | .index .. | .extract .. | .makeInterface .. | .build .. => true
  | .call { callee := .builtin .len, .. } | .call { callee := .builtin .cap, .. } | .call { callee := .builtin .min, .. } | .call { callee := .builtin .max, .. } => true
  | _ => false

/-- The plan: the operations in an order, each with whether it only yields; behind them E. -/
def wpChain (P : Program) (ops : Array Oper) (Q : Exit → Act → World → Prop) (E : Act → World → Prop) : List (Nat × Bool) → Act → World → Prop
  | [], a, w => E a w
  | (i, true) :: r, a, w => ∃ o v, ops[i]? = some o ∧ YieldsIf P ops (Ext w) o v a ∧ wpChain P ops Q E r (a.put o.dst v) w
  | (i, false) :: r, a, w => wpOp P ops Q i (fun a' w' => (barrier .any ops i = true ∨ Ext w w') ∧ wpChain P ops Q E r a' w') a w
def openB (md : Region.Mode) (ops : Array Oper) : List (Nat × Bool) → Array Bool → Bool
  | [], _ => true
  | (i, true) :: r, l => (Region.ready md ops l).contains i && Region.free md ops l i && openB md ops r (l.setIfInBounds i true)
  | (i, false) :: r, l => Region.ready md ops l == [i] && openB md ops r (l.setIfInBounds i true)
def afterAll (order : List (Nat × Bool)) (l : Array Bool) : Array Bool := order.foldl (fun l x => l.setIfInBounds x.1 true) l

theorem wpAnyE_of_chain (hs : Region.noSelect ops = true) (hQ : ∀ c a w, ¬ Q (.panic c) a w) (n : Nat) : ∀ (order : List (Nat × Bool)) (listed : Array Bool) (a : Act) (w : World),
    openB .any ops order listed = true → wpChain P ops Q (wpAnyE P .any ops Q n (afterAll order listed)) order a w → wpAnyE P .any ops Q (n + order.length) listed a w
  | [], listed, a, w, _, h => h
  | (i, true) :: r, listed, a, w, hB, h => by
    obtain ⟨o, v, ho, hy, h⟩ := h
    simp only [openB, Bool.and_eq_true] at hB
    exact wpAnyE_first ho hs hQ (n + r.length) listed a w hB.1.2 (by simpa using hB.1.1) hy (wpAnyE_of_chain hs hQ n r _ _ _ hB.2 h)
  | (i, false) :: r, listed, a, w, hB, h => by
    simp only [openB, Bool.and_eq_true, beq_iff_eq] at hB
    refine ⟨(fun h0 => by rw [hB.1] at h0; cases h0), fun j hj => ?_⟩
    rw [hB.1, List.mem_singleton] at hj
    subst hj
    exact wpOp_mono (fun a' w' h3 => ⟨h3.1, wpAnyE_of_chain hs hQ n r _ _ _ hB.2 h3.2⟩) h
/-- All have come up. -/
theorem wpAnyE_done {n : Nat} {listed : Array Bool} {a : Act} {w : World} (hr : (Region.ready md ops listed).isEmpty = true) (h : Q .normal a w) : wpAnyE P md ops Q n listed a w := by
  have hr' : Region.ready md ops listed = [] := by simpa using hr
  cases n with
  | zero => exact ⟨hr', h⟩
  | succ n => exact ⟨fun _ => h, by rw [hr']; simp⟩
theorem wpChain_mono {E E' : Act → World → Prop} (h : ∀ a w, E a w → E' a w) : ∀ (order : List (Nat × Bool)) (a : Act) (w : World), wpChain P ops Q E order a w → wpChain P ops Q E' order a w
  | [], _, _, hh => h _ _ hh
  | (_, true) :: r, _, _, ⟨o, v, ho, hy, hh⟩ => ⟨o, v, ho, hy, wpChain_mono h r _ _ hh⟩
  | (_, false) :: r, _, _, hh => wpOp_mono (fun _ _ h3 => ⟨h3.1, wpChain_mono h r _ _ h3.2⟩) hh

/-- What a whole plan has to meet; from some point on. -/
def planB (ops : Array Oper) (order : List (Nat × Bool)) (l : Array Bool) : Bool :=
  Region.noSelect ops && openB .any ops order l && (Region.ready .any ops (afterAll order l)).isEmpty
/-- **A REGION BY A PLAN.** -/
theorem wp_region_chain {id : Nat} {a : Act} {w : World} {l : List Oper} (order : List (Nat × Bool)) (hm : P.follows .mixedOrders = true) (hn : (order.length == l.toArray.size && planB l.toArray order (Array.replicate l.toArray.size false)) = true)
    (h : wpChain P l.toArray (NoPanic Q) (NoPanic Q .normal) order a w.drew) : (Code.region id l.toArray true).wp P Q a w := by
  generalize l.toArray = ops at *
  simp only [planB, Bool.and_eq_true, beq_iff_eq] at hn
  obtain ⟨h1, ⟨h2, h3⟩, h4⟩ := hn
  refine wp_region_noPanic (wp_region_any hm (wpAny_of_E _ _ _ _ ?_))
  have := wpAnyE_of_chain h2 (fun c a w hq => hq) 0 order _ a w.drew h3 (wpChain_mono (fun a w hq => wpAnyE_done (n := 0) h4 hq) order a w.drew h)
  rw [Nat.zero_add, h1] at this
  exact this
/-- A plan as far as it goes alone; rest operations are left. -/
theorem wp_region_open {id : Nat} {a : Act} {w : World} {l : List Oper} (order : List (Nat × Bool)) (rest : Nat) (hm : P.follows .mixedOrders = true)
    (hn : (rest + order.length == l.toArray.size && Region.noSelect l.toArray && openB .any l.toArray order (Array.replicate l.toArray.size false)) = true)
    (h : wpChain P l.toArray (NoPanic Q) (wpAnyE P .any l.toArray (NoPanic Q) rest (afterAll order (Array.replicate l.toArray.size false))) order a w.drew) : (Code.region id l.toArray true).wp P Q a w := by
  generalize l.toArray = ops at *
  simp only [Bool.and_eq_true, beq_iff_eq] at hn
  refine wp_region_noPanic (wp_region_any hm (wpAny_of_E _ _ _ _ ?_))
  have := wpAnyE_of_chain hn.1.2 (fun c a w hq => hq) rest order _ a w.drew hn.2 h
  rw [hn.1.1] at this
  exact this

/-! The moves of such a walk. -/
variable {l : List Oper}
theorem at_list {i : Nat} {o : Oper} (h : l[i]? = some o) : l.toArray[i]? = some o := by simpa using h
theorem chain_nil {E : Act → World → Prop} {a : Act} {w : World} (h : E a w) : wpChain P l.toArray Q E [] a w := h
theorem chain_end {Q' : Exit → Act → World → Prop} {a : Act} {w : World} (h : Q .normal a w) : wpChain P l.toArray Q' (NoPanic Q .normal) [] a w := h
/-- An operation whose guard says no. -/
theorem chain_skip {i : Nat} {q : Bool} {r : List (Nat × Bool)} {E : Act → World → Prop} {o : Oper} {a : Act} {w : World} (ho : l[i]? = some o) (hw : Region.wanted o (yielded l.toArray a.tmps) = false)
    (h : wpChain P l.toArray Q E r (a.put o.dst undef) w) : wpChain P l.toArray Q E ((i, q) :: r) a w := by
  cases q with
  | true => exact ⟨o, undef, at_list ho, .inr ⟨hw, rfl⟩, h⟩
  | false =>
    show wpOp P l.toArray Q i _ a w
    unfold wpOp
    simp only [at_list ho, hw, Bool.false_eq_true, if_false]
    exact ⟨.inr (Ext.refl w), h⟩
/-- One that yields v. -/
theorem chain_yield {i : Nat} {r : List (Nat × Bool)} {E : Act → World → Prop} {o : Oper} {a : Act} {w : World} (v : Value) (ho : l[i]? = some o) (hw : Region.wanted o (yielded l.toArray a.tmps) = true)
    (hv : ∀ x, Ext w x → (execOp a.eval o).run P x = .ok (.value v) x) (h : wpChain P l.toArray Q E r (a.put o.dst v) w) : wpChain P l.toArray Q E ((i, true) :: r) a w :=
  ⟨o, v, at_list ho, .inl ⟨hw, hv⟩, h⟩

theorem run_value {s : Sem Value} {w w' : World} {n : Next} (h : (do let x ← s; pure (Next.value x) : Sem Next).run P w = .ok n w') : ∃ v, n = .value v := by
  rw [Sem.run_bind] at h
  revert h
  generalize s.run P w = r
  intro h
  cases r with
  | ok x w1 =>
    simp only [Result.andThen_ok, Sem.run_pure, Result.ok.injEq] at h
    exact ⟨_, h.1.symm⟩
  | halt x w1 => simp [Result.andThen] at h
theorem calm_run {o : Oper} (hc : calmOp o.op = true) (ρ : Operand → Value) (w w' : World) (n : Next) (h : (execOp ρ o).run P w = .ok n w') : ∃ v, n = .value v := by
  obtain ⟨dst, op, type, pos, after, guard⟩ := o
  cases op
  case move x => simp [execOp] at h; exact ⟨_, h.1.symm⟩
  case assign x => simp [execOp] at h; exact ⟨_, h.1.symm⟩
  case pick c a b => exact run_value (s := do pure (if ← asBool (ρ c) then ρ a else ρ b)) (by simpa [execOp] using h)
  case load t a => exact run_value h
  case binOp op t x y ty => exact run_value h
  case unOp op t x => exact run_value h
  case convert s d x => exact run_value h
  case slice t x lo hi mx => exact run_value h
  case fieldAddr s x f => exact run_value h
  case field t x f => exact run_value h
  case indexAddr t x i => exact run_value h
  case index t x i => exact run_value h
  case extract t i => exact run_value h
  case makeInterface t x => exact run_value h
  case build t ps => exact run_value h
  case call c =>
    obtain ⟨callee, args, argTypes⟩ := c
    cases callee
    case builtin b =>
      cases b <;> simp [calmOp] at hc <;>
      · simp only [execOp, resolve, invoke, builtin, Sem.run_bind, Sem.run_pure, Result.andThen_ok] at h
        exact run_value (by rw [Sem.run_bind]; exact h)
    all_goals simp [calmOp] at hc
  all_goals simp [calmOp] at hc

/-- One that yields, by the quiet walk's step. -/
theorem chain_quiet {i : Nat} {r : List (Nat × Bool)} {E : Act → World → Prop} {o : Oper} {a : Act} {w : World} (ho : l[i]? = some o) (hc : calmOp o.op = true) (hw : Region.wanted o (yielded l.toArray a.tmps) = true)
    (h : ∀ K : Act → Prop, (∀ a, wpChain P l.toArray Q E r a w → K a) → o.quiet P a (fun x => ∃ s : EW w, x = s.w) K) : wpChain P l.toArray Q E ((i, true) :: r) a w := by
  obtain ⟨v, h1, h2⟩ := h _ (fun _ h => h)
  refine chain_yield v ho hw (fun x hx => ?_) h2
  have h3 := h1 x ⟨⟨x, hx⟩, rfl⟩
  unfold Oper.quietAt at h3
  cases hr : (execOp a.eval o).run P x with
  | ok n w' =>
    obtain ⟨u, rfl⟩ := calm_run hc _ _ _ _ hr
    rw [hr] at h3
    obtain ⟨rfl, rfl⟩ := h3
    rfl
  | halt y w' =>
    rw [hr] at h3
    exact h3.elim
/-- One that does more: it comes up alone. -/
theorem chain_do {i : Nat} {r : List (Nat × Bool)} {E : Act → World → Prop} {o : Oper} {a : Act} {w : World} (ho : l[i]? = some o) (hw : Region.wanted o (yielded l.toArray a.tmps) = true)
    (h : ∀ K : Act → World → Prop, (∀ a x, Ext w x → wpChain P l.toArray Q E r a x → K a x) → o.wp P a w K Q) : wpChain P l.toArray Q E ((i, false) :: r) a w := by
  show wpOp P l.toArray Q i _ a w
  unfold wpOp
  simp only [at_list ho, hw, if_true]
  exact .inl (h _ (fun a x hx hh => ⟨.inr hx, hh⟩))
/-- One that all others wait for, or that waits for them: it may write where it will. -/
theorem chain_bar {i : Nat} {r : List (Nat × Bool)} {E : Act → World → Prop} {o : Oper} {a : Act} {w : World} (hb : barrier .any l.toArray i = true) (ho : l[i]? = some o) (hw : Region.wanted o (yielded l.toArray a.tmps) = true)
    (h : ∀ K : Act → World → Prop, (∀ a x, wpChain P l.toArray Q E r a x → K a x) → o.wp P a w K Q) : wpChain P l.toArray Q E ((i, false) :: r) a w := by
  show wpOp P l.toArray Q i _ a w
  unfold wpOp
  simp only [at_list ho, hw, if_true]
  exact .inl (h _ (fun a x hh => ⟨.inl hb, hh⟩))
/-- A whole array or struct is loaded. -/
theorem chain_row {i : Nat} {r : List (Nat × Bool)} {E : Act → World → Prop} {o : Oper} {a : Act} {w : World} (ho : l[i]? = some o) (hw : Region.wanted o (yielded l.toArray a.tmps) = true) (ty : TypeId) (x : Operand) (hop : o.op = .load ty x)
    (g : Nat) (hx : a.eval x = .pointer (some ⟨g, 0, none⟩)) (t : TypeId) (cs : Array Value) (fr : Nat × Nat) (d : TypeDesc) (hg : w.heap[g]? = some (.cells cs t fr))
    (hu : P.underlying ty = some d) (hd : (match d with | .struct _ | .array _ _ => true | _ => false) = true) (hi : (P.info? ty).map (·.size) = some cs.size)
    (h : wpChain P l.toArray Q E r (a.put o.dst (.agg cs)) w) : wpChain P l.toArray Q E ((i, true) :: r) a w := by
  refine chain_yield (.agg cs) ho hw (fun w' hx' => ?_) h
  unfold execOp
  simp only [hop, hx, Instr.loadAt, Instr.sureAddr, Sem.run_bind, Sem.run_pure, Result.andThen_ok, run_loadVar_row w' g t ty cs fr d (hx'.heap hg) hu hd hi]
/-- Two may come up, and both do more than yield: each is asked. -/
theorem any_two {i j n : Nat} {listed : Array Bool} {oi oj : Oper} {a : Act} {w : World} (hr : (Region.ready .any l.toArray listed == [i, j]) = true) (hi : l[i]? = some oi) (hj : l[j]? = some oj)
    (hwi : Region.wanted oi (yielded l.toArray a.tmps) = true) (hwj : Region.wanted oj (yielded l.toArray a.tmps) = true)
    (h1 : ∀ K : Act → World → Prop, (∀ a x, Ext w x → wpAnyE P .any l.toArray Q n (listed.setIfInBounds i true) a x → K a x) → oi.wp P a w K Q)
    (h2 : ∀ K : Act → World → Prop, (∀ a x, Ext w x → wpAnyE P .any l.toArray Q n (listed.setIfInBounds j true) a x → K a x) → oj.wp P a w K Q) : wpAnyE P .any l.toArray Q (n + 1) listed a w := by
  have hr' : Region.ready .any l.toArray listed = [i, j] := by simpa using hr
  refine ⟨(fun h0 => by rw [hr'] at h0; cases h0), fun k hk => ?_⟩
  rw [hr'] at hk
  simp only [List.mem_cons, List.not_mem_nil, or_false] at hk
  unfold wpOp
  rcases hk with rfl | rfl
  · simp only [at_list hi, hwi, if_true]
    exact .inl (h1 _ (fun a x hx hh => ⟨.inr hx, hh⟩))
  · simp only [at_list hj, hwj, if_true]
    exact .inl (h2 _ (fun a x hx hh => ⟨.inr hx, hh⟩))
/-- From there on by a plan. -/
theorem any_chain {n : Nat} {listed : Array Bool} {a : Act} {w : World} (order : List (Nat × Bool)) (hn : (order.length == n && planB l.toArray order listed) = true)
    (h : wpChain P l.toArray (NoPanic Q) (NoPanic Q .normal) order a w) : wpAnyE P .any l.toArray (NoPanic Q) n listed a w := by
  generalize l.toArray = ops at *
  simp only [planB, Bool.and_eq_true, beq_iff_eq] at hn
  obtain ⟨h1, ⟨h2, h3⟩, h4⟩ := hn
  have := wpAnyE_of_chain h2 (fun c a w hq => hq) 0 order listed a w h3 (wpChain_mono (fun a w hq => wpAnyE_done (n := 0) h4 hq) order a w h)
  rw [Nat.zero_add, h1] at this
  exact this
end
attribute [go_sem] Ext.refl Ext.drew Ext.alloc
section
variable {P : Program} {ops : Array Oper} {Q : Exit → Act → World → Prop} {a : Act} {w : World} {rest : List Oper} {o : Oper}
/-- An operation of a plain region whose guard, if it has one, says yes. -/
theorem wpList_want (hw : Region.wanted o (yielded ops a.tmps) = true) (h : ∀ K : Act → World → Prop, (∀ a w, wpList P ops Q rest a w → K a w) → o.wp P a w K Q) : wpList P ops Q (o :: rest) a w :=
  wpList_step fun K hK => by rw [if_pos hw]; exact h K hK
/-- A whole array or struct is loaded, in a plain region. -/
theorem wpList_row (hw : Region.wanted o (yielded ops a.tmps) = true) (ty : TypeId) (x : Operand) (hop : o.op = .load ty x)
    (g : Nat) (hx : a.eval x = .pointer (some ⟨g, 0, none⟩)) (t : TypeId) (cs : Array Value) (fr : Nat × Nat) (d : TypeDesc) (hg : w.heap[g]? = some (.cells cs t fr))
    (hu : P.underlying ty = some d) (hd : (match d with | .struct _ | .array _ _ => true | _ => false) = true) (hi : (P.info? ty).map (·.size) = some cs.size)
    (h : wpList P ops Q rest (a.put o.dst (.agg cs)) w) : wpList P ops Q (o :: rest) a w :=
  wpList_want hw fun _ hK => wp_load_row ty x hop g hx t cs fr d hg hu hd hi (hK _ _ h)
end
end Go.Proofs.Ythpogmkhfgkgoaa
