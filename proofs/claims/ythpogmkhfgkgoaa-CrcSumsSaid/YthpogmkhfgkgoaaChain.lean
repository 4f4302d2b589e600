/- A region that draws its order, walked once: operations that only yield a value are taken as soon as they may come up; all others come up one by one, each when nothing else may. Whatever is made between is new memory. -/
import Derived.Test.YthpogmkhfgkgoaaBase
namespace Go.Proofs.Ythpogmkhfgkgoaa
open Go.RowKit

/-- A world behind W, from which nothing that was in W has turned. -/
structure EW (W : World) where
  w : World
  ext : Ext W w
instance (W : World) : Nonempty (EW W) := ⟨⟨W, Ext.refl W⟩⟩
theorem EW.cell {W : World} (s : EW W) {p : Addr} {v : Value} (h : W.cell? p = some v) : s.w.cell? p = some v := s.ext.cell_some h

section
variable {P : Program} {ops : Array Oper} {Q : Exit → Act → World → Prop} {md : Region.Mode}

/-- Behind W, whatever has been made since, operation o leaves v in its temporary and does nothing else. -/
def YieldsE (P : Program) (ops : Array Oper) (W : World) (o : Oper) (v : Value) (a : Act) : Prop :=
  (Region.wanted o (yielded ops a.tmps) = true ∧ ∀ w, Ext W w → (execOp a.eval o).run P w = .ok (.value v) w) ∨
  (Region.wanted o (yielded ops a.tmps) = false ∧ v = undef)
theorem YieldsE.later {W W' : World} {o : Oper} {v : Value} {a : Act} (h : YieldsE P ops W o v a) (hw : Ext W W') : YieldsE P ops W' o v a :=
  h.imp (fun ⟨h1, h2⟩ => ⟨h1, fun w hx => h2 w (hw.trans hx)⟩) id
theorem YieldsE.of_same {W : World} {o : Oper} {v : Value} {a a' : Act} (hy : YieldsE P ops W o v a) (he : execOp a'.eval o = execOp a.eval o)
    (hw : Region.wanted o (yielded ops a'.tmps) = Region.wanted o (yielded ops a.tmps)) : YieldsE P ops W o v a' := by
  unfold YieldsE at *
  rw [he, hw]
  exact hy
theorem YieldsE.wpOp {W : World} {i : Nat} {o : Oper} {v : Value} {a : Act} (hi : ops[i]? = some o) (hy : YieldsE P ops W o v a)
    {K : Act → World → Prop} {w : World} (hW : Ext W w) (h : K (a.put o.dst v) w) : wpOp P ops Q i K a w := by
  unfold Go.wpOp
  simp only [hi]
  rcases hy with ⟨hw, hv⟩ | ⟨hw, rfl⟩
  · simp only [hw, if_true, Oper.wp, hv w hW, Oper.upon]
    exact .inl h
  · simp only [hw, Bool.false_eq_true, if_false]
    exact h

/-- An operation that is apart from one that yields: it makes no difference which comes first. -/
theorem wpOp_putE {W : World} {j : Nat} {oi oj : Oper} {v : Value} (hj : ops[j]? = some oj) (hap : oi.apart ops oj = true)
    (hsi : ∀ cs b, oi.op ≠ .select cs b) (hsj : ∀ cs b, oj.op ≠ .select cs b)
    (hQ : ∀ c a w, Q (.panic c) (a.put oi.dst v) w → Q (.panic c) a w) {K : Act → World → Prop} {a : Act} {w : World}
    (hy : YieldsE P ops W oi v a) (h : wpOp P ops Q j K (a.put oi.dst v) w) :
    wpOp P ops Q j (fun a' w' => YieldsE P ops W oi v a' ∧ K (a'.put oi.dst v) w') a w := by
  obtain ⟨h1, h2, h3⟩ := Oper.apart_spec hap
  have keep : ∀ (a : Act), YieldsE P ops W oi v a → ∀ u, YieldsE P ops W oi v (a.put oj.dst u) := fun a hy u =>
    hy.of_same (execOp_put oi hsi a oj.dst u h3) (wanted_put oi a oj.dst u h3)
  have keepD : ∀ d, YieldsE P ops W oi v { a with defers := d :: a.defers } := fun d => hy.of_same rfl rfl
  unfold wpOp at *
  simp only [hj] at *
  rw [wanted_put oj a oi.dst v h1] at h
  split
  · rename_i hw
    simp only [hw, if_true] at h
    rcases h with h | ⟨hasks, hlets⟩
    case inr => exact .inr ⟨by unfold Oper.asks at *; rw [execOp_put oj hsj a oi.dst v h1] at hasks; exact hasks, hlets⟩
    refine .inl ?_
    unfold Oper.wp at *
    rw [execOp_put oj hsj a oi.dst v h1] at h
    generalize (execOp a.eval oj).run P w = r at *
    cases r with
    | ok n w' =>
      cases n <;> simp only [Oper.upon] at h ⊢
      case value u => exact ⟨keep a hy u, by rw [← Act.put_comm a v u h2]; exact h⟩
      case skip => exact ⟨keep a hy _, by rw [← Act.put_comm a v undef h2]; exact h⟩
      case defer d =>
        refine ⟨keep _ (keepD d) _, ?_⟩
        rw [← Act.put_comm _ v undef h2, ← Act.put_defers]
        exact h
      case enter f args =>
        refine Calls.mono h fun e w'' he => ?_
        cases e with
        | returned u => exact ⟨keep a hy u, by rw [← Act.put_comm a v u h2]; exact he⟩
        | panicked c => exact hQ _ _ _ he
        | outgrown => exact he
      case row row args => exact Rows.mono h fun u w'' he => ⟨keep a hy u, by rw [← Act.put_comm a v u h2]; exact he⟩
    | halt x w' =>
      cases x <;> simp only [Oper.upon] at h ⊢
      case panic u => exact hQ _ _ _ h
  · rename_i hw
    simp only [hw] at h
    exact ⟨keep a hy _, by rw [← Act.put_comm a v undef h2]; exact h⟩

/-- Whatever order is picked from here on; each operation leaves what was there. -/
def wpAnyE (P : Program) (md : Region.Mode) (ops : Array Oper) (Q : Exit → Act → World → Prop) : Nat → Array Bool → Act → World → Prop
  | 0, listed, a, w => Region.ready md ops listed = [] ∧ Q .normal a w
  | fuel + 1, listed, a, w =>
    (Region.ready md ops listed = [] → Q .normal a w) ∧
    ∀ i ∈ Region.ready md ops listed, wpOp P ops Q i (fun a' w' => Ext w w' ∧ wpAnyE P md ops Q fuel (listed.setIfInBounds i true) a' w') a w
theorem wpAny_of_E : ∀ (fuel : Nat) (listed : Array Bool) (a : Act) (w : World), wpAnyE P md ops Q fuel listed a w → wpAny P md ops Q fuel listed a w
  | 0, _, _, _, h => h
  | fuel + 1, _, _, _, h => ⟨h.1, fun i hi => wpOp_mono (fun a' w' h' => wpAny_of_E fuel _ a' w' h'.2) (h.2 i hi)⟩

theorem wpAnyE_first {i : Nat} {oi : Oper} {v : Value} (hi : ops[i]? = some oi) (hsel : ∀ (j : Nat) (o : Oper) cs b, ops[j]? = some o → o.op ≠ .select cs b)
    (hQ : ∀ c a w, Q (.panic c) (a.put oi.dst v) w → Q (.panic c) a w) :
    ∀ (fuel : Nat) (listed : Array Bool) (a : Act) (w : World),
      (∀ j oj, ops[j]? = some oj → j ≠ i → listed.getD j true = false → (∀ e ∈ oj.after, Region.binds md e = true → e.on ≠ i) → oi.apart ops oj = true) →
      i ∈ Region.ready md ops listed → YieldsE P ops w oi v a →
      wpAnyE P md ops Q fuel (listed.setIfInBounds i true) (a.put oi.dst v) w → wpAnyE P md ops Q (fuel + 1) listed a w := by
  intro fuel
  induction fuel with
  | zero =>
    intro listed a w _ hr hy H
    refine ⟨fun h => (by rw [h] at hr; cases hr), fun j hj => ?_⟩
    by_cases hji : j = i
    · subst hji
      exact hy.wpOp hi (Ext.refl w) ⟨Ext.refl w, H⟩
    · have := ready_mono hj hji
      rw [H.1] at this
      cases this
  | succ fuel ih =>
    intro listed a w hfree hr hy H
    refine ⟨fun h => (by rw [h] at hr; cases hr), fun j hj => ?_⟩
    by_cases hji : j = i
    · subst hji
      exact hy.wpOp hi (Ext.refl w) ⟨Ext.refl w, H⟩
    · have h1 := H.2 j (ready_mono hj hji)
      obtain ⟨hjun, oj, hoj, hall⟩ := mem_ready.1 hj
      have hnot : ∀ e ∈ oj.after, Region.binds md e = true → e.on ≠ i := fun e he hb heq => by
        have h1 := hall e he hb
        have h0 := (mem_ready.1 hr).1
        rw [heq] at h1
        rcases Nat.lt_or_ge i listed.size with h' | h'
        · simp [h'] at h0 h1; rw [h0] at h1; cases h1
        · simp [Array.getElem?_eq_none h'] at h1
      have h2 := wpOp_putE hoj (hfree j oj hoj hji hjun hnot) (fun cs b => hsel i oi cs b hi) (fun cs b => hsel j oj cs b hoj) hQ hy h1
      have hfree' : ∀ k ok, ops[k]? = some ok → k ≠ i → (listed.setIfInBounds j true).getD k true = false →
          (∀ e ∈ ok.after, Region.binds md e = true → e.on ≠ i) → oi.apart ops ok = true := fun k ok hk hki hun hno => by
        refine hfree k ok hk hki ?_ hno
        by_cases hjk : j = k
        · subst hjk; exact hjun
        · rw [getD_set_ne true hjk] at hun; exact hun
      refine wpOp_mono (fun a' w' h3 => ⟨h3.2.1, ih (listed.setIfInBounds j true) a' w' hfree' (ready_mono hr (Ne.symm hji)) (h3.1.later h3.2.1) ?_⟩) h2
      rw [Array.setIfInBounds_comm _ _ hji]
      exact h3.2.2

/-- Operations that do no more than yield a value, if they end. -/
def calmOp : Op → Bool
  | .move _ | .assign _ | .pick .. | .load .. | .binOp .. | .unOp .. | .convert .. | .slice .. | .fieldAddr .. | .field .. | .indexAddr .. | .index .. | .extract .. | .makeInterface .. | .build .. => true
  | .call { callee := .builtin .len, .. } | .call { callee := .builtin .cap, .. } | .call { callee := .builtin .min, .. } | .call { callee := .builtin .max, .. } => true
  | _ => false

/-- The plan: the operations in an order, each with whether it only yields. -/
def wpChain (P : Program) (ops : Array Oper) (Q : Exit → Act → World → Prop) : List (Nat × Bool) → Act → World → Prop
  | [], a, w => Q .normal a w
  | (i, true) :: r, a, w => ∃ o v, ops[i]? = some o ∧ YieldsE P ops w o v a ∧ wpChain P ops Q r (a.put o.dst v) w
  | (i, false) :: r, a, w => wpOp P ops Q i (fun a' w' => Ext w w' ∧ wpChain P ops Q r a' w') a w
def chainB (md : Region.Mode) (ops : Array Oper) : List (Nat × Bool) → Array Bool → Bool
  | [], l => (Region.ready md ops l).isEmpty
  | (i, true) :: r, l => (Region.ready md ops l).contains i && Region.free md ops l i && chainB md ops r (l.setIfInBounds i true)
  | (i, false) :: r, l => Region.ready md ops l == [i] && chainB md ops r (l.setIfInBounds i true)

theorem wpAnyE_of_chain (hs : Region.noSelect ops = true) (hQ : ∀ c a w, ¬ Q (.panic c) a w) : ∀ (order : List (Nat × Bool)) (listed : Array Bool) (a : Act) (w : World),
    chainB md ops order listed = true → wpChain P ops Q order a w → wpAnyE P md ops Q order.length listed a w
  | [], listed, a, w, hB, h => by
    have : Region.ready md ops listed = [] := by simpa [chainB] using hB
    exact ⟨this, h⟩
  | (i, true) :: r, listed, a, w, hB, h => by
    obtain ⟨o, v, ho, hy, h⟩ := h
    simp only [chainB, Bool.and_eq_true] at hB
    exact wpAnyE_first ho (Region.noSelect_spec hs) (fun c a w hq => absurd hq (hQ _ _ _)) r.length listed a w (Region.free_spec ho hB.1.2) (by simpa using hB.1.1) hy
      (wpAnyE_of_chain hs hQ r _ _ _ hB.2 h)
  | (i, false) :: r, listed, a, w, hB, h => by
    simp only [chainB, Bool.and_eq_true, beq_iff_eq] at hB
    refine ⟨(fun h0 => by rw [hB.1] at h0; cases h0), fun j hj => ?_⟩
    rw [hB.1, List.mem_singleton] at hj
    subst hj
    exact wpOp_mono (fun a' w' h3 => ⟨h3.1, wpAnyE_of_chain hs hQ r _ _ _ hB.2 h3.2⟩) h

/-- **A REGION BY A PLAN.** -/
theorem wp_region_chain {id : Nat} {a : Act} {w : World} {l : List Oper} (order : List (Nat × Bool)) (hm : P.follows .mixedOrders = true) (hn : (order.length == l.toArray.size && Region.noSelect l.toArray && chainB .any l.toArray order (Array.replicate l.toArray.size false)) = true)
    (h : wpChain P l.toArray (NoPanic Q) order a w.drew) : (Code.region id l.toArray true).wp P Q a w := by
  generalize l.toArray = ops at *
  simp only [Bool.and_eq_true, beq_iff_eq] at hn
  refine wp_region_noPanic (wp_region_any hm (wpAny_of_E _ _ _ _ ?_))
  rw [← hn.1.1]
  refine wpAnyE_of_chain hn.1.2 (fun c a w hq => hq) order _ a _ ?_ h
  rw [hn.1.1]
  exact hn.2

/-! The moves of such a walk. -/
variable {l : List Oper}
theorem at_list {i : Nat} {o : Oper} (h : l[i]? = some o) : l.toArray[i]? = some o := by simpa using h
theorem chain_nil {a : Act} {w : World} (h : Q .normal a w) : wpChain P l.toArray (NoPanic Q) [] a w := h
/-- An operation whose guard says no. -/
theorem chain_skip {i : Nat} {q : Bool} {r : List (Nat × Bool)} {o : Oper} {a : Act} {w : World} (ho : l[i]? = some o) (hw : Region.wanted o (yielded l.toArray a.tmps) = false)
    (h : wpChain P l.toArray Q r (a.put o.dst undef) w) : wpChain P l.toArray Q ((i, q) :: r) a w := by
  cases q with
  | true => exact ⟨o, undef, at_list ho, .inr ⟨hw, rfl⟩, h⟩
  | false =>
    show wpOp P l.toArray Q i _ a w
    unfold wpOp
    simp only [at_list ho, hw, Bool.false_eq_true, if_false]
    exact ⟨Ext.refl w, h⟩
/-- One that yields v. -/
theorem chain_yield {i : Nat} {r : List (Nat × Bool)} {o : Oper} {a : Act} {w : World} (v : Value) (ho : l[i]? = some o) (hw : Region.wanted o (yielded l.toArray a.tmps) = true)
    (hv : ∀ x, Ext w x → (execOp a.eval o).run P x = .ok (.value v) x) (h : wpChain P l.toArray Q r (a.put o.dst v) w) : wpChain P l.toArray Q ((i, true) :: r) a w :=
  ⟨o, v, at_list ho, .inl ⟨hw, hv⟩, h⟩

theorem run_value {s : Sem Value} {w w' : World} {n : Next} (h : (do let x ← s; pure (Next.value x) : Sem Next).run P w = .ok n w') : ∃ v, n = .value v := by
  rw [Sem.run_bind] at h
  revert h
  generalize s.run P w = r
  intro h
  cases r with
  | ok x w1 =>
    simp only [Result.andThen_ok, Sem.run_pure, Result.ok.injEq] at h
    exact ⟨_, h.1.symm⟩
  | halt x w1 => simp [Result.andThen] at h
theorem calm_run {o : Oper} (hc : calmOp o.op = true) (ρ : Operand → Value) (w w' : World) (n : Next) (h : (execOp ρ o).run P w = .ok n w') : ∃ v, n = .value v := by
  obtain ⟨dst, op, type, pos, after, guard⟩ := o
  cases op
  case move x => simp [execOp] at h; exact ⟨_, h.1.symm⟩
  case assign x => simp [execOp] at h; exact ⟨_, h.1.symm⟩
  case pick c a b => exact run_value (s := do pure (if ← asBool (ρ c) then ρ a else ρ b)) (by simpa [execOp] using h)
  case load t a => exact run_value h
  case binOp op t x y ty => exact run_value h
  case unOp op t x => exact run_value h
  case convert s d x => exact run_value h
  case slice t x lo hi mx => exact run_value h
  case fieldAddr s x f => exact run_value h
  case field t x f => exact run_value h
  case indexAddr t x i => exact run_value h
  case index t x i => exact run_value h
  case extract t i => exact run_value h
  case makeInterface t x => exact run_value h
  case build t ps => exact run_value h
  case call c =>
    obtain ⟨callee, args, argTypes⟩ := c
    cases callee
    case builtin b =>
      cases b <;> simp [calmOp] at hc <;>
      · simp only [execOp, resolve, invoke, builtin, Sem.run_bind, Sem.run_pure, Result.andThen_ok] at h
        exact run_value (by rw [Sem.run_bind]; exact h)
    all_goals simp [calmOp] at hc
  all_goals simp [calmOp] at hc

/-- One that yields, by the quiet walk's step. -/
theorem chain_quiet {i : Nat} {r : List (Nat × Bool)} {o : Oper} {a : Act} {w : World} (ho : l[i]? = some o) (hc : calmOp o.op = true) (hw : Region.wanted o (yielded l.toArray a.tmps) = true)
    (h : ∀ K : Act → Prop, (∀ a, wpChain P l.toArray Q r a w → K a) → o.quiet P a (fun x => ∃ s : EW w, x = s.w) K) : wpChain P l.toArray Q ((i, true) :: r) a w := by
  obtain ⟨v, h1, h2⟩ := h _ (fun _ h => h)
  refine chain_yield v ho hw (fun x hx => ?_) h2
  have h3 := h1 x ⟨⟨x, hx⟩, rfl⟩
  unfold Oper.quietAt at h3
  cases hr : (execOp a.eval o).run P x with
  | ok n w' =>
    obtain ⟨u, rfl⟩ := calm_run hc _ _ _ _ hr
    rw [hr] at h3
    obtain ⟨rfl, rfl⟩ := h3
    rfl
  | halt y w' =>
    rw [hr] at h3
    exact h3.elim
/-- One that does more: it comes up alone. -/
theorem chain_do {i : Nat} {r : List (Nat × Bool)} {o : Oper} {a : Act} {w : World} (ho : l[i]? = some o) (hw : Region.wanted o (yielded l.toArray a.tmps) = true)
    (h : ∀ K : Act → World → Prop, (∀ a x, Ext w x → wpChain P l.toArray Q r a x → K a x) → o.wp P a w K Q) : wpChain P l.toArray Q ((i, false) :: r) a w := by
  show wpOp P l.toArray Q i _ a w
  unfold wpOp
  simp only [at_list ho, hw, if_true]
  exact .inl (h _ (fun a x hx hh => ⟨hx, hh⟩))
/-- A whole array or struct is loaded. -/
theorem chain_row {i : Nat} {r : List (Nat × Bool)} {o : Oper} {a : Act} {w : World} (ho : l[i]? = some o) (hw : Region.wanted o (yielded l.toArray a.tmps) = true) (ty : TypeId) (x : Operand) (hop : o.op = .load ty x)
    (g : Nat) (hx : a.eval x = .pointer (some ⟨g, 0, none⟩)) (t : TypeId) (cs : Array Value) (fr : Nat × Nat) (d : TypeDesc) (hg : w.heap[g]? = some (.cells cs t fr))
    (hu : P.underlying ty = some d) (hd : (match d with | .struct _ | .array _ _ => true | _ => false) = true) (hi : (P.info? ty).map (·.size) = some cs.size)
    (h : wpChain P l.toArray Q r (a.put o.dst (.agg cs)) w) : wpChain P l.toArray Q ((i, true) :: r) a w := by
  refine chain_yield (.agg cs) ho hw (fun w' hx' => ?_) h
  unfold execOp
  simp only [hop, hx, Instr.loadAt, Instr.sureAddr, Sem.run_bind, Sem.run_pure, Result.andThen_ok, run_loadVar_row w' g t ty cs fr d (hx'.heap hg) hu hd hi]
end
attribute [go_sem] Ext.refl Ext.drew Ext.alloc
end Go.Proofs.Ythpogmkhfgkgoaa
