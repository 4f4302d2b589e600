/- A map's place taken ahead of a tuple assignment: `x, m[k] = .., v`. -/
import Derived.Test.YtcekfepgdfcinaaGreatDoorAb31
set_option linter.unusedSimpArgs false
set_option linter.unusedVariables false
namespace Go.Ab
open Go.RowKit
section
variable {P : Program} {Q Q' : Exit → Act → World → Prop} {K K' : Act → World → Prop} {a : Act} {w : World}
theorem wp_q {o : Oper} (hq : ∀ e a w, e ≠ .normal → Q' e a w → Q e a w) (hh : o.wp P a w K Q') : o.wp P a w K Q := by
  have hl : LetsOut Q' → LetsOut Q := fun ⟨a, w, h⟩ => ⟨a, w, hq _ _ _ (by simp) h⟩
  unfold Oper.wp at *
  generalize (execOp a.eval o).run P w = r at *
  cases r with
  | ok n w' =>
    cases n <;> simp only [Oper.upon] at hh ⊢ <;>
      first
        | exact hh
        | exact Calls.mono hh (fun e w'' he => by cases e <;> first | exact he | exact hq _ _ _ (by simp) he | exact hl he)
  | halt x w' => cases x <;> simp only [Oper.upon] at hh ⊢ <;> first | exact hh | exact hq _ _ _ (by simp) hh
theorem wpOp_q {ops ops' : Array Oper} {i : Nat} (ho : ops'[i]? = ops[i]?) (hg : ∀ o j v, ops[i]? = some o → o.guard = some (j, v) → ops'[j]? = ops[j]?) (hq : ∀ e a w, e ≠ .normal → Q' e a w → Q e a w) (hK : ∀ a w, K a w → K' a w)
    (hh : wpOp P ops' Q' i K a w) : wpOp P ops Q i K' a w := by
  refine wpOp_mono hK ?_
  unfold wpOp at hh ⊢
  rw [ho] at hh
  split
  · rename_i h0
    rw [h0] at hh
    exact hh
  · rename_i o h0
    rw [h0] at hh
    simp only at hh
    have hw : Region.wanted o (yielded ops' a.tmps) = Region.wanted o (yielded ops a.tmps) := by
      unfold Region.wanted
      cases hgo : o.guard with
      | none => rfl
      | some p =>
        obtain ⟨j, v⟩ := p
        simp only
        unfold yielded
        rw [hg o j v h0 hgo]
    rw [hw] at hh
    split
    · rename_i hw1
      rw [if_pos hw1] at hh
      refine hh.imp (wp_q hq) (fun ⟨h1, h2⟩ => ⟨h1, ?_⟩)
      obtain ⟨a, w, h⟩ := h2
      exact ⟨a, w, hq _ _ _ (by simp) h⟩
    · rename_i hw1
      rw [if_neg hw1] at hh
      exact hh
variable {pre tl : List Oper}
theorem getD_lt {l : Array Bool} {i : Nat} (h : i < l.size) : l.getD i true = l.getD i false := by simp [Array.getD_eq_getD_getElem?, h]
theorem getD_setT {l : Array Bool} {i : Nat} (h : i < l.size) : (l.setIfInBounds i true).getD i false = true := by simp [Array.getD_eq_getD_getElem?, h]
/-- The first operations in any order, then what comes behind them all. -/
theorem any_pre' {T : Act → World → Prop} (hbk : ∀ (i : Nat) (o : Oper), pre[i]? = some o → ∀ e ∈ o.after, Region.binds .any e = true → e.on < i) (hgd : ∀ (i : Nat) (o : Oper) j w, pre[i]? = some o → o.guard = some (j, w) → j < i)
    (htl : ∀ l : Array Bool, l.size = (pre ++ tl).length → DC (pre ++ tl) (Lf l) → (∀ k, pre.length ≤ k → l.getD k false = false) → ∀ k, pre.length ≤ k → k ∈ Region.ready .any (pre ++ tl).toArray l → ∀ i, i < pre.length → l.getD i false = true)
    (hT : ∀ g l a w, l.size = (pre ++ tl).length → (∀ i, i < pre.length → l.getD i false = true) → (∀ k, pre.length ≤ k → l.getD k false = false) → T a w → wpAny P .any (pre ++ tl).toArray Q (tl.length + g) l a w) :
    ∀ (f : Nat) (l l' : Array Bool) (a : Act) (w : World), l.size = (pre ++ tl).length → l'.size = pre.length → (∀ i, i < pre.length → l'.getD i false = l.getD i false) → (∀ k, pre.length ≤ k → l.getD k false = false) → DC (pre ++ tl) (Lf l) →
      wpAny P .any pre.toArray (fun e a w => e = .normal ∧ T a w) f l' a w → wpAny P .any (pre ++ tl).toArray Q (tl.length + f) l a w := by
  have at_ : ∀ i, i < pre.length → (pre ++ tl)[i]? = pre[i]? := fun i hi => List.getElem?_append_left hi
  have le : pre.length ≤ (pre ++ tl).length := by simp
  have nilAll : ∀ l' : Array Bool, l'.size = pre.length → Region.ready .any pre.toArray l' = [] → ∀ i, i < pre.length → l'.getD i false = true := fun l' hs hr i => by
    induction i using Nat.strongRecOn with
    | _ i ih =>
      intro hi
      refine Classical.byContradiction fun hno => ?_
      have : i ∈ Region.ready .any pre.toArray l' := mem_ready.2 ⟨by rw [getD_lt (by omega)]; simpa using hno, pre[i], by simp [hi], fun e he hb => ih e.on (hbk i pre[i] (List.getElem?_eq_getElem hi) e he hb) (by have := hbk i pre[i] (List.getElem?_eq_getElem hi) e he hb; omega)⟩
      rw [hr] at this
      cases this
  have allNil : ∀ l' : Array Bool, l'.size = pre.length → (∀ i, i < pre.length → l'.getD i false = true) → Region.ready .any pre.toArray l' = [] := fun l' hs hall => by
    refine List.eq_nil_iff_forall_not_mem.2 fun k hk => ?_
    obtain ⟨h1, o, ho, _⟩ := mem_ready.1 hk
    have hlt : k < pre.length := by have := (Array.getElem?_eq_some_iff.1 ho).1; simpa using this
    rw [getD_lt (by omega), hall k hlt] at h1
    cases h1
  intro f
  induction f with
  | zero =>
    intro l l' a w hs hs' hll hno hdc hh
    have hall := nilAll l' hs' hh.1
    exact hT 0 l a w hs (fun i hi => by rw [← hll i hi]; exact hall i hi) hno hh.2.2
  | succ f ih =>
    intro l l' a w hs hs' hll hno hdc hh
    by_cases hall : ∀ i, i < pre.length → l.getD i false = true
    · have h1 := hh.1 (allNil l' hs' (fun i hi => by rw [hll i hi]; exact hall i hi))
      exact hT (f + 1) l a w hs hall hno h1.2
    · refine ⟨fun he => ?_, fun i hi => ?_⟩
      · exfalso
        refine hall fun i hi => ?_
        rw [← hll i hi]
        refine nilAll l' hs' (List.eq_nil_iff_forall_not_mem.2 fun k hk => ?_) i hi
        obtain ⟨h1, o, ho, h2⟩ := mem_ready.1 hk
        have ho' : pre[k]? = some o := by simpa using ho
        have hlt : k < pre.length := (List.getElem?_eq_some_iff.1 ho').1
        have : k ∈ Region.ready .any (pre ++ tl).toArray l := mem_ready.2 ⟨by rw [getD_lt (by omega), ← hll k hlt, ← getD_lt (by omega)]; exact h1, o, by rw [List.getElem?_toArray, at_ k hlt]; exact ho', fun e he hb => by
          have h3 := hbk k o ho' e he hb
          rw [← hll e.on (by omega)]
          exact h2 e he hb⟩
        rw [he] at this
        cases this
      · obtain ⟨h1, o, ho, h2⟩ := mem_ready.1 hi
        have hilt : i < pre.length := by
          refine Classical.byContradiction fun hc => hall (htl l hs hdc hno i (by omega) hi)
        have ho' : pre[i]? = some o := by rw [List.getElem?_toArray, at_ i hilt] at ho; exact ho
        have hr : i ∈ Region.ready .any pre.toArray l' := mem_ready.2 ⟨by rw [getD_lt (by omega), hll i hilt, ← getD_lt (by omega)]; exact h1, o, by simpa using ho', fun e he hb => by
          have h3 := hbk i o ho' e he hb
          rw [hll e.on (by omega)]
          exact h2 e he hb⟩
        refine wpOp_q (ops' := pre.toArray) (by rw [List.getElem?_toArray, List.getElem?_toArray, at_ i hilt]) (fun o2 j v ho2 hg => ?_) (fun e a w hne h => absurd h.1 hne) (fun a w hw => ih _ _ a w (by simp [hs]) (by simp [hs']) (fun j hj => ?_) (fun k hk => ?_) (fun j oj hj hoj e he hb => ?_) hw) (hh.2 i hr)
        · rw [List.getElem?_toArray, at_ i hilt] at ho2
          have := hgd i o2 j v ho2 hg
          rw [List.getElem?_toArray, List.getElem?_toArray, at_ j (by omega)]
        · by_cases e : i = j
          · subst e
            rw [getD_setT (by omega), getD_setT (by omega)]
          · rw [getD_set_ne false e, getD_set_ne false e, hll j hj]
        · rw [getD_set_ne false (by omega)]
          exact hno k hk
        · show (l.setIfInBounds i true).getD e.on false = true
          by_cases e1 : j = i
          · subst e1
            have : o = oj := by
              have h5 : (pre ++ tl)[j]? = some o := by rw [at_ j hilt]; exact ho'
              rw [h5] at hoj
              exact Option.some.inj hoj
            subst this
            exact getD_set_true (h2 e he hb)
          · have : (l.setIfInBounds i true).getD j false = true := hj
            rw [getD_set_ne false (Ne.symm e1)] at this
            exact getD_set_true (hdc j oj this hoj e he hb)
/-- Those that come one behind another. -/
structure Lin (ops : List Oper) (n : Nat) : Prop where
  low : ∀ (k : Nat) (o : Oper), n ≤ k → ops[k]? = some o → ∀ e ∈ o.after, Region.binds .any e = true → e.on < k
  prev : ∀ (k : Nat) (o : Oper), n < k → ops[k]? = some o → ∃ e ∈ o.after, Region.binds .any e = true ∧ e.on = k - 1
def linB (ops : List Oper) (n : Nat) : Bool := (List.range ops.length).all fun k => !(Nat.ble n k) || match ops[k]? with
  | some o => (o.after.toList.all fun e => !(Region.binds .any e) || Nat.blt e.on k) && (!(Nat.blt n k) || (o.after.toList.any fun e => Region.binds .any e && Nat.beq e.on (k - 1)))
  | none => true
theorem linB_lin {ops : List Oper} {n : Nat} (h : linB ops n = true) : Lin ops n := by
  unfold linB at h
  simp only [List.all_eq_true, List.mem_range] at h
  refine ⟨fun k o hk ho e he hb => ?_, fun k o hk ho => ?_⟩
  · have := h k (List.getElem?_eq_some_iff.1 ho).1
    have hb2 : Nat.ble n k = true := by rw [Nat.ble_eq]; exact hk
    simp only [hb2, ho, Bool.not_true, Bool.false_or, Bool.and_eq_true, List.all_eq_true] at this
    have := this.1 e (by simpa using he)
    rw [hb] at this
    simpa using this
  · have := h k (List.getElem?_eq_some_iff.1 ho).1
    have hb2 : Nat.ble n k = true := by rw [Nat.ble_eq]; omega
    have hb3 : Nat.blt n k = true := by rw [Nat.blt_eq]; exact hk
    simp only [hb2, hb3, ho, Bool.not_true, Bool.false_or, Bool.and_eq_true, List.any_eq_true] at this
    obtain ⟨e, he, h1, h2⟩ := this.2
    exact ⟨e, by simpa using he, h1, Nat.eq_of_beq_eq_true h2⟩
theorem lin_step {ops : List Oper} {n k : Nat} (hl : Lin ops n) (hk : n ≤ k) (hkl : k < ops.length) {l : Array Bool} (hs : l.size = ops.length) (h1 : ∀ i, i < k → l.getD i false = true) (h2 : ∀ i, k ≤ i → l.getD i false = false) {g : Nat}
    (h : wpOp P ops.toArray Q k (wpAny P .any ops.toArray Q g (l.setIfInBounds k true)) a w) : wpAny P .any ops.toArray Q (g + 1) l a w := by
  have hr : k ∈ Region.ready .any ops.toArray l := mem_ready.2 ⟨by rw [getD_lt (by omega)]; exact h2 k (Nat.le_refl _), ops[k], by simp [hkl], fun e he hb => h1 _ (hl.low k _ hk (List.getElem?_eq_getElem hkl) e he hb)⟩
  refine ⟨fun he => (by rw [he] at hr; cases hr), fun i hi => ?_⟩
  obtain ⟨q1, o, ho, q2⟩ := mem_ready.1 hi
  have ho' : ops[i]? = some o := by simpa using ho
  have hil : i < ops.length := (List.getElem?_eq_some_iff.1 ho').1
  have hik : k ≤ i := by
    refine Classical.byContradiction fun hc => ?_
    rw [getD_lt (by omega), h1 i (by omega)] at q1
    cases q1
  have : i = k := by
    refine Classical.byContradiction fun hc => ?_
    obtain ⟨e, he, hb, heq⟩ := hl.prev i o (by omega) ho'
    have := q2 e he hb
    rw [heq, h2 (i - 1) (by omega)] at this
    cases this
  subst this
  exact h
theorem lin_end {ops : List Oper} {l : Array Bool} (hs : l.size = ops.length) (h1 : ∀ i, i < ops.length → l.getD i false = true) (h : Q .normal a w) : ∀ g, wpAny P .any ops.toArray Q g l a w := by
  have hr : Region.ready .any ops.toArray l = [] := by
    refine List.eq_nil_iff_forall_not_mem.2 fun k hk => ?_
    obtain ⟨q1, o, ho, _⟩ := mem_ready.1 hk
    have hlt : k < ops.length := by have := (Array.getElem?_eq_some_iff.1 ho).1; simpa using this
    rw [getD_lt (by omega), h1 k hlt] at q1
    cases q1
  intro g
  cases g with
  | zero => exact ⟨hr, h⟩
  | succ g => exact ⟨fun _ => h, fun i hi => by rw [hr] at hi; cases hi⟩
end
section
variable {C : Cx} {G : Gl} {φ : Phi} {a : Act} {w : World} {s sf : St} {sym : Option V} {o : List Prop} {x k v : V} {ux uk uv : Value}
end
end Go.Ab
