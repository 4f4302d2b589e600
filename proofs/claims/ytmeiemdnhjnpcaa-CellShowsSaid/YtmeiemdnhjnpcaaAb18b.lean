/- A drawn region, its operations read in another order. -/
import Derived.Test.YtmeiemdnhjnpcaaAb18
set_option linter.unusedSimpArgs false
set_option linter.unusedVariables false
namespace Go.Ab
open Go.RowKit

def reEdge (σ : List Nat) (e : Edge) : Edge := { e with on := σ.getD e.on 0 }
def reOp (σ : List Nat) (o : Oper) : Oper := { o with after := o.after.map (reEdge σ), guard := o.guard.map fun p => (σ.getD p.1 0, p.2) }
def permOps (π σ : List Nat) (ops : List Oper) : List Oper := π.map fun i => reOp σ (ops.getD i default)
def permOk (π σ : List Nat) (ops : List Oper) : Bool :=
  (Nat.beq π.length ops.length && Nat.beq σ.length ops.length) &&
  ((List.range ops.length).all fun i => (Nat.blt (π.getD i 0) ops.length && Nat.blt (σ.getD i 0) ops.length) && (Nat.beq (π.getD (σ.getD i 0) 0) i && Nat.beq (σ.getD (π.getD i 0) 0) i)) &&
  (ops.all fun o => (o.after.toList.all fun e => Nat.blt e.on ops.length) && (match o.guard with | some (j, _) => Nat.blt j ops.length | none => true))
structure Pm (π σ : List Nat) (ops : List Oper) : Prop where
  lp : π.length = ops.length
  ls : σ.length = ops.length
  pi : ∀ i, i < ops.length → π.getD i 0 < ops.length
  si : ∀ i, i < ops.length → σ.getD i 0 < ops.length
  ps : ∀ i, i < ops.length → π.getD (σ.getD i 0) 0 = i
  sp : ∀ i, i < ops.length → σ.getD (π.getD i 0) 0 = i
  ed : ∀ (i : Nat) (o : Oper), ops[i]? = some o → ∀ e ∈ o.after, e.on < ops.length
  gd : ∀ (i : Nat) (o : Oper) (j : Nat) (w : Bool), ops[i]? = some o → o.guard = some (j, w) → j < ops.length
theorem permOk_pm {π σ : List Nat} {ops : List Oper} (h : permOk π σ ops = true) : Pm π σ ops := by
  unfold permOk at h
  simp only [Bool.and_eq_true, List.all_eq_true, List.mem_range] at h
  obtain ⟨⟨⟨h1, h2⟩, h3⟩, h4⟩ := h
  have b1 := fun i hi => (h3 i hi).1.1
  have b2 := fun i hi => (h3 i hi).1.2
  have b3 := fun i hi => (h3 i hi).2.1
  have b4 := fun i hi => (h3 i hi).2.2
  refine ⟨Nat.eq_of_beq_eq_true h1, Nat.eq_of_beq_eq_true h2, fun i hi => by have := b1 i hi; rwa [Nat.blt_eq] at this, fun i hi => by have := b2 i hi; rwa [Nat.blt_eq] at this, fun i hi => Nat.eq_of_beq_eq_true (b3 i hi), fun i hi => Nat.eq_of_beq_eq_true (b4 i hi), fun i o ho e he => ?_, fun i o j w ho hg => ?_⟩
  · have := (h4 o (List.mem_of_getElem? ho)).1 e (by simpa using he)
    rwa [Nat.blt_eq] at this
  · have := (h4 o (List.mem_of_getElem? ho)).2
    rw [hg] at this
    simpa using this
section
variable {π σ : List Nat} {ops : List Oper}
theorem perm_len (h : Pm π σ ops) : (permOps π σ ops).length = ops.length := by simp [permOps, h.lp]
theorem perm_get (h : Pm π σ ops) {i : Nat} (hi : i < ops.length) : (permOps π σ ops)[σ.getD i 0]? = some (reOp σ ops[i]) := by
  have h1 := h.si i hi
  have h2 := h.ps i hi
  unfold permOps
  have h3 : σ.getD i 0 < π.length := by rw [h.lp]; exact h1
  have h4 : π.getD (σ.getD i 0) 0 = π[σ.getD i 0] := by
    rw [List.getD_eq_getElem?_getD (l := π), List.getElem?_eq_getElem h3]; rfl
  rw [List.getElem?_map, List.getElem?_eq_getElem h3, Option.map_some, ← h4, h2]
  congr 2
  rw [List.getD_eq_getElem?_getD, List.getElem?_eq_getElem hi]; rfl
theorem re_yielded (h : Pm π σ ops) {tmps : Array Value} {j : Nat} (hj : j < ops.length) : yielded (permOps π σ ops).toArray tmps (σ.getD j 0) = yielded ops.toArray tmps j := by
  unfold yielded
  have e1 : (permOps π σ ops).toArray[σ.getD j 0]? = some (reOp σ ops[j]) := by simpa using perm_get h hj
  have e2 : ops.toArray[j]? = some ops[j] := by simp [hj]
  rw [e1, e2]
  rfl
theorem re_wanted (h : Pm π σ ops) {tmps : Array Value} {i : Nat} (hi : i < ops.length) : Region.wanted (reOp σ ops[i]) (yielded (permOps π σ ops).toArray tmps) = Region.wanted ops[i] (yielded ops.toArray tmps) := by
  unfold Region.wanted
  cases hg : ops[i].guard with
  | none => simp [reOp, hg]
  | some p =>
    obtain ⟨j, w⟩ := p
    simp only [reOp, hg, Option.map_some]
    rw [re_yielded h (h.gd i _ j w (List.getElem?_eq_getElem hi) hg)]
theorem re_wp {P : Program} {o : Oper} {a : Act} {w : World} {K : Act → World → Prop} {Q : Exit → Act → World → Prop} : (reOp σ o).wp P a w K Q = o.wp P a w K Q := rfl
theorem re_asks {P : Program} {o : Oper} {a : Act} {w : World} : (reOp σ o).asks P a w = o.asks P a w := rfl
theorem re_wpOp (h : Pm π σ ops) {P : Program} {Q : Exit → Act → World → Prop} {K K' : Act → World → Prop} {a : Act} {w : World} {i : Nat} (hi : i < ops.length) (hK : ∀ a w, K a w → K' a w)
    (hh : wpOp P (permOps π σ ops).toArray Q (σ.getD i 0) K a w) : wpOp P ops.toArray Q i K' a w := by
  refine wpOp_mono hK ?_
  unfold wpOp at hh ⊢
  have e1 : (permOps π σ ops).toArray[σ.getD i 0]? = some (reOp σ ops[i]) := by simpa using perm_get h hi
  have e2 : ops.toArray[i]? = some ops[i] := by simp [hi]
  rw [e1] at hh
  rw [e2]
  simp only [re_wanted h hi, re_wp, re_asks] at hh ⊢
  exact hh
theorem re_any (h : Pm π σ ops) {P : Program} {Q : Exit → Act → World → Prop} : ∀ (f : Nat) (l l' : Array Bool) (a : Act) (w : World), l.size = ops.length → l'.size = ops.length → (∀ i, i < ops.length → l'.getD (σ.getD i 0) false = l.getD i false) →
    wpAny P .any (permOps π σ ops).toArray Q f l' a w → wpAny P .any ops.toArray Q f l a w := by
  have tf : ∀ (l : Array Bool) i, i < l.size → l.getD i true = l.getD i false := fun l i hi => by simp [Array.getD_eq_getD_getElem?, hi]
  have rdy : ∀ (l l' : Array Bool), l.size = ops.length → l'.size = ops.length → (∀ i, i < ops.length → l'.getD (σ.getD i 0) false = l.getD i false) → ∀ i, i < ops.length → (i ∈ Region.ready .any ops.toArray l ↔ σ.getD i 0 ∈ Region.ready .any (permOps π σ ops).toArray l') := by
    intro l l' hl hl' hr i hi
    have e1 : (permOps π σ ops).toArray[σ.getD i 0]? = some (reOp σ ops[i]) := by simpa using perm_get h hi
    have e2 : ops.toArray[i]? = some ops[i] := by simp [hi]
    have hsi := h.si i hi
    rw [mem_ready, mem_ready, e1, e2, tf l i (by omega), tf l' _ (by omega), hr i hi]
    refine and_congr Iff.rfl ?_
    constructor
    · rintro ⟨o, ho, hall⟩
      cases ho
      refine ⟨_, rfl, fun e he hb => ?_⟩
      simp only [reOp, Array.mem_map] at he
      obtain ⟨e0, he0, rfl⟩ := he
      show l'.getD (σ.getD e0.on 0) false = true
      rw [hr _ (h.ed i _ (List.getElem?_eq_getElem hi) e0 he0)]
      exact hall e0 he0 hb
    · rintro ⟨o, ho, hall⟩
      cases ho
      refine ⟨_, rfl, fun e he hb => ?_⟩
      rw [← hr _ (h.ed i _ (List.getElem?_eq_getElem hi) e he)]
      exact hall (reEdge σ e) (by simp only [reOp, Array.mem_map]; exact ⟨e, he, rfl⟩) hb
  have lt : ∀ (l : Array Bool) i, i ∈ Region.ready .any ops.toArray l → i < ops.length := fun l i hi => by
    obtain ⟨_, o, ho, _⟩ := mem_ready.1 hi
    have := (Array.getElem?_eq_some_iff.1 ho).1
    simpa using this
  have lt' : ∀ (l : Array Bool) i, i ∈ Region.ready .any (permOps π σ ops).toArray l → i < ops.length := fun l i hi => by
    obtain ⟨_, o, ho, _⟩ := mem_ready.1 hi
    have := (Array.getElem?_eq_some_iff.1 ho).1
    have h2 := perm_len h
    simp only [List.size_toArray] at this
    omega
  have nil : ∀ (l l' : Array Bool), l.size = ops.length → l'.size = ops.length → (∀ i, i < ops.length → l'.getD (σ.getD i 0) false = l.getD i false) → Region.ready .any ops.toArray l = [] → Region.ready .any (permOps π σ ops).toArray l' = [] := by
    intro l l' hl hl' hr he
    refine List.eq_nil_iff_forall_not_mem.2 fun k hk => ?_
    have hk' := lt' l' k hk
    have := (rdy l l' hl hl' hr (π.getD k 0) (h.pi k hk')).2 (by rw [h.sp k hk']; exact hk)
    rw [he] at this
    cases this
  intro f
  induction f with
  | zero =>
    intro l l' a w hl hl' hr hh
    refine ⟨?_, hh.2⟩
    refine List.eq_nil_iff_forall_not_mem.2 fun k hk => ?_
    have := (rdy l l' hl hl' hr k (lt l k hk)).1 hk
    rw [hh.1] at this
    cases this
  | succ f ih =>
    intro l l' a w hl hl' hr hh
    refine ⟨fun he => hh.1 (nil l l' hl hl' hr he), fun i hi => ?_⟩
    have hlt := lt l i hi
    have h1 := hh.2 _ ((rdy l l' hl hl' hr i hlt).1 hi)
    refine re_wpOp h hlt (fun a w hw => ih _ _ a w (by simp [hl]) (by simp [hl']) (fun j hj => ?_) hw) h1
    by_cases e : i = j
    · subst e
      have := h.si i hlt
      have q1 : (l.setIfInBounds i true).getD i false = true := by simp [Array.getD_eq_getD_getElem?, hl, hlt]
      have q2 : (l'.setIfInBounds (σ.getD i 0) true).getD (σ.getD i 0) false = true := by
        rw [Array.getD_eq_getD_getElem?, Array.getElem?_setIfInBounds_self_of_lt (by omega)]; rfl
      rw [q1, q2]
    · have ne : σ.getD i 0 ≠ σ.getD j 0 := fun e2 => e (by rw [← h.ps i hlt, e2, h.ps j hj])
      rw [getD_set_ne false e, getD_set_ne false ne, hr j hj]
/-- A drawn region, read in another order. -/
theorem AWP.regionP {C : Cx} {K : Exit → St → Prop} {s sf : St} {os : List Prop} (hT : TCok C.P C.tc) (hm : C.P.follows .mixedOrders = true) {id : Nat} (π σ : List Nat) (hp : permOk π σ ops = true) (hs : List (Nat × Hint)) (hr : runR C (permOps π σ ops) true hs s = some (os, sf)) (ho : AllP os) (hk : K .normal sf) : AWP C (.region id ops.toArray true) s K := by
  have h := permOk_pm hp
  constructor
  intro G φ a w hI
  unfold runR at hr
  split at hr
  case h_2 => cases hr
  rename_i hd
  have hd : drawOk (permOps π σ ops) = true ∧ (noLate (permOps π σ ops) = true ∨ lateAll C (permOps π σ ops) hs 0 (clSt s) (permOps π σ ops) = true) := by simpa using hd
  have hdw := drawOk_dw hd.1
  refine wp_region_any hm ?_
  have hlen := perm_len h
  refine re_any h _ _ (Array.replicate (permOps π σ ops).toArray.size false) _ _ (by simp) (by simp [hlen]) (fun i hi => ?_) ?_
  · have := h.si i hi
    simp [Array.getD_eq_getD_getElem?, Array.getElem?_replicate, hi, hlen]
    split <;> rfl
  · obtain ⟨m, op, st, out, os', e0, hseg, hnb, hJ, hrn, hos', hle, hnx, hlate⟩ := runL_seg hdw (permOps π σ ops) 0 (clSt s) os (by simp) hr ho J.cl
    have hcl := hI.cl.drew
    have hsz : (Array.replicate (permOps π σ ops).toArray.size false).size = (permOps π σ ops).length := by simp
    have hget : ∀ j, (Array.replicate (permOps π σ ops).toArray.size false).getD j false = false := fun j => by
      simp only [Array.getD_eq_getD_getElem?, Array.getElem?_replicate]
      split <;> rfl
    refine drawn hT hdw (fun φ' a' w' hI' => ⟨sf, φ', hk, hI'⟩) ops.toArray.size 0 m op st out (fun _ => False) (fun _ => False) φ a _ os' _ hseg hnb hJ hrn hos' (by simpa using hle) hnx (hd.2.imp (fun h => h) hlate) (SegI.start (tm := (st 0).tm) hseg (by rw [e0]; exact hcl) (fun t _ x hx => hx) (fun j hj => hj.elim)) hsz ?_ ?_ ?_
    · intro i o hi
      rw [show Lf (Array.replicate (permOps π σ ops).toArray.size false) i = false from hget i] at hi
      cases hi
    · intro j hj
      rw [hget j]
      constructor
      · intro h; cases h
      · rintro (h | ⟨q, _, _, h⟩)
        · have := h.1
          omega
        · exact h.elim
    · have : ∀ (l : Array Bool) n, unl l n ≤ n := fun l n => by
        induction n with
        | zero => simp [unl]
        | succ n ih => simp only [unl]; split <;> omega
      have h3 := this (Array.replicate (permOps π σ ops).toArray.size false) (permOps π σ ops).length
      simp only [List.size_toArray] at h3 ⊢
      omega
end
/-! Own numbers, each greater by k. -/
def renT (k : Nat) : T → T
  | .plain x => .plain (ren k x)
  | .gd d w x => .gd d w (ren k x)
def renTm (k : Nat) : List (Nat × T) → List (Nat × T)
  | [] => []
  | (t, x) :: r => (t, renT k x) :: renTm k r
theorem lk_renTm (k : Nat) : ∀ {tm : List (Nat × T)} {t : Nat} {x : T}, lk (renTm k tm) t = some x → ∃ y, lk tm t = some y ∧ x = renT k y
  | [], _, _, h => by cases h
  | (q, y) :: r, t, x, h => by
    simp only [renTm, lk] at h ⊢
    split at h
    · rename_i e
      cases h
      exact ⟨y, by rw [if_pos e], rfl⟩
    · rename_i e
      obtain ⟨z, h1, h2⟩ := lk_renTm k h
      exact ⟨z, by rw [if_neg e]; exact h1, h2⟩
def Phi.sh (k : Nat) (φ : Phi) : Phi := fun i => if i < k then .none else φ (i - k)
theorem Phi.sh_add {k : Nat} {φ : Phi} (i : Nat) : φ.sh k (i + k) = φ i := by
  unfold Phi.sh
  rw [if_neg (by omega), Nat.add_sub_cancel]
theorem Phi.sh_at {k : Nat} {φ : Phi} {i b : Nat} {c : Option Nat} (h : φ.sh k i = .at b c) : φ (i - k) = .at b c ∧ k ≤ i := by
  unfold Phi.sh at h
  split at h
  · cases h
  · exact ⟨h, by omega⟩
def smallH (k : Nat) : List (Nat × Blk) → Bool
  | [] => true
  | (i, _) :: r => Nat.blt (i + k) BIG && smallH k r
theorem smallH_get {k : Nat} : ∀ {H : List (Nat × Blk)} {i : Nat} {b : Blk}, smallH k H = true → lk H i = some b → i + k < BIG
  | [], _, _, _, h => by cases h
  | (j, b') :: r, i, b, hs, h => by
    simp only [smallH, Bool.and_eq_true, Nat.blt_eq] at hs
    simp only [lk, beq_iff_eq] at h
    split at h
    · rename_i e
      subst e
      exact hs.1
    · exact smallH_get hs.2 h
/-- All own numbers grow by k. -/
def shiftS (k : Nat) (s : St) : St := ⟨renTm k s.tm, renH k s.H⟩
theorem Inv.shift {C : Cx} {G : Gl} {s : St} {φ : Phi} {a : Act} {w : World} (hI : Inv C G s φ a w) (k : Nat) (hsm : smallH k s.H = true) : Inv C G (shiftS k s) (φ.sh k) a w := by
  have im : ∀ b, Imm φ G.X w b → Imm (φ.sh k) G.X w b ∧ w.heap[b]? = w.heap[b]? := fun b h => ⟨⟨h.1, fun id c hs => h.2.1 _ c (Phi.sh_at hs).1, h.2.2⟩, rfl⟩
  have hk : ∀ id, φ id ≠ .none → φ.sh k (id + k) = φ id := fun id _ => Phi.sh_add id
  have up : ∀ {x : V} {u : Value}, Rel (Imm φ G.X w) w φ x u → Rel (Imm (φ.sh k) G.X w) w (φ.sh k) (ren k x) u := fun h =>
    Rel.mono im (h.ren (φ.sh k) hk) _ (fun _ _ _ h => h) (fun _ h => h)
  refine ⟨hI.size, hI.defers, fun t x hx => ?_, fun i blk hl => ?_, ⟨fun i j b c c' hi hj => ?_, fun i b c hi => ?_, fun i b c hi => ?_, fun i hi => ?_⟩, hI.x, hI.frm, fun i b c hi => ?_, fun i b hb h0 => .inr ?_⟩
  rotate_right
  · show lk (renH k s.H) i = none
    cases hc : lk (renH k s.H) i with
    | none => rfl
    | some b0 =>
      obtain ⟨id, b1, rfl, h1, _⟩ := lk_renH hc
      have := smallH_get hsm h1
      omega
  · obtain ⟨y, hy, rfl⟩ := lk_renTm k hx
    have := hI.tm t y hy
    cases y with
    | plain y => exact up this
    | gd d want y => exact ⟨fun e => up (this.1 e), this.2⟩
  · obtain ⟨id, b0, rfl, h1, rfl⟩ := lk_renH hl
    rw [Phi.sh_add]
    have := (hI.hr id b0 h1).ren (φ.sh k) hk
    refine this.mono im (fun _ _ _ => rfl) (fun _ _ _ h => h) (fun _ h => h)
  · obtain ⟨h1, k1⟩ := Phi.sh_at hi
    obtain ⟨h2, k2⟩ := Phi.sh_at hj
    have := hI.ok.inj _ _ _ _ _ h1 h2
    omega
  · exact hI.ok.lt _ _ _ (Phi.sh_at hi).1
  · exact hI.ok.free _ _ _ (Phi.sh_at hi).1
  · unfold Phi.sh
    split
    · rfl
    · rename_i hge
      refine hI.ok.dom _ ?_
      cases hc : lk s.H (i - k) with
      | none => rfl
      | some b0 =>
        have := lk_renH_of (k := k) hc
        rw [show i - k + k = i by omega] at this
        have e : lk (renH k s.H) i = none := hi
        rw [e] at this
        cases this
  · exact hI.own _ _ _ (Phi.sh_at hi).1
theorem AWP.shift {C : Cx} {c : Code} {s s' : St} {K : Exit → St → Prop} (k : Nat) (hsm : smallH k s.H = true) (hs : shiftS k s = s') (h : AWP C c s' K) : AWP C c s K := ⟨fun G φ a w hI => h.run G _ a w (hs ▸ hI.shift k hsm)⟩
end Go.Ab
