/- The rules of code; a function's contract. -/
import Derived.Test.YtmeiemdnhjnpcaaAb17
set_option linter.unusedSimpArgs false
set_option linter.unusedVariables false
namespace Go.Ab
open Go.RowKit

theorem Inv.drew {C : Cx} {G : Gl} {s : St} {φ : Phi} {a : Act} {w : World} (hI : Inv C G s φ a w) : Inv C G s φ a { w with drawn := w.drawn + 1 } := by
  have im : ∀ b, Imm φ G.X w b → Imm φ G.X { w with drawn := w.drawn + 1 } b ∧ ({ w with drawn := w.drawn + 1 } : World).heap[b]? = w.heap[b]? := fun b h => ⟨h, rfl⟩
  refine ⟨hI.size, hI.defers, fun t x hx => ?_, fun i blk hl => ?_, ⟨hI.ok.inj, hI.ok.lt, hI.ok.free, hI.ok.dom⟩, hI.x, ⟨hI.frm.os, hI.frm.tape, hI.frm.output, hI.frm.size, hI.frm.block⟩, hI.own, hI.fix⟩
  · have := hI.tm t x hx
    cases x with
    | plain y => exact Rel.mono im this _ (fun _ _ _ h => h) (fun _ h => h)
    | gd d want y => exact ⟨fun e => (this.1 e).mono im _ (fun _ _ _ h => h) (fun _ h => h), this.2⟩
  · exact (hI.hr i blk hl).mono im (fun _ _ _ => rfl) (fun _ _ _ h => h) (fun _ h => h)

/-- Code, read on plain data. -/
structure AWP (C : Cx) (c : Code) (s : St) (K : Exit → St → Prop) : Prop where
  run : ∀ (G : Gl) (φ : Phi) (a : Act) (w : World), Inv C G s φ a w → c.wp C.P (fun e a' w' => ∃ s' φ', K e s' ∧ Inv C G s' φ' a' w') a w

section
variable {C : Cx} {c x y : Code} {s s' sf : St} {K K' : Exit → St → Prop} {os : List Prop}

theorem AWP.mono (h : AWP C c s K) (hk : ∀ e s, K e s → K' e s) : AWP C c s K' := ⟨fun G φ a w hI =>
  wp_mono (h.run G φ a w hI) fun _ _ _ ⟨s', φ', h1, h2⟩ => ⟨s', φ', hk _ _ h1, h2⟩⟩
theorem AWP.skip (h : K .normal s) : AWP C .skip s K := ⟨fun _ φ _ _ hI => wp_skip ⟨s, φ, h, hI⟩⟩
theorem AWP.label {l : Nat} (h : K .normal s) : AWP C (.label l) s K := ⟨fun _ φ _ _ hI => wp_label ⟨s, φ, h, hI⟩⟩
theorem AWP.exit {id : Nat} (h : K (.exit id) s) : AWP C (.exit id) s K := ⟨fun _ φ _ _ hI => wp_exit ⟨s, φ, h, hI⟩⟩
theorem AWP.ret (h : K .ret s) : AWP C .ret s K := ⟨fun _ φ _ _ hI => wp_ret ⟨s, φ, h, hI⟩⟩
def thenK (C : Cx) (y : Code) (K : Exit → St → Prop) : Exit → St → Prop
  | .normal, s => AWP C y s K
  | e, s => K e s
theorem AWP.seq (h : AWP C x s (thenK C y K)) : AWP C (.seq x y) s K := by
  constructor
  intro G φ a w hI
  refine wp_seq (wp_mono (h.run G φ a w hI) fun e a' w' ⟨s', φ', h1, h2⟩ => ?_)
  cases e <;> first | exact (h1 : AWP C y s' K).run G φ' a' w' h2 | exact ⟨s', φ', h1, h2⟩
theorem AWP.cond {o : Operand} {b : Bool} (ho : rdA s.tm [] o = some (.val (.bool b))) (ht : b = true → AWP C x s K) (hf : b = false → AWP C y s K) : AWP C (.cond o x y) s K := by
  constructor
  intro G φ a w hI
  have h1 := (rdA_ok hI.gok hI.tm0 (fun p hp => by simp at hp) _ _ ho).val_inv
  exact wp_cond_split h1 (fun e => (ht e).run G φ a w hI) (fun e => (hf e).run G φ a w hI)
theorem AWP.condB {o : Operand} (ho : rdA s.tm [] o = some .bo) (ht : AWP C x s K) (hf : AWP C y s K) : AWP C (.cond o x y) s K := by
  constructor
  intro G φ a w hI
  obtain ⟨b, h1⟩ : ∃ b, a.eval o = .bool b := by
    have := rdA_ok hI.gok hI.tm0 (fun p hp => by simp at hp) _ _ ho
    generalize a.eval o = u at this
    cases this
    exact ⟨_, rfl⟩
  exact wp_cond_split h1 (fun _ => ht.run G φ a w hI) (fun _ => hf.run G φ a w hI)
def blockK (id : Nat) (K : Exit → St → Prop) : Exit → St → Prop
  | .exit id', s => if id' = id then K .normal s else K (.exit id') s
  | e, s => K e s
theorem AWP.block {id : Nat} (h : AWP C c s (blockK id K)) : AWP C (.block id c) s K := by
  constructor
  intro G φ a w hI
  refine wp_block (wp_mono (h.run G φ a w hI) fun e a' w' ⟨s', φ', h1, h2⟩ => ?_)
  cases e with
  | exit id' =>
    simp only [Exit.inBlock, blockK] at h1 ⊢
    split
    · rename_i e
      rw [if_pos e] at h1
      exact ⟨s', φ', h1, h2⟩
    · rename_i e
      rw [if_neg e] at h1
      exact ⟨s', φ', h1, h2⟩
  | _ => exact ⟨s', φ', h1, h2⟩
def scopeK (K : Exit → St → Prop) : Exit → St → Prop
  | .goto _, _ => False
  | e, s => K e s
theorem AWP.scope (h : AWP C c s (scopeK K)) : AWP C (.scope c) s K := by
  constructor
  intro G φ a w hI
  refine wp_scope_straight (wp_mono (h.run G φ a w hI) fun e a' w' ⟨s', φ', h1, h2⟩ => ?_)
  cases e <;> first | exact (h1 : False).elim | exact ⟨s', φ', h1, h2⟩
/-- A loop: what holds at the head of each round, and what goes down. -/
theorem AWP.loop (I : Nat → St → Prop) (n : Nat) (h0 : I n s) (round : ∀ n s, I n s → AWP C c s (fun e s' => match e with | .normal => ∃ k, k < n ∧ I k s' | e => K e s')) : AWP C (.loop c) s K := by
  constructor
  intro G φ a w hI
  intro b k cs
  have key : ∀ n s φ a w, I n s → Inv C G s φ a w → ∃ e a' w', (∃ s' φ', K e s' ∧ Inv C G s' φ' a' w') ∧ Arrives C.P (lone (b.at a (.code c :: .inLoop c :: k)) cs w) b k cs e a' w' := by
    intro n
    induction n using Nat.strongRecOn with
    | _ n ih =>
      intro s φ a w hn hI
      obtain ⟨e, a₁, w₁, ⟨s1, φ1, hq, hI1⟩, harr⟩ := (round n s hn).run G φ a w hI b (.inLoop c :: k) cs
      cases e with
      | normal =>
        obtain ⟨j, hj, hIj⟩ := hq
        obtain ⟨e₂, a₂, w₂, hq₂, harr₂⟩ := ih j hj s1 φ1 a₁ w₁ hIj hI1
        exact ⟨e₂, a₂, w₂, hq₂, .of_steps (Steps.trans harr (.one step_inLoop)) harr₂⟩
      | exit id => exact ⟨_, a₁, w₁, ⟨s1, φ1, hq, hI1⟩, .pass (x := .inLoop c) rfl (fun _ _ => .inl (by simp)) harr⟩
      | goto l => exact ⟨_, a₁, w₁, ⟨s1, φ1, hq, hI1⟩, .pass (x := .inLoop c) rfl (fun _ _ => .inl (by simp)) harr⟩
      | ret => exact ⟨_, a₁, w₁, ⟨s1, φ1, hq, hI1⟩, .pass (x := .inLoop c) rfl (fun _ _ => .inl (by simp)) harr⟩
      | panic ch => exact ⟨_, a₁, w₁, ⟨s1, φ1, hq, hI1⟩, .pass (x := .inLoop c) rfl (fun _ _ => .inl (by simp)) harr⟩
      | outgrown => exact ⟨_, a₁, w₁, ⟨s1, φ1, hq, hI1⟩, .pass (x := .inLoop c) rfl (fun _ _ => .inl (by simp)) harr⟩
  obtain ⟨e, a', w', hq, harr⟩ := key n s φ a w h0 hI
  exact ⟨e, a', w', hq, .of_steps (.one step_loop) harr⟩

/-- A region: reckoned, what is owed paid. -/
theorem AWP.region (hT : TCok C.P C.tc) (hm : C.P.follows .mixedOrders = true) {id : Nat} {ops : List Oper} {draw : Bool} (hs : List (Nat × Hint)) (hr : runR C ops draw hs s = some (os, sf)) (ho : AllP os) (hk : K .normal sf) : AWP C (.region id ops.toArray draw) s K := by
  constructor
  intro G φ a w hI
  unfold runR at hr
  split at hr
  case h_2 => cases hr
  rename_i hd
  cases draw with
  | false =>
    refine wp_region ?_
    have := runL_seq (Q := fun e a' w' => ∃ s' φ', K e s' ∧ Inv C G s' φ' a' w') hT ops 0 (clSt s) φ a w os (by simp) hr ho hI.cl (fun a' w' φ' hI' => ⟨sf, φ', hk, hI'⟩)
    rw [show List.range ops.toArray.size = List.range' 0 ops.length by rw [List.range_eq_range']; simp]
    exact this
  | true =>
    have hd : drawOk ops = true ∧ (noLate ops = true ∨ lateAll C ops hs 0 (clSt s) ops = true) := by simpa using hd
    have hdw := drawOk_dw (ops := ops) hd.1
    refine wp_region_any hm ?_
    obtain ⟨m, op, st, out, os', e0, hseg, hnb, hJ, hrn, hos', hle, hnx, hlate⟩ := runL_seg hdw ops 0 (clSt s) os (by simp) hr ho J.cl
    have hcl := hI.cl.drew
    have hsz : (Array.replicate ops.toArray.size false).size = ops.length := by simp
    have hget : ∀ j, (Array.replicate ops.toArray.size false).getD j false = false := fun j => by
      simp only [Array.getD_eq_getD_getElem?, Array.getElem?_replicate]
      split <;> rfl
    refine drawn hT hdw (fun φ' a' w' hI' => ⟨sf, φ', hk, hI'⟩) ops.toArray.size 0 m op st out (fun _ => False) (fun _ => False) φ a _ os' _ hseg hnb hJ hrn hos' (by simpa using hle) hnx (hd.2.imp (fun h => h) hlate) (SegI.start (tm := (st 0).tm) hseg (by rw [e0]; exact hcl) (fun t _ x hx => hx) (fun j hj => hj.elim)) hsz ?_ ?_ ?_
    · intro i o hi
      rw [show Lf (Array.replicate ops.toArray.size false) i = false from hget i] at hi
      cases hi
    · intro j hj
      rw [hget j]
      constructor
      · intro h; cases h
      · rintro (h | ⟨q, _, _, h⟩)
        · have := h.1
          omega
        · exact h.elim
    · have : ∀ (l : Array Bool) n, unl l n ≤ n := fun l n => by
        induction n with
        | zero => simp [unl]
        | succ n ih => simp only [unl]; split <;> omega
      simpa using this _ ops.length

/-- A part of the state is let go. -/
def keepT (l : List Tmp) (s : St) : St := ⟨restr l s.tm, s.H⟩
theorem AWP.keep (l : List Tmp) (h : AWP C c (keepT l s) K) : AWP C c s K := ⟨fun G φ a w hI =>
  h.run G φ a w ⟨hI.size, hI.defers, fun t x hx => hI.tm t x (lk_restr hx).2, hI.hr, hI.ok, hI.x, hI.frm, hI.own, hI.fix⟩⟩
end
end Go.Ab
