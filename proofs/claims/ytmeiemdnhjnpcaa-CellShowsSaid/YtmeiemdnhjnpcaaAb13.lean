/- Operations that write nothing, in whatever order they come up. -/
import Derived.Test.YtmeiemdnhjnpcaaAb12
import Derived.Test.YtmeiemdnhjnpcaaWr
import Derived.Orders
set_option linter.unusedSimpArgs false
set_option linter.unusedVariables false
namespace Go.Ab
open Go.RowKit

def isBar : Op → Bool
  | .store _ _ _ => true
  | .call { callee := .builtin .append, .. } => true
  | .call { callee := .builtin .copy, .. } => true
  | .call { callee := .builtin .clear, .. } => true
  | .call { callee := .builtin .delete, .. } => true
  | .mapUpdate _ _ _ _ => true
  | .convert s t _ => Nat.beq s t
  | .call { callee := .value (.func f), .. } => wrF.contains f
  | .call { callee := .value (.tmp _), .. } => true
  | _ => false
def isSto : Op → Bool
  | .store _ _ _ => true
  | _ => false
/-- The slots that an operation may look at. -/
def gch (ops : List Oper) : Nat → Nat → List Tmp
  | 0, _ => []
  | n + 1, j => match ops[j]? with
    | some o => o.dst.toList ++ (match o.guard with | some (k, _) => gch ops n k | none => [])
    | none => []
def tmpsOf : List Operand → List Tmp
  | [] => []
  | .tmp t :: r => t :: tmpsOf r
  | _ :: r => tmpsOf r
def rs (ops : List Oper) (o : Oper) : List Tmp :=
  tmpsOf o.op.operands.toList ++ (match o.guard with | some (j, _) => gch ops 20 j | none => [])
def restr (l : List Tmp) : List (Nat × T) → List (Nat × T)
  | [] => []
  | (t, x) :: r => if l.contains t then (t, x) :: restr l r else restr l r
theorem lk_restr {l : List Tmp} {t : Nat} {x : T} : ∀ {tm : List (Nat × T)}, lk (restr l tm) t = some x → t ∈ l ∧ lk tm t = some x
  | [], h => by cases h
  | (k, y) :: r, h => by
    simp only [restr] at h
    split at h
    · rename_i hc
      simp only [lk] at h ⊢
      split at h
      · rename_i e
        rw [if_pos e]
        simp at e
        subst e
        exact ⟨by simpa using hc, h⟩
      · rename_i e
        rw [if_neg e]
        exact lk_restr h
    · rename_i hc
      have := lk_restr h
      refine ⟨this.1, ?_⟩
      simp only [lk]
      rw [if_neg]
      · exact this.2
      · intro e
        simp at e
        subst e
        exact hc (by simpa using this.1)

/-- What each operation waits for, through others too. -/
def befL : List Nat → List Oper → List Nat
  | acc, [] => acc
  | acc, o :: r => befL (acc ++ [o.after.toList.foldl (fun s e => if Region.binds .any e then s ||| 2 ^ e.on ||| acc.getD e.on 0 else s) 0]) r

/-- All that has come up had come up what it waits for. -/
def DC (ops : List Oper) (L : Nat → Bool) : Prop := ∀ i o, L i = true → ops[i]? = some o → ∀ e ∈ o.after, Region.binds .any e = true → L e.on = true
theorem fold_bit (acc : List Nat) (j : Nat) : ∀ (es : List Edge) (s : Nat), (es.foldl (fun s e => if Region.binds .any e then s ||| 2 ^ e.on ||| acc.getD e.on 0 else s) s).testBit j = true →
    s.testBit j = true ∨ ∃ e ∈ es, Region.binds .any e = true ∧ (j = e.on ∨ (acc.getD e.on 0).testBit j = true)
  | [], s, h => .inl h
  | e :: es, s, h => by
    rcases fold_bit acc j es _ h with h1 | ⟨e', he, hb, h1⟩
    · dsimp only at h1
      split at h1
      · rename_i hb
        simp only [Nat.testBit_or, Bool.or_eq_true] at h1
        rcases h1 with (h1 | h1) | h1
        · exact .inl h1
        · rw [Nat.testBit_two_pow] at h1
          exact .inr ⟨e, by simp, hb, .inl (by have := of_decide_eq_true h1; exact this.symm)⟩
        · exact .inr ⟨e, by simp, hb, .inr h1⟩
      · exact .inl h1
    · exact .inr ⟨e', by simp [he], hb, h1⟩
def BefOk (ops : List Oper) (b : List Nat) : Prop := ∀ i j, (b.getD i 0).testBit j = true → ∀ L, DC ops L → (∃ o, ops[i]? = some o ∧ ∀ e ∈ o.after, Region.binds .any e = true → L e.on = true) → L j = true
theorem befL_ok (ops : List Oper) : ∀ (r : List Oper) (acc : List Nat), acc.length ≤ ops.length → r = ops.drop acc.length → BefOk ops acc → BefOk ops (befL acc r)
  | [], acc, _, _, h => h
  | o :: r, acc, hl, hr, h => by
    simp only [befL]
    have ho : ops[acc.length]? = some o := by
      have : (ops.drop acc.length)[0]? = some o := by rw [← hr]; rfl
      simpa using this
    have hlt : acc.length < ops.length := (List.getElem?_eq_some_iff.1 ho).1
    refine befL_ok ops r _ (by simp; omega) ?_ ?_
    · have := congrArg (List.drop 1) hr
      simpa using this
    · intro i j hb L hL hi
      by_cases hil : i < acc.length
      · rw [List.getD_eq_getElem?_getD, List.getElem?_append_left hil] at hb
        exact h i j (by rw [List.getD_eq_getElem?_getD]; exact hb) L hL hi
      · by_cases hie : i = acc.length
        · subst hie
          rw [List.getD_eq_getElem?_getD, List.getElem?_append_right (Nat.le_refl _)] at hb
          simp only [Nat.sub_self, List.getElem?_cons_zero, Option.getD_some] at hb
          rcases fold_bit acc j _ _ hb with h0 | ⟨e, he, hbe, h1⟩
          · simp at h0
          · obtain ⟨o', ho', hall⟩ := hi
            rw [ho] at ho'
            cases ho'
            have hLe := hall e (by simpa using he) hbe
            rcases h1 with rfl | h1
            · exact hLe
            · refine h e.on j h1 L hL ?_
              have hea : e.on < ops.length := by
                refine Classical.byContradiction fun hc => ?_
                rw [List.getD_eq_getElem?_getD, List.getElem?_eq_none (by omega)] at h1
                simp at h1
              exact ⟨ops[e.on], List.getElem?_eq_getElem hea, fun e' he' hb' => hL e.on _ hLe (List.getElem?_eq_getElem hea) e' he' hb'⟩
        · rw [List.getD_eq_getElem?_getD, List.getElem?_eq_none (by simp; omega)] at hb
          simp at hb
def befs (ops : List Oper) : List Nat := befL [] ops
theorem befs_ok (ops : List Oper) : BefOk ops (befs ops) := befL_ok ops ops [] (Nat.zero_le _) rfl (fun i j h => by simp at h)

def dstAt (ops : List Oper) (i : Nat) : Option Tmp := (ops[i]?).bind (·.dst)
def ordered (b : List Nat) (k i : Nat) : Bool := if Nat.blt k i then (b.getD i 0).testBit k else (b.getD k 0).testBit i
/-- What makes no block and writes none. -/
def pureOp : Op → Bool
  | .extract _ _ => true
  | .convert _ _ _ => true
  | .binOp _ _ _ _ _ => true
  | .unOp _ _ _ => true
  | .move _ => true
  | .fieldAddr _ _ _ => true
  | .field _ _ _ => true
  | .indexAddr _ _ _ => true
  | .index _ _ _ => true
  | .load _ _ => true
  | .nilCheck _ => true
  | .call c => match c.callee with
    | .builtin .max => true
    | .builtin .min => true
    | .builtin .len => true
    | _ => false
  | _ => false
/-- A store need not wait for it. -/
def floats (ops : List Oper) (i : Nat) : Bool :=
  match ops[i]? with
  | some o => match o.guard, o.dst with
    | none, some _ => pureOp o.op && (List.range ops.length).all fun k => match ops[k]? with
      | some p => (match p.guard with | some (j, _) => !(j == i) | none => true) && (!Nat.blt i k || (match p.dst with | some d' => !((rs ops o).contains d') | none => true))
      | none => true
    | _, _ => false
  | none => false
structure Flt (ops : List Oper) (i : Nat) (o : Oper) (d : Tmp) : Prop where
  at_ : ops[i]? = some o
  guard : o.guard = none
  dst : o.dst = some d
  op : pureOp o.op = true
  last : ∀ (k : Nat) (p : Oper), i < k → ops[k]? = some p → ∀ t, t ∈ rs ops o → p.dst ≠ some t
  ng : ∀ (k : Nat) (p : Oper) (w : Bool), ops[k]? = some p → p.guard ≠ some (i, w)
theorem floats_flt {ops : List Oper} {i : Nat} (h : floats ops i = true) : ∃ o d, Flt ops i o d := by
  unfold floats at h
  split at h
  · rename_i o ho
    split at h
    · rename_i d hg hd
      simp only [Bool.and_eq_true, List.all_eq_true, List.mem_range] at h
      obtain ⟨hop, h⟩ := h
      refine ⟨o, d, ho, hg, hd, hop, fun k p hk hp t ht e => ?_, fun k p w hp e => ?_⟩
      · have := h k (List.getElem?_eq_some_iff.1 hp).1
        have hb : Nat.blt i k = true := by rw [Nat.blt_eq]; exact hk
        simp [hp, hb, e] at this
        exact this.2 ht
      · have := h k (List.getElem?_eq_some_iff.1 hp).1
        simp [hp, e] at this
    · cases h
  · cases h
/-- The slots whose blocks are loaded from, by what need not come up ahead of the i-th. -/
def lateLds (ops : List Oper) (i : Nat) : List Tmp :=
  (List.range i).flatMap fun k => match ops[k]? with
    | some o => match o.op with
      | .load _ (.tmp t) => match floats ops k && !(ordered (befs ops) k i) with
        | true => [t]
        | false => []
      | _ => []
    | none => []
def noLate (ops : List Oper) : Bool := (List.range ops.length).all fun i => match ops[i]? with
  | some o => !(isBar o.op) || (lateLds ops i).isEmpty
  | none => true
theorem lateLds_mem {ops : List Oper} {i k : Nat} {o : Oper} {ty : TypeId} {t : Tmp} (hk : k < i) (ho : ops[k]? = some o) (hop : o.op = .load ty (.tmp t)) (hf : floats ops k = true) (hn : ordered (befs ops) k i = false) : t ∈ lateLds ops i := by
  unfold lateLds
  refine List.mem_flatMap.2 ⟨k, List.mem_range.2 hk, ?_⟩
  simp [ho, hop, hf, hn]
/-- May the order be let go? -/
def drawOk (ops : List Oper) : Bool :=
  let b := befs ops
  let n := ops.length
  (List.range n).all fun i => match ops[i]? with
    | some o => ((o.after.toList.all fun e => !Region.binds .any e || Nat.blt e.on i) && ((match o.guard with | some (j, _) => Nat.blt j i | none => true) && (match o.dst with | some d => !((rs ops o).contains d) | none => true))) &&
        ((List.range n).all fun k => k == i || match ops[k]? with
          | some p => ((match p.dst, o.dst with | some d, some d' => !(d == d') | _, _ => true) && (match p.dst with | some d => !((rs ops o).contains d) || ordered b k i | none => true)) && (!(isBar o.op) || (ordered b k i || (isSto o.op && (Nat.blt k i && floats ops k))))
          | none => true)
    | none => true
structure Dw (ops : List Oper) : Prop where
  back : ∀ (i : Nat) (o : Oper), ops[i]? = some o → ∀ e ∈ o.after, Region.binds .any e = true → e.on < i
  gd : ∀ (i : Nat) (o : Oper) j w, ops[i]? = some o → o.guard = some (j, w) → j < i
  self : ∀ (i : Nat) (o : Oper) d, ops[i]? = some o → o.dst = some d → d ∉ rs ops o
  dst : ∀ (i k : Nat) (o p : Oper), ops[i]? = some o → ops[k]? = some p → k ≠ i → ∀ d, o.dst = some d → p.dst ≠ some d
  rd : ∀ (i k : Nat) (o p : Oper), ops[i]? = some o → ops[k]? = some p → k ≠ i → ∀ d, p.dst = some d → d ∈ rs ops o → ordered (befs ops) k i = true
  bar : ∀ (i k : Nat) (o : Oper), ops[i]? = some o → k < ops.length → k ≠ i → isBar o.op = true → ordered (befs ops) k i = true ∨ (isSto o.op = true ∧ k < i ∧ floats ops k = true)
theorem drawOk_dw {ops : List Oper} (h : drawOk ops = true) : Dw ops := by
  unfold drawOk at h
  simp only [List.all_eq_true, List.mem_range] at h
  have get : ∀ i o, ops[i]? = some o → i < ops.length := fun i o ho => (List.getElem?_eq_some_iff.1 ho).1
  refine ⟨fun i o ho e he hb => ?_, fun i o j w ho hg => ?_, fun i o d ho hd => ?_, fun i k o p ho hp hne d hd hpd => ?_, fun i k o p ho hp hne d hpd hrs => ?_, fun i k o ho hk hne hbar => ?_⟩
  · have := h i (get i o ho)
    simp only [ho, Bool.and_eq_true, List.all_eq_true] at this
    have := this.1.1 e (by simpa using he)
    rw [hb] at this
    simpa using this
  · have := h i (get i o ho)
    simp only [ho, Bool.and_eq_true] at this
    have := this.1.2.1
    rw [hg] at this
    simpa using this
  · have := h i (get i o ho)
    simp only [ho, Bool.and_eq_true] at this
    have := this.1.2.2
    rw [hd] at this
    simpa using this
  · have := h i (get i o ho)
    simp only [ho, Bool.and_eq_true, List.all_eq_true, List.mem_range] at this
    have := this.2 k (get k p hp)
    simp only [hp, Bool.or_eq_true, beq_iff_eq, hne, false_or, Bool.and_eq_true] at this
    have := this.1.1
    rw [hd, hpd] at this
    simp at this
  · have := h i (get i o ho)
    simp only [ho, Bool.and_eq_true, List.all_eq_true, List.mem_range] at this
    have := this.2 k (get k p hp)
    simp only [hp, Bool.or_eq_true, beq_iff_eq, hne, false_or, Bool.and_eq_true] at this
    have := this.1.2
    rw [hpd] at this
    simpa [hrs] using this
  · have := h i (get i o ho)
    simp only [ho, Bool.and_eq_true, List.all_eq_true, List.mem_range] at this
    have := this.2 k hk
    have hp : ops[k]? = some ops[k] := List.getElem?_eq_getElem hk
    simp only [hp, Bool.or_eq_true, beq_iff_eq, hne, false_or, Bool.and_eq_true, Nat.blt_eq] at this
    simpa [hbar] using this.2

/-! ### A segment -/
def clAll : List (Nat × T) → List (Nat × T)
  | [] => []
  | (t, .gd _ _ _) :: r => (t, .plain .top) :: clAll r
  | (t, .plain x) :: r => (t, .plain x) :: clAll r
def stepD (C : Cx) (ops : List Oper) (hs : List (Nat × Hint)) (i : Nat) (s : St) (o : Oper) : Option (List Prop × Out1 × St) :=
  match step1 C ops hs i ⟨restr (rs ops o) s.tm, s.H⟩ o with
  | some r => match put1 C.n o.dst r.t r.new s with
    | some s' => some (r.obl, r, s')
    | none => none
  | none => none

/-- m operations from k0 on, as the text has them. -/
structure Seg (C : Cx) (ops : List Oper) (hs : List (Nat × Hint)) (k0 m : Nat) (op : Nat → Oper) (st : Nat → St) (out : Nat → Out1) : Prop where
  at_ : ∀ i, i < m → ops[k0 + i]? = some (op i)
  one : ∀ i, i < m → step1 C ops hs (k0 + i) ⟨restr (rs ops (op i)) (st i).tm, (st i).H⟩ (op i) = some (out i)
  obl : ∀ i, i < m → AllP (out i).obl
  put : ∀ i, i < m → put1 C.n (op i).dst (out i).t (out i).new (st i) = some (st (i + 1))
  gd0 : ∀ t d w x, lk (st 0).tm t = some (.gd d w x) → ∀ i, i < m → (op i).dst ≠ some d
  gd1 : ∀ t d w x, lk (st 0).tm t = some (.gd d w x) → ∃ (j q : Nat) (oq : Oper) (w' : Bool), dstAt ops j = some d ∧ ops[q]? = some oq ∧ oq.guard = some (j, w')
section
variable {C : Cx} {ops : List Oper} {hs : List (Nat × Hint)} {k0 m : Nat} {op : Nat → Oper} {st : Nat → St} {out : Nat → Out1}
theorem put1_tm {n : Nat} {dst : Option Tmp} {t : T} {new : List (Nat × Blk)} {s s' : St} (h : put1 n dst t new s = some s') {k : Nat} {x : T} (hk : lk s'.tm k = some x) :
    x = .plain .top ∨ (dst = some k ∧ x = t) ∨ (dst ≠ some k ∧ lk s.tm k = some x) := by
  unfold put1 at h
  split at h
  case h_2 => cases h
  rename_i tm' H' htm hH
  cases h
  cases dst with
  | none =>
    simp only [putT, Option.some.injEq] at htm
    subst htm
    exact .inr (.inr ⟨by simp, hk⟩)
  | some d =>
    simp only [putT] at htm
    split at htm
    · cases htm
      rw [lk_ins] at hk
      split at hk
      · rename_i e
        subst e
        cases hk
        exact .inr (.inl ⟨rfl, rfl⟩)
      · rename_i e
        rcases lk_clean hk with rfl | ⟨h1, _⟩
        · exact .inl rfl
        · exact .inr (.inr ⟨fun h => e (by cases h; rfl), h1⟩)
    · cases htm
theorem put1_H {n : Nat} {dst : Option Tmp} {t : T} {new : List (Nat × Blk)} {s s' : St} (h : put1 n dst t new s = some s') : insAll new s.H = some s'.H := by
  unfold put1 at h
  split at h
  case h_2 => cases h
  rename_i tm' H' htm hH
  cases h
  exact hH
theorem put1_not {n : Nat} {d : Tmp} {t : T} {new : List (Nat × Blk)} {s s' : St} (h : put1 n (some d) t new s = some s') : d < n ∧ notOn d t = true := by
  unfold put1 at h
  split at h
  case h_2 => cases h
  rename_i tm' H' htm hH
  simp only [putT] at htm
  split at htm
  · rename_i hc
    simpa using hc
  · cases htm
theorem Seg.tm (h : Seg C ops hs k0 m op st out) : ∀ i, i ≤ m → ∀ t x, lk (st i).tm t = some x → x = .plain .top ∨ (∃ j, j < i ∧ (op j).dst = some t ∧ x = (out j).t) ∨ ((∀ j, j < i → (op j).dst ≠ some t) ∧ lk (st 0).tm t = some x)
  | 0, _, t, x, hx => .inr (.inr ⟨fun j hj => by omega, hx⟩)
  | i + 1, hi, t, x, hx => by
    rcases put1_tm (h.put i (by omega)) hx with h1 | ⟨h1, h2⟩ | ⟨h1, h2⟩
    · exact .inl h1
    · exact .inr (.inl ⟨i, by omega, h1, h2⟩)
    · rcases Seg.tm h i (by omega) t x h2 with h3 | ⟨j, h3, h4⟩ | ⟨h3, h4⟩
      · exact .inl h3
      · exact .inr (.inl ⟨j, by omega, h4⟩)
      · refine .inr (.inr ⟨fun j hj => ?_, h4⟩)
        by_cases e : j = i
        · subst e; exact h1
        · exact h3 j (by omega)
theorem Seg.lkH (h : Seg C ops hs k0 m op st out) {i : Nat} (hi : i < m) (id : Nat) : lk (st (i + 1)).H id = match lk (out i).new id with | some b => some b | none => lk (st i).H id :=
  lk_insAll (put1_H (h.put i hi)) id
theorem Seg.fresh (h : Seg C ops hs k0 m op st out) {i : Nat} (hi : i < m) {id : Nat} (hn : lk (out i).new id ≠ none) : lk (st i).H id = none := insAll_fresh (put1_H (h.put i hi)) id hn
theorem Seg.grow (h : Seg C ops hs k0 m op st out) {i : Nat} : ∀ k, i ≤ k → k ≤ m → ∀ id blk, lk (st i).H id = some blk → lk (st k).H id = some blk
  | 0, h1, _, id, blk, hl => by
    obtain rfl : i = 0 := by omega
    exact hl
  | k + 1, h1, h2, id, blk, hl => by
    by_cases e : i = k + 1
    · subst e; exact hl
    · have ih := Seg.grow h k (by omega) (by omega) id blk hl
      rw [h.lkH (by omega)]
      cases hn : lk (out k).new id with
      | none => exact ih
      | some b =>
        have := h.fresh (i := k) (by omega) (id := id) (by simp [hn])
        rw [this] at ih
        cases ih
theorem Seg.H_ (h : Seg C ops hs k0 m op st out) : ∀ i, i ≤ m → ∀ id blk, lk (st i).H id = some blk → lk (st 0).H id = some blk ∨ ∃ j, j < i ∧ lk (out j).new id = some blk
  | 0, _, id, blk, hl => .inl hl
  | i + 1, hi, id, blk, hl => by
    rw [h.lkH (by omega)] at hl
    split at hl
    · rename_i b hb
      cases hl
      exact .inr ⟨i, by omega, hb⟩
    · rcases Seg.H_ h i (by omega) id blk hl with h1 | ⟨j, h1, h2⟩
      · exact .inl h1
      · exact .inr ⟨j, by omega, h2⟩
theorem Seg.small (h : Seg C ops hs k0 m op st out) {i : Nat} (hi : i < m) {id : Nat} (hb : BIG ≤ id) : lk (out i).new id = none := insAll_big (put1_H (h.put i hi)) hb
theorem Seg.big (h : Seg C ops hs k0 m op st out) {id : Nat} (hb : BIG ≤ id) : ∀ i, i ≤ m → lk (st i).H id = lk (st 0).H id
  | 0, _ => rfl
  | i + 1, hi => by
    rw [h.lkH (by omega), h.small (by omega) hb]
    exact Seg.big h hb i (by omega)
theorem Seg.newIn (h : Seg C ops hs k0 m op st out) {i : Nat} (hi : i < m) {id : Nat} {blk : Blk} (hn : lk (out i).new id = some blk) : lk (st m).H id = some blk := by
  refine h.grow m (by omega : i + 1 ≤ m) (Nat.le_refl _) id blk ?_
  rw [h.lkH hi, hn]
/-- An own number comes of one operation alone. -/
theorem Seg.uniq (h : Seg C ops hs k0 m op st out) {i j : Nat} (hi : i < m) (hj : j < m) {id : Nat} (h1 : lk (out i).new id ≠ none) (h2 : lk (out j).new id ≠ none) : i = j := by
  have key : ∀ i j, i < j → j < m → lk (out i).new id ≠ none → lk (out j).new id ≠ none → False := fun i j hij hj h1 h2 => by
    have hf := h.fresh hj h2
    obtain ⟨b, hb⟩ := Option.ne_none_iff_exists'.1 h1
    have : lk (st (i + 1)).H id = some b := by rw [h.lkH (by omega), hb]
    have := h.grow j (by omega) (by omega) id b this
    rw [hf] at this
    cases this
  rcases Nat.lt_trichotomy i j with e | e | e
  · exact (key i j e hj h1 h2).elim
  · exact e
  · exact (key j i e hi h2 h1).elim
theorem lk_clean_plain {d t : Nat} {x : V} : ∀ {tm : List (Nat × T)}, lk tm t = some (.plain x) → lk (clean d tm) t = some (.plain x)
  | [], h => by cases h
  | (k, .plain y) :: r, h => by
    simp only [clean, lk] at h ⊢
    split at h
    · rename_i e
      rw [if_pos e]
      exact h
    · rename_i e
      rw [if_neg e]
      exact lk_clean_plain h
  | (k, .gd d' w y) :: r, h => by
    simp only [clean, lk] at h ⊢
    split at h
    · cases h
    · rename_i e
      rw [if_neg e]
      exact lk_clean_plain h
theorem put1_plain {n : Nat} {dst : Option Tmp} {t : T} {new : List (Nat × Blk)} {s s' : St} (h : put1 n dst t new s = some s') {k : Nat} {x : V} (hd : dst ≠ some k) (hk : lk s.tm k = some (.plain x)) : lk s'.tm k = some (.plain x) := by
  unfold put1 at h
  split at h
  case h_2 => cases h
  rename_i tm' H' htm hH
  cases h
  cases dst with
  | none =>
    simp only [putT, Option.some.injEq] at htm
    subst htm
    exact hk
  | some d =>
    simp only [putT] at htm
    split at htm
    · cases htm
      rw [lk_ins, if_neg (fun e => hd (by rw [e]))]
      exact lk_clean_plain hk
    · cases htm
theorem put1_new {n : Nat} {d : Tmp} {t : T} {new : List (Nat × Blk)} {s s' : St} (h : put1 n (some d) t new s = some s') : lk s'.tm d = some t := by
  unfold put1 at h
  split at h
  case h_2 => cases h
  rename_i tm' H' htm hH
  cases h
  simp only [putT] at htm
  split at htm
  · cases htm
    rw [lk_ins, if_pos rfl]
  · cases htm
theorem Seg.stays (h : Seg C ops hs k0 m op st out) {i : Nat} {t : Nat} {x : V} (hx : lk (st i).tm t = some (.plain x)) : ∀ k, i ≤ k → k ≤ m → (∀ j, i ≤ j → j < k → (op j).dst ≠ some t) → lk (st k).tm t = some (.plain x)
  | 0, h1, _, _ => by
    obtain rfl : i = 0 := by omega
    exact hx
  | k + 1, h1, h2, hn => by
    by_cases e : i = k + 1
    · subst e; exact hx
    · exact put1_plain (h.put k (by omega)) (hn k (by omega) (by omega)) (Seg.stays h hx k (by omega) (by omega) (fun j a b => hn j a (by omega)))
theorem lk_restr_mem {l : List Tmp} {t : Nat} (ht : t ∈ l) : ∀ (tm : List (Nat × T)), lk (restr l tm) t = lk tm t
  | [] => rfl
  | (k, y) :: r => by
    simp only [restr]
    split
    · simp only [lk]
      rw [lk_restr_mem ht r]
    · rename_i hc
      simp only [lk]
      rw [if_neg (fun e => hc (by simp at e; subst e; simpa using ht))]
      exact lk_restr_mem ht r
/-- What has not come up, though the text is behind it. -/
structure Pend (C : Cx) (ops : List Oper) (hs : List (Nat × Hint)) (s : St) (j : Nat) (o : Oper) (d : Tmp) (r : Out1) : Prop where
  flt : Flt ops j o d
  ne : d ∉ rs ops o
  lt : d < C.n
  one : ∃ tm H, (∀ t x, lk tm t = some x → t ∈ rs ops o ∧ lk s.tm t = some x ∧ ∃ v, x = .plain v) ∧
    (∀ id blk, lk H id = some blk → lk s.H id = some blk ∧ ∃ ty t off, o.op = .load ty (.tmp t) ∧ t ∈ rs ops o ∧ lk s.tm t = some (.plain (.ptr id off))) ∧ step1 C ops hs j ⟨tm, H⟩ o = some r
  obl : AllP r.obl
  new : r.new = []
  pl : ∃ v, r.t = .plain v
  val : lk s.tm d = some r.t
theorem mem_tmpsOf {t : Tmp} : ∀ {l : List Operand}, t ∈ tmpsOf l → .tmp t ∈ l
  | [], h => by simp [tmpsOf] at h
  | .tmp q :: r, h => by
    simp only [tmpsOf, List.mem_cons] at h
    rcases h with rfl | h
    · simp
    · exact List.mem_cons_of_mem _ (mem_tmpsOf h)
  | .const _ :: r, h => by
    simp only [tmpsOf] at h
    exact List.mem_cons_of_mem _ (mem_tmpsOf h)
  | .func _ :: r, h => by
    simp only [tmpsOf] at h
    exact List.mem_cons_of_mem _ (mem_tmpsOf h)
  | .global _ :: r, h => by
    simp only [tmpsOf] at h
    exact List.mem_cons_of_mem _ (mem_tmpsOf h)
theorem tmpsOf_mem {t : Tmp} : ∀ {l : List Operand}, .tmp t ∈ l → t ∈ tmpsOf l
  | [], h => by simp at h
  | x :: r, h => by
    rcases List.mem_cons.1 h with rfl | h'
    · simp [tmpsOf]
    · have := tmpsOf_mem h'
      cases x <;> simp [tmpsOf, this]
theorem fin_new {sym : Option V} {out : Out} {r : R} (h : fin sym out = some r) : r.new = [] := by
  unfold fin at h
  split at h
  · split at h <;> (cases h; rfl)
  · cases h
theorem rds_mem {rd : Operand → Option V} : ∀ {l : List Operand} {vs : List V}, rds rd l = some vs → ∀ y, y ∈ l → ∃ v, rd y = some v
  | [], _, _, y, hy => by simp at hy
  | x :: r, vs, h, y, hy => by
    unfold rds at h
    split at h
    · rename_i v vs' h1 h2
      rcases List.mem_cons.1 hy with rfl | hy
      · exact ⟨_, h1⟩
      · exact rds_mem h2 y hy
    · cases h
/-- It looks at all its operands; makes nothing. -/
theorem pure_reads {P : Program} {tc : List (Nat × TI)} {H : List (Nat × Blk)} {sym : Option V} {cr : Option CR} {rd : Operand → Option V} {rdc : Bool → Tmp → Operand → Option V} {o : Oper} {r : R}
    (hp : pureOp o.op = true) (h : stepV P tc H sym cr rd rdc o = some r) : (∀ y, y ∈ o.op.operands.toList → ∃ v, rd y = some v) ∧ r.new = [] := by
  obtain ⟨dst, op, type, pos, after, guard⟩ := o
  cases op
  case call c =>
    obtain ⟨callee, args, tys⟩ := c
    cases callee with
    | builtin b =>
      simp only [stepV, Option.bind_eq_some_iff] at h
      obtain ⟨vs, hvs, h⟩ := h
      refine ⟨fun y hy => rds_mem hvs y (by simpa [Op.operands, Go.Call.operands] using hy), ?_⟩
      cases b <;> simp only [pureOp, Bool.false_eq_true] at hp
      · replace h : (match (generalizing := false) tys.toList, vs with | [t], [v] => fin sym (evLen tc t v) | _, _ => none) = some r := h
        split at h
        · exact fin_new h
        · cases h
      · exact fin_new h
      · exact fin_new h
    | _ => simp only [pureOp, Bool.false_eq_true] at hp
  all_goals simp only [pureOp, Bool.false_eq_true] at hp
  all_goals simp only [stepV, Option.bind_eq_some_iff] at h
  all_goals simp only [Op.operands]
  all_goals first
    | (obtain ⟨v, hv, u, hu, h⟩ := h; exact ⟨fun y hy => by simp at hy; rcases hy with rfl | rfl <;> exact ⟨_, by assumption⟩, fin_new h⟩)
    | (obtain ⟨v, hv, h⟩ := h; exact ⟨fun y hy => by simp at hy; subst hy; exact ⟨_, hv⟩, fin_new h⟩)
theorem pure_H {P : Program} {tc : List (Nat × TI)} {H : List (Nat × Blk)} {sym : Option V} {cr : Option CR} {rd : Operand → Option V} {rdc : Bool → Tmp → Operand → Option V} {o : Oper} {r : R}
    (hp : pureOp o.op = true) (h : stepV P tc H sym cr rd rdc o = some r) :
    ∃ H', (∀ id blk, lk H' id = some blk → lk H id = some blk ∧ ∃ ty y off, o.op = .load ty y ∧ rd y = some (.ptr id off)) ∧ stepV P tc H' sym cr rd rdc o = some r := by
  obtain ⟨dst, op, type, pos, after, guard⟩ := o
  cases op
  case call c =>
    obtain ⟨callee, args, tys⟩ := c
    cases callee with
    | builtin b => exact ⟨[], fun i b hl => (by cases hl), h⟩
    | _ => simp only [pureOp, Bool.false_eq_true] at hp
  all_goals simp only [pureOp, Bool.false_eq_true] at hp
  case load ty y =>
    simp only [stepV, Option.bind_eq_some_iff] at h
    obtain ⟨v, hv, h⟩ := h
    by_cases hptr : ∃ id off, v = .ptr id off
    · obtain ⟨id, off, rfl⟩ := hptr
      cases hb : lk H id with
      | none =>
        exfalso
        unfold evLoad at h
        simp only [hb] at h
        split at h
        · split at h <;> simp [fin] at h
        · simp [fin] at h
      | some blk =>
        refine ⟨[(id, blk)], fun i b hl => ?_, ?_⟩
        · simp only [lk] at hl
          split at hl
          · rename_i e
            simp at e
            subst e
            cases hl
            exact ⟨hb, ty, y, off, rfl, hv⟩
          · cases hl
        · simp only [stepV, hv, Option.bind_some]
          have e : evLoad tc [(id, blk)] sym.isSome ty (.ptr id off) = evLoad tc H sym.isSome ty (.ptr id off) := by
            unfold evLoad
            simp [hb, lk]
          rw [e]
          exact h
    · refine ⟨[], fun i b hl => (by cases hl), ?_⟩
      simp only [stepV, hv, Option.bind_some]
      have e : evLoad tc [] sym.isSome ty v = evLoad tc H sym.isSome ty v := by
        unfold evLoad
        cases v with
        | ptr id off => exact absurd ⟨_, _, rfl⟩ hptr
        | _ => rfl
      rw [e]
      exact h
  all_goals exact ⟨[], fun i b hl => (by cases hl), h⟩
theorem Flt.rs_ {i : Nat} {o : Oper} {d : Tmp} (hf : Flt ops i o d) {t : Tmp} : t ∈ rs ops o ↔ .tmp t ∈ o.op.operands.toList := by
  unfold rs
  rw [hf.guard]
  simp only [List.append_nil]
  exact ⟨mem_tmpsOf, tmpsOf_mem⟩
theorem flt_step1 {i : Nat} {o : Oper} {d : Tmp} (hf : Flt ops i o d) {tm : List (Nat × T)} {H : List (Nat × Blk)} {r : Out1} (h : step1 C ops hs i ⟨restr (rs ops o) tm, H⟩ o = some r) :
    (∃ tm1 H1, (∀ t x, lk tm1 t = some x → t ∈ rs ops o ∧ lk tm t = some x ∧ ∃ v, x = .plain v) ∧
      (∀ id blk, lk H1 id = some blk → lk H id = some blk ∧ ∃ ty t off, o.op = .load ty (.tmp t) ∧ t ∈ rs ops o ∧ lk tm t = some (.plain (.ptr id off))) ∧ step1 C ops hs i ⟨tm1, H1⟩ o = some r) ∧ r.new = [] ∧ ∃ v, r.t = .plain v := by
  unfold step1 at h
  rw [hf.guard] at h
  simp only at h
  split at h
  case h_2 => cases h
  rename_i r0 hr0
  cases h
  obtain ⟨hreads, hnew⟩ := pure_reads hf.op hr0
  obtain ⟨H', hH', hst⟩ := pure_H hf.op hr0
  have hplain : ∀ t v, rdA (restr (rs ops o) tm) [] (.tmp t) = some v → lk (restr (rs ops o) tm) t = some (.plain v) := fun t v hv => by
    simp only [rdA, rdT] at hv
    split at hv
    · rename_i z hz
      cases hv
      exact hz
    · simp [hasP] at hv
    · cases hv
  refine ⟨⟨restr (rs ops o) tm, H', fun t x hx => ?_, fun id blk hl => ?_, ?_⟩, hnew, _, rfl⟩
  · obtain ⟨h1, h2⟩ := lk_restr hx
    obtain ⟨v, hv⟩ := hreads _ (hf.rs_.1 h1)
    have := hplain t v hv
    rw [this] at hx
    cases hx
    exact ⟨h1, h2, _, rfl⟩
  · obtain ⟨q1, ty, y, off, q2, q3⟩ := hH' id blk hl
    refine ⟨q1, ?_⟩
    cases y with
    | tmp t =>
      have := hplain t _ q3
      obtain ⟨h1, h2⟩ := lk_restr this
      exact ⟨ty, t, off, q2, h1, h2⟩
    | const v =>
      simp only [rdA] at q3
      split at q3 <;> cases q3
    | func f => cases q3
    | global g =>
      simp only [rdA, Option.map_eq_some_iff] at q3
      obtain ⟨_, _, q4⟩ := q3
      cases q4
  · unfold step1
    rw [hf.guard]
    simp only
    rw [hst]
end
end Go.Ab
