/- A segment, in whatever order its operations come up. -/
import Derived.Test.YtcekfepgdfcinaaGreatDoorAb11
import Derived.Test.YtcekfepgdfcinaaGreatDoorWr
import Derived.Orders
set_option linter.unusedSimpArgs false
set_option linter.unusedVariables false
namespace Go.Ab
open Go.RowKit

def clean (d : Tmp) : List (Nat × T) → List (Nat × T)
  | [] => []
  | (t, .gd d' w x) :: r => (t, if d' == d then .plain .top else .gd d' w x) :: clean d r
  | (t, .plain x) :: r => (t, .plain x) :: clean d r
def notOn (d : Tmp) : T → Bool
  | .gd d' _ _ => !(d' == d)
  | .plain _ => true
def putT (n : Nat) (dst : Option Tmp) (t : T) (tm : List (Nat × T)) : Option (List (Nat × T)) :=
  match dst with
  | none => some tm
  | some d => if Nat.blt d n && notOn d t then some (ins d t (clean d tm)) else none
def insAll : List (Nat × Blk) → List (Nat × Blk) → Option (List (Nat × Blk))
  | [], H => some H
  | (id, b) :: r, H => match lk H id, insAll r H with
    | none, some H' => if (lk r id).isNone && Nat.blt id BIG then some (ins id b H') else none
    | _, _ => none
def put1 (n : Nat) (dst : Option Tmp) (t : T) (new : List (Nat × Blk)) (s : St) : Option St :=
  match putT n dst t s.tm, insAll new s.H with
  | some tm, some H => some ⟨tm, H⟩
  | _, _ => none

/-- What was true when the call began, and what is asked of its blocks. -/
structure Gl where
  X : Nat → Prop
  φ0 : Phi
  w0 : World
  gok : GOk (Imm φ0 X w0) w0
  ds : List Deferred
  w1 : World
  rd : Option Nat
  hrd : ∀ l, rd = some l → X l ∧ ∃ r, w1.heap[l]? = some (.loop r)
/-- What is nobody's here: it lies as it lay. -/
def XOk (G : Gl) (w : World) : Prop := (∀ b, G.X b → b < G.w1.heap.size) ∧ G.w1.heap.size ≤ w.heap.size ∧ ∀ b, G.X b → w.heap[b]? = G.w1.heap[b]?
theorem XOk.lt {G : Gl} {w : World} (h : XOk G w) : ∀ b, G.X b → b < w.heap.size := fun b hb => Nat.lt_of_lt_of_le (h.1 b hb) h.2.1
theorem XOk.to {G : Gl} {w w' : World} (h : XOk G w) (hs : w.heap.size ≤ w'.heap.size) (hb : ∀ b, G.X b → w'.heap[b]? = w.heap[b]?) : XOk G w' :=
  ⟨h.1, Nat.le_trans h.2.1 hs, fun b hx => (hb b hx).trans (h.2.2 b hx)⟩
theorem XOk.gr {G : Gl} {w w' : World} {φ φ' : Phi} {new : List (Nat × Blk)} (h : XOk G w) (hg : Gr φ w φ' w' new) : XOk G w' :=
  h.to hg.size fun b hb => hg.block b (h.lt b hb)
/-- What was there, is not lent, and is not nobody's, is as it was. -/
structure FrmX (G : Gl) (w : World) : Prop where
  os : w.os = G.w0.os
  tape : w.tape = G.w0.tape
  output : w.output = G.w0.output
  size : G.w0.heap.size ≤ w.heap.size
  block : ∀ b, b < G.w0.heap.size → (∀ id c, G.φ0 id ≠ .at b c) → ¬ G.X b → w.heap[b]? = G.w0.heap[b]?
structure Inv (C : Cx) (G : Gl) (s : St) (φ : Phi) (a : Act) (w : World) : Prop where
  size : a.tmps.size = C.n
  defers : a.defers = G.ds
  tm : TmRel (Imm φ G.X w) w φ s.tm a
  hr : HR (Imm φ G.X w) w φ s.H
  ok : Phi.ok φ G.X w s.H
  x : XOk G w
  frm : FrmX G w
  own : ∀ id b c, φ id = .at b c → (∃ id0 c0, G.φ0 id0 = .at b c0) ∨ G.w0.heap.size ≤ b
  fix : ∀ id, BIG ≤ id → stayS id (G.φ0 id) → φ id = G.φ0 id ∨ lk s.H id = none
theorem gok_of {G : Gl} {φ : Phi} {w : World} (frm : FrmX G w) (own : ∀ id b c, φ id = .at b c → (∃ id0 c0, G.φ0 id0 = .at b c0) ∨ G.w0.heap.size ≤ b) : GOk (Imm φ G.X w) w :=
  G.gok.mono fun b hb => ⟨⟨Nat.lt_of_lt_of_le hb.1 frm.size, fun id c h => by
    rcases own id b c h with ⟨id0, c0, h0⟩ | h0
    · exact hb.2.1 _ _ h0
    · have := hb.1
      omega, hb.2.2⟩, frm.block b hb.1 (fun id c h => hb.2.1 id c h) hb.2.2⟩
theorem Inv.gok {C : Cx} {G : Gl} {s : St} {φ : Phi} {a : Act} {w : World} (hI : Inv C G s φ a w) : GOk (Imm φ G.X w) w := gok_of hI.frm hI.own

section
variable {I : Nat → Prop} {P : Program} {w w' : World} {φ φ' : Phi} {X : Nat → Prop} {tm : List (Nat × T)} {H : List (Nat × Blk)} {a : Act} {C : Cx} {G : Gl} {s s' : St}

theorem lk_clean {d t : Nat} {x : T} : ∀ {tm : List (Nat × T)}, lk (clean d tm) t = some x → x = .plain .top ∨ (lk tm t = some x ∧ notOn d x = true)
  | [], h => by cases h
  | (k, .plain y) :: r, h => by
    simp only [clean, lk] at h ⊢
    split at h
    · rename_i e
      rw [if_pos e]
      cases h
      exact .inr ⟨rfl, rfl⟩
    · rename_i e
      rw [if_neg e]
      exact lk_clean h
  | (k, .gd d' w y) :: r, h => by
    simp only [clean, lk] at h ⊢
    split at h
    · rename_i e
      rw [if_pos e]
      split at h
      · cases h
        exact .inl rfl
      · rename_i e2
        cases h
        exact .inr ⟨rfl, by simpa [notOn] using e2⟩
    · rename_i e
      rw [if_neg e]
      exact lk_clean h

theorem put_getD (a : Act) (d : Tmp) (u : Value) (t : Tmp) (hd : d < a.tmps.size) : (a.put (some d) u).tmps.getD t undef = if t = d then u else a.tmps.getD t undef := by
  simp only [Act.put, Array.getD_eq_getD_getElem?, Array.getElem?_setIfInBounds]
  by_cases h : t = d
  · subst h
    simp [hd]
  · simp [h, show ¬ d = t from fun e => h e.symm]
theorem lk_insAll : ∀ {new H H' : List (Nat × Blk)}, insAll new H = some H' → ∀ id, lk H' id = match lk new id with | some b => some b | none => lk H id
  | [], H, H', h, id => by cases h; rfl
  | (i, b) :: r, H, H', h, id => by
    unfold insAll at h
    split at h
    · rename_i H1 hl hr
      split at h
      · cases h
        rw [lk_ins, lk_insAll hr]
        simp only [lk, beq_iff_eq]
        by_cases e : id = i
        · simp [e]
        · rw [if_neg e, if_neg e]
      · cases h
    · cases h
theorem insAll_fresh : ∀ {new H H' : List (Nat × Blk)}, insAll new H = some H' → ∀ id, lk new id ≠ none → lk H id = none
  | [], H, H', h, id, hn => absurd rfl hn
  | (i, b) :: r, H, H', h, id, hn => by
    unfold insAll at h
    split at h
    · rename_i H1 hl hr
      split at h
      · simp only [lk, beq_iff_eq] at hn
        by_cases e : id = i
        · subst e; exact hl
        · rw [if_neg e] at hn
          exact insAll_fresh hr id hn
      · cases h
    · cases h

theorem insAll_small : ∀ {new H H' : List (Nat × Blk)}, insAll new H = some H' → ∀ id, lk new id ≠ none → id < BIG
  | [], H, H', h, id, hn => absurd rfl hn
  | (i, b) :: r, H, H', h, id, hn => by
    unfold insAll at h
    split at h
    · rename_i H1 hl hr
      split at h
      · rename_i hc
        simp only [lk, beq_iff_eq] at hn
        by_cases e : id = i
        · subst e
          simp only [Bool.and_eq_true, Nat.blt_eq] at hc
          exact hc.2
        · rw [if_neg e] at hn
          exact insAll_small hr id hn
      · cases h
    · cases h
theorem insAll_big {new H H' : List (Nat × Blk)} (h : insAll new H = some H') {id : Nat} (hb : BIG ≤ id) : lk new id = none := by
  cases hn : lk new id with
  | none => rfl
  | some b =>
    have := insAll_small h id (by rw [hn]; simp)
    omega
/-- The new state stands, memory having grown. -/
theorem Inv.put (hI : Inv C G s φ a w) {dst : Option Tmp} {t : T} {new : List (Nat × Blk)} (h : put1 C.n dst t new s = some s') {u : Value} (hg : Gr φ w φ' w' new)
    (ht : ∀ tmps : Array Value, (∀ d want x, t = .gd d want x → tmps.getD d undef = a.tmps.getD d undef) → ∀ k, tmps.getD k undef = u → TRel (Imm φ' G.X w') w' φ' tmps k t)
    (hb : ∀ id blk, lk new id = some blk → BlkRel (Imm φ' G.X w') w' φ' (φ' id) blk) : Inv C G s' φ' (a.put dst u) w' := by
  unfold put1 at h
  split at h
  case h_2 => cases h
  rename_i tm' H' htm hH
  cases h
  have hfr : ∀ id, lk new id ≠ none → φ id = .none := fun id hid => hI.ok.dom id (insAll_fresh hH id hid)
  have hx := hg.xt (X := G.X) hfr
  have hlt : ∀ id b c, φ id = .at b c → w'.heap[b]? = w.heap[b]? := fun id b c hs => hg.block b (hI.ok.lt id b c hs)
  -- a slot that is not written reads as it did
  have old : ∀ k x, lk s.tm k = some x → ∀ tmps : Array Value, tmps.getD k undef = a.tmps.getD k undef → (∀ d want y, x = .gd d want y → tmps.getD d undef = a.tmps.getD d undef) → TRel (Imm φ' G.X w') w' φ' tmps k x := fun k x hk tmps h1 h2 => by
    have := hI.tm k x hk
    cases x with
    | plain y =>
      show Rel _ _ _ _ _
      rw [h1]
      exact Rel.xt this hx
    | gd d want y =>
      have h3 := h2 d want y rfl
      refine ⟨fun e => ?_, fun e => ?_⟩
      · rw [h1]
        exact Rel.xt (this.1 (h3.symm.trans e)) hx
      · rw [h1]
        exact this.2 (fun e' => e (h3.trans e'))
  refine ⟨?_, ?_, ?_, ?_, ?_, hI.x.gr hg, ?_, ?_, fun id hid h0 => ?_⟩
  rotate_right
  · have hn := insAll_big hH hid
    rw [hg.old id hn, lk_insAll hH, hn]
    exact hI.fix id hid h0
  · cases dst <;> simp [Act.put, hI.size]
  · cases dst <;> simp [Act.put, hI.defers]
  · cases dst with
    | none =>
      simp only [putT, Option.some.injEq] at htm
      subst htm
      exact fun k x hk => old k x hk _ rfl (fun _ _ _ _ => rfl)
    | some d =>
      simp only [putT] at htm
      split at htm
      · rename_i hc
        cases htm
        simp only [Bool.and_eq_true] at hc
        have hd : d < a.tmps.size := by rw [hI.size]; simpa using hc.1
        intro k x hk
        rw [lk_ins] at hk
        split at hk
        · rename_i e
          subst e
          cases hk
          refine ht _ (fun d' want y e => ?_) _ (by rw [put_getD a k u k hd, if_pos rfl])
          subst e
          have : ¬ d' = k := by simpa [notOn] using hc.2
          rw [put_getD a k u d' hd, if_neg this]
        · rename_i e
          rcases lk_clean hk with rfl | ⟨hk', hno⟩
          · exact Rel.top
          · refine old k x hk' _ (by rw [put_getD a d u k hd, if_neg e]) (fun d' want y e' => ?_)
            subst e'
            have : ¬ d' = d := by simpa [notOn] using hno
            rw [put_getD a d u d' hd, if_neg this]
      · cases htm
  · intro id blk hl
    rw [lk_insAll hH] at hl
    split at hl
    · rename_i b hn
      cases hl
      exact hb id _ hn
    · rename_i hn
      rw [hg.old id hn]
      exact (hI.hr id blk hl).mono hx.im (fun b c hs => hlt id b c hs) hx.at_ hx.nil_
  · refine ⟨fun i j b c c' hi hj => ?_, fun i b c hi => ?_, fun i b c hi => ?_, fun i hi => ?_⟩
    · by_cases h1 : lk new i = none <;> by_cases h2 : lk new j = none
      · rw [hg.old i h1] at hi
        rw [hg.old j h2] at hj
        exact hI.ok.inj _ _ _ _ _ hi hj
      · rw [hg.old i h1] at hi
        have := hI.ok.lt _ _ _ hi
        have := (hg.fresh j b c' h2 hj).1
        omega
      · rw [hg.old j h2] at hj
        have := hI.ok.lt _ _ _ hj
        have := (hg.fresh i b c h1 hi).1
        omega
      · exact hg.inj _ _ _ _ _ h1 h2 hi hj
    · by_cases h1 : lk new i = none
      · rw [hg.old i h1] at hi
        exact Nat.lt_of_lt_of_le (hI.ok.lt _ _ _ hi) hg.size
      · exact (hg.fresh i b c h1 hi).2
    · by_cases h1 : lk new i = none
      · rw [hg.old i h1] at hi
        exact hI.ok.free _ _ _ hi
      · intro hX
        have := (hg.fresh i b c h1 hi).1
        have := hI.x.lt b hX
        have := hI.frm.size
        omega
    · rw [lk_insAll hH] at hi
      split at hi
      · cases hi
      · rename_i hn
        rw [hg.old i hn]
        exact hI.ok.dom i hi
  · exact ⟨hg.os.trans hI.frm.os, hg.tape.trans hI.frm.tape, hg.output.trans hI.frm.output, Nat.le_trans hI.frm.size hg.size, fun b hb h0 hx => (hg.block b (Nat.lt_of_lt_of_le hb hI.frm.size)).trans (hI.frm.block b hb h0 hx)⟩
  · intro id b c hs
    by_cases h1 : lk new id = none
    · rw [hg.old id h1] at hs
      exact hI.own id b c hs
    · have := (hg.fresh id b c h1 hs).1
      have := hI.frm.size
      exact .inr (by omega)
end
end Go.Ab

set_option linter.unusedSimpArgs false
set_option linter.unusedVariables false
namespace Go.Ab
open Go.RowKit

def isBar : Op → Bool
  | .store _ _ _ => true
  | .call { callee := .builtin .append, .. } => true
  | .call { callee := .builtin .copy, .. } => true
  | .call { callee := .builtin .clear, .. } => true
  | .call { callee := .builtin .delete, .. } => true
  | .mapUpdate _ _ _ _ => true
  | .insert _ _ _ _ => true
  | .convert s t _ => Nat.beq s t
  | .call { callee := .value (.func f), .. } => wrF.contains f
  | .call { callee := .value (.tmp _), .. } => true
  | _ => false
def isSto : Op → Bool
  | .store _ _ _ => true
  | _ => false
def isApp : Op → Bool
  | .call { callee := .builtin .append, .. } => true
  | _ => false
def isCal : Op → Bool
  | .call { callee := .value _, .. } => true
  | _ => false
/-- What others need not wait for: a store, an append, a call. -/
def isFl (o : Oper) : Bool := isSto o.op || (isApp o.op || isCal o.op)
/-- The slots that an operation may look at. -/
def gch (ops : List Oper) : Nat → Nat → List Tmp
  | 0, _ => []
  | n + 1, j => match ops[j]? with
    | some o => o.dst.toList ++ (match o.guard with | some (k, _) => gch ops n k | none => [])
    | none => []
def tmpsOf : List Operand → List Tmp
  | [] => []
  | .tmp t :: r => t :: tmpsOf r
  | _ :: r => tmpsOf r
def rs (ops : List Oper) (o : Oper) : List Tmp :=
  tmpsOf o.op.operands.toList ++ (match o.guard with | some (j, _) => gch ops 20 j | none => [])
def restr (l : List Tmp) : List (Nat × T) → List (Nat × T)
  | [] => []
  | (t, x) :: r => if l.contains t then (t, x) :: restr l r else restr l r
theorem lk_restr {l : List Tmp} {t : Nat} {x : T} : ∀ {tm : List (Nat × T)}, lk (restr l tm) t = some x → t ∈ l ∧ lk tm t = some x
  | [], h => by cases h
  | (k, y) :: r, h => by
    simp only [restr] at h
    split at h
    · rename_i hc
      simp only [lk] at h ⊢
      split at h
      · rename_i e
        rw [if_pos e]
        simp at e
        subst e
        exact ⟨by simpa using hc, h⟩
      · rename_i e
        rw [if_neg e]
        exact lk_restr h
    · rename_i hc
      have := lk_restr h
      refine ⟨this.1, ?_⟩
      simp only [lk]
      rw [if_neg]
      · exact this.2
      · intro e
        simp at e
        subst e
        exact hc (by simpa using this.1)

/-- What each operation waits for, through others too. -/
def befL : List Nat → List Oper → List Nat
  | acc, [] => acc
  | acc, o :: r => befL (acc ++ [o.after.toList.foldl (fun s e => if Region.binds .any e then s ||| 2 ^ e.on ||| acc.getD e.on 0 else s) 0]) r

/-- All that has come up had come up what it waits for. -/
def DC (ops : List Oper) (L : Nat → Bool) : Prop := ∀ i o, L i = true → ops[i]? = some o → ∀ e ∈ o.after, Region.binds .any e = true → L e.on = true
theorem fold_bit (acc : List Nat) (j : Nat) : ∀ (es : List Edge) (s : Nat), (es.foldl (fun s e => if Region.binds .any e then s ||| 2 ^ e.on ||| acc.getD e.on 0 else s) s).testBit j = true →
    s.testBit j = true ∨ ∃ e ∈ es, Region.binds .any e = true ∧ (j = e.on ∨ (acc.getD e.on 0).testBit j = true)
  | [], s, h => .inl h
  | e :: es, s, h => by
    rcases fold_bit acc j es _ h with h1 | ⟨e', he, hb, h1⟩
    · dsimp only at h1
      split at h1
      · rename_i hb
        simp only [Nat.testBit_or, Bool.or_eq_true] at h1
        rcases h1 with (h1 | h1) | h1
        · exact .inl h1
        · rw [Nat.testBit_two_pow] at h1
          exact .inr ⟨e, by simp, hb, .inl (by have := of_decide_eq_true h1; exact this.symm)⟩
        · exact .inr ⟨e, by simp, hb, .inr h1⟩
      · exact .inl h1
    · exact .inr ⟨e', by simp [he], hb, h1⟩
def BefOk (ops : List Oper) (b : List Nat) : Prop := ∀ i j, (b.getD i 0).testBit j = true → ∀ L, DC ops L → (∃ o, ops[i]? = some o ∧ ∀ e ∈ o.after, Region.binds .any e = true → L e.on = true) → L j = true
theorem befL_ok (ops : List Oper) : ∀ (r : List Oper) (acc : List Nat), acc.length ≤ ops.length → r = ops.drop acc.length → BefOk ops acc → BefOk ops (befL acc r)
  | [], acc, _, _, h => h
  | o :: r, acc, hl, hr, h => by
    simp only [befL]
    have ho : ops[acc.length]? = some o := by
      have : (ops.drop acc.length)[0]? = some o := by rw [← hr]; rfl
      simpa using this
    have hlt : acc.length < ops.length := (List.getElem?_eq_some_iff.1 ho).1
    refine befL_ok ops r _ (by simp; omega) ?_ ?_
    · have := congrArg (List.drop 1) hr
      simpa using this
    · intro i j hb L hL hi
      by_cases hil : i < acc.length
      · rw [List.getD_eq_getElem?_getD, List.getElem?_append_left hil] at hb
        exact h i j (by rw [List.getD_eq_getElem?_getD]; exact hb) L hL hi
      · by_cases hie : i = acc.length
        · subst hie
          rw [List.getD_eq_getElem?_getD, List.getElem?_append_right (Nat.le_refl _)] at hb
          simp only [Nat.sub_self, List.getElem?_cons_zero, Option.getD_some] at hb
          rcases fold_bit acc j _ _ hb with h0 | ⟨e, he, hbe, h1⟩
          · simp at h0
          · obtain ⟨o', ho', hall⟩ := hi
            rw [ho] at ho'
            cases ho'
            have hLe := hall e (by simpa using he) hbe
            rcases h1 with rfl | h1
            · exact hLe
            · refine h e.on j h1 L hL ?_
              have hea : e.on < ops.length := by
                refine Classical.byContradiction fun hc => ?_
                rw [List.getD_eq_getElem?_getD, List.getElem?_eq_none (by omega)] at h1
                simp at h1
              exact ⟨ops[e.on], List.getElem?_eq_getElem hea, fun e' he' hb' => hL e.on _ hLe (List.getElem?_eq_getElem hea) e' he' hb'⟩
        · rw [List.getD_eq_getElem?_getD, List.getElem?_eq_none (by simp; omega)] at hb
          simp at hb
def befs (ops : List Oper) : List Nat := befL [] ops
theorem befs_ok (ops : List Oper) : BefOk ops (befs ops) := befL_ok ops ops [] (Nat.zero_le _) rfl (fun i j h => by simp at h)

def dstAt (ops : List Oper) (i : Nat) : Option Tmp := (ops[i]?).bind (·.dst)
def ordered (b : List Nat) (k i : Nat) : Bool := if Nat.blt k i then (b.getD i 0).testBit k else (b.getD k 0).testBit i
/-- Through what it looks into memory. -/
def looks : Op → Option Operand
  | .load _ x => some x
  | .slice _ x _ _ none => some x
  | _ => none
def leadTo : V → Option Nat
  | .ptr id _ => some id
  | .sl id _ _ => some id
  | _ => none
/-- The slots of which a store must know where they lead. -/
def lateSl (o : Oper) : List Tmp :=
  (match looks o.op with | some (.tmp t) => [t] | _ => []) ++ (match o.op with | .buildSlice _ _ _ => o.dst.toList | .alloc _ => o.dst.toList | _ => [])
/-- What writes no block (it may make one, of its slot's number). -/
def pureOp : Op → Bool
  | .build _ _ => true
  | .buildSlice _ _ _ => true
  | .alloc _ => true
  | .slice _ _ _ _ none => true
  | .extract _ _ => true
  | .convert _ _ _ => true
  | .binOp _ _ _ _ _ => true
  | .unOp _ _ _ => true
  | .move _ => true
  | .fieldAddr _ _ _ => true
  | .field _ _ _ => true
  | .indexAddr _ _ _ => true
  | .index _ _ _ => true
  | .load _ _ => true
  | .nilCheck _ => true
  | .call c => match c.callee with
    | .builtin .max => true
    | .builtin .min => true
    | .builtin .len => match c.argTypes.toList with
      | [t] => !(mpT.contains t)
      | _ => true
    | _ => false
  | _ => false
/-- A store need not wait for it. -/
def floats (ops : List Oper) (i : Nat) : Bool :=
  match ops[i]? with
  | some o => match o.dst with
    | some _ => pureOp o.op && (List.range ops.length).all fun k => match ops[k]? with
      | some p => (match p.guard with | some (j, _) => !(j == i) | none => true) && (!Nat.blt i k || (match p.dst with | some d' => !((rs ops o).contains d') | none => true))
      | none => true
    | _ => false
  | none => false
structure Flt (ops : List Oper) (i : Nat) (o : Oper) (d : Tmp) : Prop where
  at_ : ops[i]? = some o
  dst : o.dst = some d
  op : pureOp o.op = true
  last : ∀ (k : Nat) (p : Oper), i < k → ops[k]? = some p → ∀ t, t ∈ rs ops o → p.dst ≠ some t
  ng : ∀ (k : Nat) (p : Oper) (w : Bool), ops[k]? = some p → p.guard ≠ some (i, w)
theorem floats_flt {ops : List Oper} {i : Nat} (h : floats ops i = true) : ∃ o d, Flt ops i o d := by
  unfold floats at h
  split at h
  · rename_i o ho
    split at h
    · rename_i d hd
      simp only [Bool.and_eq_true, List.all_eq_true, List.mem_range] at h
      obtain ⟨hop, h⟩ := h
      refine ⟨o, d, ho, hd, hop, fun k p hk hp t ht e => ?_, fun k p w hp e => ?_⟩
      · have := h k (List.getElem?_eq_some_iff.1 hp).1
        have hb : Nat.blt i k = true := by rw [Nat.blt_eq]; exact hk
        simp [hp, hb, e] at this
        exact this.2 ht
      · have := h k (List.getElem?_eq_some_iff.1 hp).1
        simp [hp, e] at this
    · cases h
  · cases h
/-- The slots whose blocks are loaded from, by what need not come up ahead of the i-th. -/
def lateLds (ops : List Oper) (i : Nat) : List Tmp :=
  (List.range i).flatMap fun k => match ops[k]? with
    | some o => match floats ops k && !(ordered (befs ops) k i) with
      | true => lateSl o
      | false => []
    | none => []
/-- Is there something that need not come up ahead of the i-th? -/
def lateAny (ops : List Oper) (i : Nat) : Bool := (List.range i).any fun k => floats ops k && !(ordered (befs ops) k i)
/-- A test must be known where what hangs on it comes up late. -/
def lateG (ops : List Oper) (i : Nat) : Bool := match ops[i]? with
  | some o => o.guard.isSome && (floats ops i && (List.range ops.length).any fun k => Nat.blt i k && !(ordered (befs ops) i k) && (match ops[k]? with | some p => isBar p.op | none => false))
  | none => false
theorem lateG_true {ops : List Oper} {i k : Nat} {o p : Oper} (ho : ops[i]? = some o) (hg : o.guard ≠ none) (hf : floats ops i = true) (hk : i < k) (hp : ops[k]? = some p) (hb : isBar p.op = true) (hn : ordered (befs ops) i k = false) : lateG ops i = true := by
  have hklt := (List.getElem?_eq_some_iff.1 hp).1
  unfold lateG
  simp only [ho, hf, Bool.true_and, Bool.and_eq_true, Option.isSome_iff_ne_none]
  refine ⟨hg, List.any_eq_true.2 ⟨k, List.mem_range.2 hklt, ?_⟩⟩
  have hb2 : Nat.blt i k = true := by rw [Nat.blt_eq]; exact hk
  simp [hb2, hn, hp, hb]
def noLate (ops : List Oper) : Bool := (List.range ops.length).all fun i => !(lateG ops i) && match ops[i]? with
  | some o => !(isBar o.op) || (match isSto o.op with | false => !(lateAny ops i) | true => (lateLds ops i).isEmpty)
  | none => true
theorem lateAny_true {ops : List Oper} {i k : Nat} (hk : k < i) (hf : floats ops k = true) (hn : ordered (befs ops) k i = false) : lateAny ops i = true := by
  unfold lateAny
  exact List.any_eq_true.2 ⟨k, List.mem_range.2 hk, by simp [hf, hn]⟩
theorem lateLds_mem {ops : List Oper} {i k : Nat} {o : Oper} {t : Tmp} (hk : k < i) (ho : ops[k]? = some o) (hop : t ∈ lateSl o) (hf : floats ops k = true) (hn : ordered (befs ops) k i = false) : t ∈ lateLds ops i := by
  unfold lateLds
  refine List.mem_flatMap.2 ⟨k, List.mem_range.2 hk, ?_⟩
  simp [ho, hop, hf, hn]
/-- May the order be let go? -/
def drawOk (ops : List Oper) : Bool :=
  let b := befs ops
  let n := ops.length
  (List.range n).all fun i => match ops[i]? with
    | some o => ((o.after.toList.all fun e => !Region.binds .any e || Nat.blt e.on i) && ((match o.guard with | some (j, _) => Nat.blt j i | none => true) && (match o.dst with | some d => !((rs ops o).contains d) | none => true))) &&
        ((List.range n).all fun k => k == i || match ops[k]? with
          | some p => ((match p.dst, o.dst with | some d, some d' => !(d == d') | _, _ => true) && (match p.dst with | some d => !((rs ops o).contains d) || ordered b k i | none => true)) && (!(isBar o.op) || (ordered b k i || (isFl o && (Nat.blt k i && floats ops k))))
          | none => true)
    | none => true
structure Dw (ops : List Oper) : Prop where
  back : ∀ (i : Nat) (o : Oper), ops[i]? = some o → ∀ e ∈ o.after, Region.binds .any e = true → e.on < i
  gd : ∀ (i : Nat) (o : Oper) j w, ops[i]? = some o → o.guard = some (j, w) → j < i
  self : ∀ (i : Nat) (o : Oper) d, ops[i]? = some o → o.dst = some d → d ∉ rs ops o
  dst : ∀ (i k : Nat) (o p : Oper), ops[i]? = some o → ops[k]? = some p → k ≠ i → ∀ d, o.dst = some d → p.dst ≠ some d
  rd : ∀ (i k : Nat) (o p : Oper), ops[i]? = some o → ops[k]? = some p → k ≠ i → ∀ d, p.dst = some d → d ∈ rs ops o → ordered (befs ops) k i = true
  bar : ∀ (i k : Nat) (o : Oper), ops[i]? = some o → k < ops.length → k ≠ i → isBar o.op = true → ordered (befs ops) k i = true ∨ (isFl o = true ∧ k < i ∧ floats ops k = true)
theorem drawOk_dw {ops : List Oper} (h : drawOk ops = true) : Dw ops := by
  unfold drawOk at h
  simp only [List.all_eq_true, List.mem_range] at h
  have get : ∀ i o, ops[i]? = some o → i < ops.length := fun i o ho => (List.getElem?_eq_some_iff.1 ho).1
  refine ⟨fun i o ho e he hb => ?_, fun i o j w ho hg => ?_, fun i o d ho hd => ?_, fun i k o p ho hp hne d hd hpd => ?_, fun i k o p ho hp hne d hpd hrs => ?_, fun i k o ho hk hne hbar => ?_⟩
  · have := h i (get i o ho)
    simp only [ho, Bool.and_eq_true, List.all_eq_true] at this
    have := this.1.1 e (by simpa using he)
    rw [hb] at this
    simpa using this
  · have := h i (get i o ho)
    simp only [ho, Bool.and_eq_true] at this
    have := this.1.2.1
    rw [hg] at this
    simpa using this
  · have := h i (get i o ho)
    simp only [ho, Bool.and_eq_true] at this
    have := this.1.2.2
    rw [hd] at this
    simpa using this
  · have := h i (get i o ho)
    simp only [ho, Bool.and_eq_true, List.all_eq_true, List.mem_range] at this
    have := this.2 k (get k p hp)
    simp only [hp, Bool.or_eq_true, beq_iff_eq, hne, false_or, Bool.and_eq_true] at this
    have := this.1.1
    rw [hd, hpd] at this
    simp at this
  · have := h i (get i o ho)
    simp only [ho, Bool.and_eq_true, List.all_eq_true, List.mem_range] at this
    have := this.2 k (get k p hp)
    simp only [hp, Bool.or_eq_true, beq_iff_eq, hne, false_or, Bool.and_eq_true] at this
    have := this.1.2
    rw [hpd] at this
    simpa [hrs] using this
  · have := h i (get i o ho)
    simp only [ho, Bool.and_eq_true, List.all_eq_true, List.mem_range] at this
    have := this.2 k hk
    have hp : ops[k]? = some ops[k] := List.getElem?_eq_getElem hk
    simp only [hp, Bool.or_eq_true, beq_iff_eq, hne, false_or, Bool.and_eq_true, Nat.blt_eq] at this
    simpa [hbar] using this.2

/-! ### A segment -/
def clAll : List (Nat × T) → List (Nat × T)
  | [] => []
  | (t, .gd _ _ _) :: r => (t, .plain .top) :: clAll r
  | (t, .plain x) :: r => (t, .plain x) :: clAll r
/-- A test that is known is none, where a hint says so. -/
def resO (hs : List (Nat × Hint)) (i : Nat) (ops : List Oper) (tm : List (Nat × T)) (o : Oper) : Oper :=
  match pureOp o.op, crOf hs i with
  | true, some _ => match o.guard with
    | some (j, w) => match dstAt ops j with
      | some d => match lk tm d with
        | some (.plain (.val (.bool b))) => match b == w with
          | true => { o with guard := none }
          | false => o
        | _ => o
      | none => o
    | none => o
  | _, _ => o
theorem resO_cases (hs : List (Nat × Hint)) (i : Nat) (ops : List Oper) (tm : List (Nat × T)) (o : Oper) : resO hs i ops tm o = o ∨ (resO hs i ops tm o = { o with guard := none } ∧ ∃ j w d, o.guard = some (j, w) ∧ dstAt ops j = some d ∧ lk tm d = some (.plain (.val (.bool w)))) := by
  unfold resO
  split
  · split
    · rename_i j w hg
      split
      · rename_i d hd
        split
        · rename_i b hl
          split
          · rename_i hb
            have hb : b = w := by simpa using hb
            subst hb
            exact .inr ⟨rfl, j, b, d, hg, hd, hl⟩
          · exact .inl rfl
        · exact .inl rfl
      · exact .inl rfl
    · exact .inl rfl
  · exact .inl rfl
theorem resO_op (hs : List (Nat × Hint)) (i : Nat) (ops : List Oper) (tm : List (Nat × T)) (o : Oper) : (resO hs i ops tm o).op = o.op ∧ (resO hs i ops tm o).dst = o.dst := by
  rcases resO_cases hs i ops tm o with h | ⟨h, _⟩ <;> (rw [h]; exact ⟨rfl, rfl⟩)
theorem gd_rs {ops : List Oper} {o : Oper} {j : Nat} {w : Bool} {d : Tmp} (hg : o.guard = some (j, w)) (hd : dstAt ops j = some d) : d ∈ rs ops o := by
  unfold rs
  refine List.mem_append.2 (.inr ?_)
  rw [hg]
  unfold dstAt at hd
  cases ho : ops[j]? with
  | none => simp [ho] at hd
  | some q =>
    have hd' : q.dst = some d := by simpa [ho] using hd
    show d ∈ gch ops 20 j
    unfold gch
    simp [ho, hd']
def stepD (C : Cx) (ops : List Oper) (hs : List (Nat × Hint)) (i : Nat) (s : St) (o : Oper) : Option (List Prop × Out1 × St) :=
  match step1 C ops hs i ⟨restr (rs ops o) s.tm, s.H⟩ (resO hs i ops s.tm o) with
  | some r => match put1 C.n o.dst r.t r.new s with
    | some s' => some (r.obl, r, s')
    | none => none
  | none => none

/-- m operations from k0 on, as the text has them. -/
structure Seg (C : Cx) (ops : List Oper) (hs : List (Nat × Hint)) (k0 m : Nat) (op : Nat → Oper) (st : Nat → St) (out : Nat → Out1) : Prop where
  at_ : ∀ i, i < m → ops[k0 + i]? = some (op i)
  one : ∀ i, i < m → step1 C ops hs (k0 + i) ⟨restr (rs ops (op i)) (st i).tm, (st i).H⟩ (resO hs (k0 + i) ops (st i).tm (op i)) = some (out i)
  obl : ∀ i, i < m → AllP (out i).obl
  put : ∀ i, i < m → put1 C.n (op i).dst (out i).t (out i).new (st i) = some (st (i + 1))
  gd0 : ∀ t d w x, lk (st 0).tm t = some (.gd d w x) → ∀ i, i < m → (op i).dst ≠ some d
  gd1 : ∀ t d w x, lk (st 0).tm t = some (.gd d w x) → ∃ (j q : Nat) (oq : Oper) (w' : Bool), dstAt ops j = some d ∧ ops[q]? = some oq ∧ oq.guard = some (j, w')
section
variable {C : Cx} {ops : List Oper} {hs : List (Nat × Hint)} {k0 m : Nat} {op : Nat → Oper} {st : Nat → St} {out : Nat → Out1}
theorem put1_tm {n : Nat} {dst : Option Tmp} {t : T} {new : List (Nat × Blk)} {s s' : St} (h : put1 n dst t new s = some s') {k : Nat} {x : T} (hk : lk s'.tm k = some x) :
    x = .plain .top ∨ (dst = some k ∧ x = t) ∨ (dst ≠ some k ∧ lk s.tm k = some x) := by
  unfold put1 at h
  split at h
  case h_2 => cases h
  rename_i tm' H' htm hH
  cases h
  cases dst with
  | none =>
    simp only [putT, Option.some.injEq] at htm
    subst htm
    exact .inr (.inr ⟨by simp, hk⟩)
  | some d =>
    simp only [putT] at htm
    split at htm
    · cases htm
      rw [lk_ins] at hk
      split at hk
      · rename_i e
        subst e
        cases hk
        exact .inr (.inl ⟨rfl, rfl⟩)
      · rename_i e
        rcases lk_clean hk with rfl | ⟨h1, _⟩
        · exact .inl rfl
        · exact .inr (.inr ⟨fun h => e (by cases h; rfl), h1⟩)
    · cases htm
theorem put1_H {n : Nat} {dst : Option Tmp} {t : T} {new : List (Nat × Blk)} {s s' : St} (h : put1 n dst t new s = some s') : insAll new s.H = some s'.H := by
  unfold put1 at h
  split at h
  case h_2 => cases h
  rename_i tm' H' htm hH
  cases h
  exact hH
theorem put1_not {n : Nat} {d : Tmp} {t : T} {new : List (Nat × Blk)} {s s' : St} (h : put1 n (some d) t new s = some s') : d < n ∧ notOn d t = true := by
  unfold put1 at h
  split at h
  case h_2 => cases h
  rename_i tm' H' htm hH
  simp only [putT] at htm
  split at htm
  · rename_i hc
    simpa using hc
  · cases htm
theorem Seg.tm (h : Seg C ops hs k0 m op st out) : ∀ i, i ≤ m → ∀ t x, lk (st i).tm t = some x → x = .plain .top ∨ (∃ j, j < i ∧ (op j).dst = some t ∧ x = (out j).t) ∨ ((∀ j, j < i → (op j).dst ≠ some t) ∧ lk (st 0).tm t = some x)
  | 0, _, t, x, hx => .inr (.inr ⟨fun j hj => by omega, hx⟩)
  | i + 1, hi, t, x, hx => by
    rcases put1_tm (h.put i (by omega)) hx with h1 | ⟨h1, h2⟩ | ⟨h1, h2⟩
    · exact .inl h1
    · exact .inr (.inl ⟨i, by omega, h1, h2⟩)
    · rcases Seg.tm h i (by omega) t x h2 with h3 | ⟨j, h3, h4⟩ | ⟨h3, h4⟩
      · exact .inl h3
      · exact .inr (.inl ⟨j, by omega, h4⟩)
      · refine .inr (.inr ⟨fun j hj => ?_, h4⟩)
        by_cases e : j = i
        · subst e; exact h1
        · exact h3 j (by omega)
theorem Seg.lkH (h : Seg C ops hs k0 m op st out) {i : Nat} (hi : i < m) (id : Nat) : lk (st (i + 1)).H id = match lk (out i).new id with | some b => some b | none => lk (st i).H id :=
  lk_insAll (put1_H (h.put i hi)) id
theorem Seg.fresh (h : Seg C ops hs k0 m op st out) {i : Nat} (hi : i < m) {id : Nat} (hn : lk (out i).new id ≠ none) : lk (st i).H id = none := insAll_fresh (put1_H (h.put i hi)) id hn
theorem Seg.grow (h : Seg C ops hs k0 m op st out) {i : Nat} : ∀ k, i ≤ k → k ≤ m → ∀ id blk, lk (st i).H id = some blk → lk (st k).H id = some blk
  | 0, h1, _, id, blk, hl => by
    obtain rfl : i = 0 := by omega
    exact hl
  | k + 1, h1, h2, id, blk, hl => by
    by_cases e : i = k + 1
    · subst e; exact hl
    · have ih := Seg.grow h k (by omega) (by omega) id blk hl
      rw [h.lkH (by omega)]
      cases hn : lk (out k).new id with
      | none => exact ih
      | some b =>
        have := h.fresh (i := k) (by omega) (id := id) (by simp [hn])
        rw [this] at ih
        cases ih
theorem Seg.H_ (h : Seg C ops hs k0 m op st out) : ∀ i, i ≤ m → ∀ id blk, lk (st i).H id = some blk → lk (st 0).H id = some blk ∨ ∃ j, j < i ∧ lk (out j).new id = some blk
  | 0, _, id, blk, hl => .inl hl
  | i + 1, hi, id, blk, hl => by
    rw [h.lkH (by omega)] at hl
    split at hl
    · rename_i b hb
      cases hl
      exact .inr ⟨i, by omega, hb⟩
    · rcases Seg.H_ h i (by omega) id blk hl with h1 | ⟨j, h1, h2⟩
      · exact .inl h1
      · exact .inr ⟨j, by omega, h2⟩
theorem Seg.small (h : Seg C ops hs k0 m op st out) {i : Nat} (hi : i < m) {id : Nat} (hb : BIG ≤ id) : lk (out i).new id = none := insAll_big (put1_H (h.put i hi)) hb
theorem Seg.big (h : Seg C ops hs k0 m op st out) {id : Nat} (hb : BIG ≤ id) : ∀ i, i ≤ m → lk (st i).H id = lk (st 0).H id
  | 0, _ => rfl
  | i + 1, hi => by
    rw [h.lkH (by omega), h.small (by omega) hb]
    exact Seg.big h hb i (by omega)
theorem Seg.newIn (h : Seg C ops hs k0 m op st out) {i : Nat} (hi : i < m) {id : Nat} {blk : Blk} (hn : lk (out i).new id = some blk) : lk (st m).H id = some blk := by
  refine h.grow m (by omega : i + 1 ≤ m) (Nat.le_refl _) id blk ?_
  rw [h.lkH hi, hn]
/-- An own number comes of one operation alone. -/
theorem Seg.uniq (h : Seg C ops hs k0 m op st out) {i j : Nat} (hi : i < m) (hj : j < m) {id : Nat} (h1 : lk (out i).new id ≠ none) (h2 : lk (out j).new id ≠ none) : i = j := by
  have key : ∀ i j, i < j → j < m → lk (out i).new id ≠ none → lk (out j).new id ≠ none → False := fun i j hij hj h1 h2 => by
    have hf := h.fresh hj h2
    obtain ⟨b, hb⟩ := Option.ne_none_iff_exists'.1 h1
    have : lk (st (i + 1)).H id = some b := by rw [h.lkH (by omega), hb]
    have := h.grow j (by omega) (by omega) id b this
    rw [hf] at this
    cases this
  rcases Nat.lt_trichotomy i j with e | e | e
  · exact (key i j e hj h1 h2).elim
  · exact e
  · exact (key j i e hi h2 h1).elim
theorem lk_clean_plain {d t : Nat} {x : V} : ∀ {tm : List (Nat × T)}, lk tm t = some (.plain x) → lk (clean d tm) t = some (.plain x)
  | [], h => by cases h
  | (k, .plain y) :: r, h => by
    simp only [clean, lk] at h ⊢
    split at h
    · rename_i e
      rw [if_pos e]
      exact h
    · rename_i e
      rw [if_neg e]
      exact lk_clean_plain h
  | (k, .gd d' w y) :: r, h => by
    simp only [clean, lk] at h ⊢
    split at h
    · cases h
    · rename_i e
      rw [if_neg e]
      exact lk_clean_plain h
theorem put1_plain {n : Nat} {dst : Option Tmp} {t : T} {new : List (Nat × Blk)} {s s' : St} (h : put1 n dst t new s = some s') {k : Nat} {x : V} (hd : dst ≠ some k) (hk : lk s.tm k = some (.plain x)) : lk s'.tm k = some (.plain x) := by
  unfold put1 at h
  split at h
  case h_2 => cases h
  rename_i tm' H' htm hH
  cases h
  cases dst with
  | none =>
    simp only [putT, Option.some.injEq] at htm
    subst htm
    exact hk
  | some d =>
    simp only [putT] at htm
    split at htm
    · cases htm
      rw [lk_ins, if_neg (fun e => hd (by rw [e]))]
      exact lk_clean_plain hk
    · cases htm
theorem put1_new {n : Nat} {d : Tmp} {t : T} {new : List (Nat × Blk)} {s s' : St} (h : put1 n (some d) t new s = some s') : lk s'.tm d = some t := by
  unfold put1 at h
  split at h
  case h_2 => cases h
  rename_i tm' H' htm hH
  cases h
  simp only [putT] at htm
  split at htm
  · cases htm
    rw [lk_ins, if_pos rfl]
  · cases htm
theorem Seg.stays (h : Seg C ops hs k0 m op st out) {i : Nat} {t : Nat} {x : V} (hx : lk (st i).tm t = some (.plain x)) : ∀ k, i ≤ k → k ≤ m → (∀ j, i ≤ j → j < k → (op j).dst ≠ some t) → lk (st k).tm t = some (.plain x)
  | 0, h1, _, _ => by
    obtain rfl : i = 0 := by omega
    exact hx
  | k + 1, h1, h2, hn => by
    by_cases e : i = k + 1
    · subst e; exact hx
    · exact put1_plain (h.put k (by omega)) (hn k (by omega) (by omega)) (Seg.stays h hx k (by omega) (by omega) (fun j a b => hn j a (by omega)))
theorem lk_restr_mem {l : List Tmp} {t : Nat} (ht : t ∈ l) : ∀ (tm : List (Nat × T)), lk (restr l tm) t = lk tm t
  | [] => rfl
  | (k, y) :: r => by
    simp only [restr]
    split
    · simp only [lk]
      rw [lk_restr_mem ht r]
    · rename_i hc
      simp only [lk]
      rw [if_neg (fun e => hc (by simp at e; subst e; simpa using ht))]
      exact lk_restr_mem ht r
/-- What has not come up, though the text is behind it. -/
structure Pend (C : Cx) (ops : List Oper) (hs : List (Nat × Hint)) (s : St) (j : Nat) (o : Oper) (d : Tmp) (r : Out1) : Prop where
  flt : Flt ops j o d
  ne : d ∉ rs ops o
  lt : d < C.n
  gd : ∀ jg w, o.guard = some (jg, w) → ∃ dg, dstAt ops jg = some dg ∧ lk s.tm dg = some (.plain (.val (.bool w)))
  one : ∃ tm H, (∀ t x, lk tm t = some x → t ∈ rs ops o ∧ lk s.tm t = some x ∧ ∃ v, x = .plain v) ∧
    (∀ id blk, lk H id = some blk → lk s.H id = some blk ∧ ∃ t v, looks o.op = some (.tmp t) ∧ t ∈ rs ops o ∧ lk s.tm t = some (.plain v) ∧ leadTo v = some id) ∧ step1 C ops hs j ⟨tm, H⟩ { o with guard := none } = some r
  obl : AllP r.obl
  new : r.new = [] ∨ ∃ blk n, r.new = [(d, blk)] ∧ (r.t = .plain n ∧ leadTo n = some d) ∧ lk s.H d = some blk ∧ d < BIG ∧ d ∈ lateSl o
  pl : ∃ v, r.t = .plain v
  val : lk s.tm d = some r.t
theorem mem_tmpsOf {t : Tmp} : ∀ {l : List Operand}, t ∈ tmpsOf l → .tmp t ∈ l
  | [], h => by simp [tmpsOf] at h
  | .tmp q :: r, h => by
    simp only [tmpsOf, List.mem_cons] at h
    rcases h with rfl | h
    · simp
    · exact List.mem_cons_of_mem _ (mem_tmpsOf h)
  | .const _ :: r, h => by
    simp only [tmpsOf] at h
    exact List.mem_cons_of_mem _ (mem_tmpsOf h)
  | .func _ :: r, h => by
    simp only [tmpsOf] at h
    exact List.mem_cons_of_mem _ (mem_tmpsOf h)
  | .global _ :: r, h => by
    simp only [tmpsOf] at h
    exact List.mem_cons_of_mem _ (mem_tmpsOf h)
theorem tmpsOf_mem {t : Tmp} : ∀ {l : List Operand}, .tmp t ∈ l → t ∈ tmpsOf l
  | [], h => by simp at h
  | x :: r, h => by
    rcases List.mem_cons.1 h with rfl | h'
    · simp [tmpsOf]
    · have := tmpsOf_mem h'
      cases x <;> simp [tmpsOf, this]
theorem fin_new {sym : Option V} {out : Out} {r : R} (h : fin sym out = some r) : r.new = [] := by
  unfold fin at h
  split at h
  · split at h <;> (cases h; rfl)
  · cases h
theorem rds_mem {rd : Operand → Option V} : ∀ {l : List Operand} {vs : List V}, rds rd l = some vs → ∀ y, y ∈ l → ∃ v, rd y = some v
  | [], _, _, y, hy => by simp at hy
  | x :: r, vs, h, y, hy => by
    unfold rds at h
    split at h
    · rename_i v vs' h1 h2
      rcases List.mem_cons.1 hy with rfl | hy
      · exact ⟨_, h1⟩
      · exact rds_mem h2 y hy
    · cases h
theorem rdsP_mem {rd : Operand → Option V} : ∀ {l : List (Nat × Operand)} {vs : List (Nat × V)}, rdsP rd l = some vs → ∀ p, p ∈ l → ∃ v, rd p.2 = some v
  | [], _, _, y, hy => by simp at hy
  | (i, x) :: r, vs, h, y, hy => by
    unfold rdsP at h
    split at h
    · rename_i v vs' h1 h2
      rcases List.mem_cons.1 hy with rfl | hy
      · exact ⟨_, h1⟩
      · exact rdsP_mem h2 y hy
    · cases h
theorem evBuildSliceF_new {tc : List (Nat × TI)} {f : Bool} {d : Nat} {t : TypeId} {len : Nat} {ps : List (Nat × V)} {r : R} (h : evBuildSliceF tc f d t len ps = some r) : r.new = [] ∨ ∃ blk n, r.new = [(d, blk)] ∧ r.v = .sl d 0 n := by
  unfold evBuildSliceF at h
  cases f with
  | false =>
    simp only at h
    unfold evBuildSlice at h
    split at h
    · split at h
      · split at h
        · simp only [Option.map_eq_some_iff] at h
          obtain ⟨cs, _, rfl⟩ := h
          exact .inr ⟨_, _, rfl, rfl⟩
        · cases h
      · cases h
    · cases h
  | true =>
    simp only at h
    split at h
    · cases h
      exact .inl rfl
    · cases h
theorem evAlloc_new {tc : List (Nat × TI)} {d : Nat} {e : TypeId} {r : R} (h : evAlloc tc d e = some r) : ∃ blk, r.new = [(d, blk)] ∧ r.v = .ptr d 0 := by
  unfold evAlloc at h
  split at h
  · split at h
    · cases h
      exact ⟨_, rfl, rfl⟩
    · cases h
  · cases h
/-- It looks at all its operands; what it makes. -/
theorem pure_reads {P : Program} {tc : List (Nat × TI)} {H : List (Nat × Blk)} {sym : Option V} {cr : Option CR} {rd : Operand → Option V} {rdc : Bool → Tmp → Operand → Option V} {o : Oper} {r : R}
    (hp : pureOp o.op = true) (h : stepV P tc H sym cr rd rdc o = some r) : (∀ y, y ∈ o.op.operands.toList → ∃ v, rd y = some v) ∧ (r.new = [] ∨ ∃ d blk, o.dst = some d ∧ r.new = [(d, blk)] ∧ leadTo r.v = some d ∧ d ∈ lateSl o) := by
  obtain ⟨dst, op, type, pos, after, guard⟩ := o
  cases op
  case build t ps =>
    simp only [stepV, Option.bind_eq_some_iff] at h
    obtain ⟨vs, hvs, h⟩ := h
    refine ⟨fun y hy => ?_, .inl (fin_new h)⟩
    simp only [Op.operands, List.mem_map] at hy
    obtain ⟨p, hp', rfl⟩ := hy
    exact rdsP_mem hvs p hp'
  case buildSlice t len ps =>
    simp only [stepV, Option.bind_eq_some_iff] at h
    obtain ⟨d, hd, vs, hvs, h⟩ := h
    refine ⟨fun y hy => ?_, ?_⟩
    · simp only [Op.operands, List.mem_map] at hy
      obtain ⟨p, hp', rfl⟩ := hy
      exact rdsP_mem hvs p hp'
    · rcases evBuildSliceF_new h with h1 | ⟨blk, n, h1, h2⟩
      · exact .inl h1
      · refine .inr ⟨d, blk, hd, h1, by rw [h2]; rfl, ?_⟩
        have hd : dst = some d := hd
        subst hd
        simp [lateSl]
  case alloc e =>
    simp only [stepV, Option.bind_eq_some_iff] at h
    obtain ⟨d, hd, h⟩ := h
    refine ⟨fun y hy => (by simp [Op.operands] at hy), ?_⟩
    obtain ⟨blk, h1, h2⟩ := evAlloc_new h
    refine .inr ⟨d, blk, hd, h1, by rw [h2]; rfl, ?_⟩
    have hd : dst = some d := hd
    subst hd
    simp [lateSl]
  case slice t x lo hi mx =>
    cases mx with
    | some m => simp only [pureOp, Bool.false_eq_true] at hp
    | none =>
      simp only [stepV, Option.bind_eq_some_iff] at h
      obtain ⟨v, hv, l, hl, u, hu, h⟩ := h
      refine ⟨fun y hy => ?_, .inl (fin_new h)⟩
      have rdo : ∀ {z : Option Operand} {w : Option V}, rdO rd z = some w → ∀ y, y ∈ z.toArray.toList → ∃ v, rd y = some v := fun {z w} hz y hy => by
        cases z with
        | none => simp at hy
        | some q =>
          simp at hy
          subst hy
          simp only [rdO, Option.map_eq_some_iff] at hz
          obtain ⟨q, hq, _⟩ := hz
          exact ⟨q, hq⟩
      simp only [Op.operands, Array.toList_append, List.mem_append, Option.toArray_none] at hy
      rcases hy with ((hy | hy) | hy) | hy
      · simp at hy
        subst hy
        exact ⟨_, hv⟩
      · exact rdo hl y hy
      · exact rdo hu y hy
      · simp at hy
  case call c =>
    obtain ⟨callee, args, tys⟩ := c
    cases callee with
    | builtin b =>
      simp only [stepV, Option.bind_eq_some_iff] at h
      obtain ⟨vs, hvs, h⟩ := h
      refine ⟨fun y hy => rds_mem hvs y (by simpa [Op.operands, Go.Call.operands] using hy), .inl ?_⟩
      cases b <;> simp only [pureOp, Bool.false_eq_true] at hp
      · replace h : (match (generalizing := false) tys.toList, vs with | [t], [v] => (match mpT.contains t with | true => fin sym (evLenM H tc t v) | false => fin sym (evLen tc t v)) | _, _ => none) = some r := h
        split at h
        · split at h <;> exact fin_new h
        · cases h
      · exact fin_new h
      · exact fin_new h
    | _ => simp only [pureOp, Bool.false_eq_true] at hp
  all_goals simp only [pureOp, Bool.false_eq_true] at hp
  all_goals simp only [stepV, Option.bind_eq_some_iff] at h
  all_goals simp only [Op.operands]
  all_goals first
    | (obtain ⟨v, hv, u, hu, h⟩ := h; exact ⟨fun y hy => by simp at hy; rcases hy with rfl | rfl <;> exact ⟨_, by assumption⟩, .inl (fin_new h)⟩)
    | (obtain ⟨v, hv, h⟩ := h; exact ⟨fun y hy => by simp at hy; subst hy; exact ⟨_, hv⟩, .inl (fin_new h)⟩)
theorem oneH (H : List (Nat × Blk)) (v : V) : ∃ H', (∀ id blk, lk H' id = some blk → lk H id = some blk ∧ leadTo v = some id) ∧ (∀ id, leadTo v = some id → lkC H' id = lkC H id) := by
  cases hl : leadTo v with
  | none => exact ⟨[], fun i b h => (by cases h), fun i h => (by cases h)⟩
  | some id =>
    cases hb : lk H id with
    | none => exact ⟨[], fun i b h => (by cases h), fun i h => (by cases h; unfold lkC; rw [hb]; rfl)⟩
    | some blk =>
      refine ⟨[(id, blk)], fun i b h => ?_, fun i h => ?_⟩
      · simp only [lk] at h
        split at h
        · rename_i e
          simp at e
          subst e
          cases h
          exact ⟨hb, rfl⟩
        · cases h
      · cases h
        unfold lkC
        rw [hb]
        simp [lk]
theorem evLoad_H {tc : List (Nat × TI)} {H H' : List (Nat × Blk)} {s : Bool} {t : TypeId} {v : V} (h : ∀ id, leadTo v = some id → lkC H' id = lkC H id) : evLoad tc H' s t v = evLoad tc H s t v := by
  unfold evLoad
  cases v with
  | ptr id off => simp only [h id rfl]
  | _ => rfl
theorem evSlice_H {tc : List (Nat × TI)} {H H' : List (Nat × Blk)} {s em : Bool} {t : TypeId} {v : V} {l u : Option V} (h : ∀ id, leadTo v = some id → lkC H' id = lkC H id) : evSlice tc H' s em t v l u = evSlice tc H s em t v l u := by
  unfold evSlice
  cases v with
  | ptr id off => simp only [h id rfl]
  | _ => rfl
theorem pure_H {P : Program} {tc : List (Nat × TI)} {H : List (Nat × Blk)} {sym : Option V} {cr : Option CR} {rd : Operand → Option V} {rdc : Bool → Tmp → Operand → Option V} {o : Oper} {r : R}
    (hp : pureOp o.op = true) (h : stepV P tc H sym cr rd rdc o = some r) :
    ∃ H', (∀ id blk, lk H' id = some blk → lk H id = some blk ∧ ∃ y v, looks o.op = some y ∧ rd y = some v ∧ leadTo v = some id) ∧ stepV P tc H' sym cr rd rdc o = some r := by
  obtain ⟨dst, op, type, pos, after, guard⟩ := o
  cases op
  case call c =>
    obtain ⟨callee, args, tys⟩ := c
    cases callee with
    | builtin b =>
      refine ⟨[], fun i b hl => (by cases hl), ?_⟩
      cases b <;> first
        | (simp only [pureOp, Bool.false_eq_true] at hp; done)
        | exact h
        | (simp only [pureOp] at hp
           simp only [stepV] at h ⊢
           obtain ⟨vs, hvs, h⟩ := Option.bind_eq_some_iff.1 h
           rw [hvs]
           simp only [Option.bind_some]
           split at h
           · rename_i t z hts
             rw [hts] at hp
             simp only [Bool.not_eq_true'] at hp
             simp only [hp] at h ⊢
             exact h
           · cases h)
    | _ => simp only [pureOp, Bool.false_eq_true] at hp
  case slice t x lo hi mx =>
    cases mx with
    | some m => simp only [pureOp, Bool.false_eq_true] at hp
    | none =>
      simp only [stepV, Option.bind_eq_some_iff] at h
      obtain ⟨v, hv, l, hl, u, hu, h⟩ := h
      obtain ⟨H', h1, h2⟩ := oneH H v
      refine ⟨H', fun id blk hb => ⟨(h1 id blk hb).1, x, v, rfl, hv, (h1 id blk hb).2⟩, ?_⟩
      simp only [stepV, hv, hl, hu, Option.bind_some]
      rw [evSlice_H h2]
      exact h
  case alloc e => exact ⟨[], fun i b hl => (by cases hl), h⟩
  all_goals simp only [pureOp, Bool.false_eq_true] at hp
  case load ty y =>
    simp only [stepV, Option.bind_eq_some_iff] at h
    obtain ⟨v, hv, h⟩ := h
    obtain ⟨H', h1, h2⟩ := oneH H v
    refine ⟨H', fun id blk hb => ⟨(h1 id blk hb).1, y, v, rfl, hv, (h1 id blk hb).2⟩, ?_⟩
    simp only [stepV, hv, Option.bind_some]
    rw [evLoad_H h2]
    exact h
  all_goals exact ⟨[], fun i b hl => (by cases hl), h⟩
theorem Flt.rs_ {i : Nat} {o : Oper} {d : Tmp} (hf : Flt ops i o d) {t : Tmp} (h : .tmp t ∈ o.op.operands.toList) : t ∈ rs ops o := by
  unfold rs
  exact List.mem_append.2 (.inl (tmpsOf_mem h))
theorem rds_congr {rd rd' : Operand → Option V} : ∀ {l : List Operand}, (∀ y, y ∈ l → rd' y = rd y) → rds rd' l = rds rd l
  | [], _ => rfl
  | x :: r, h => by
    unfold rds
    rw [h x (List.mem_cons_self ..), rds_congr (fun y hy => h y (List.mem_cons_of_mem _ hy))]
theorem rdsP_congr {rd rd' : Operand → Option V} : ∀ {l : List (Nat × Operand)}, (∀ p, p ∈ l → rd' p.2 = rd p.2) → rdsP rd' l = rdsP rd l
  | [], _ => rfl
  | (i, x) :: r, h => by
    unfold rdsP
    rw [h (i, x) (List.mem_cons_self ..), rdsP_congr (fun y hy => h y (List.mem_cons_of_mem _ hy))]
theorem rdO_congr {rd rd' : Operand → Option V} {z : Option Operand} (h : ∀ y, y ∈ z.toArray.toList → rd' y = rd y) : rdO rd' z = rdO rd z := by
  cases z with
  | none => rfl
  | some y =>
    show (rd' y).map some = (rd y).map some
    rw [h y (by simp)]
theorem pure_rd {P : Program} {tc : List (Nat × TI)} {H : List (Nat × Blk)} {sym : Option V} {cr : Option CR} {rd rd' : Operand → Option V} {rdc rdc' : Bool → Tmp → Operand → Option V} {o : Oper}
    (hp : pureOp o.op = true) (h : ∀ y, y ∈ o.op.operands.toList → rd' y = rd y) : stepV P tc H sym cr rd' rdc' o = stepV P tc H sym cr rd rdc o := by
  obtain ⟨dst, op, type, pos, after, guard⟩ := o
  cases op
  case build t ps =>
    simp only [Op.operands, List.mem_map] at h
    simp only [stepV]
    rw [rdsP_congr (fun p hp => h p.2 ⟨p, hp, rfl⟩)]
  case buildSlice t len ps =>
    simp only [Op.operands, List.mem_map] at h
    simp only [stepV]
    rw [rdsP_congr (fun p hp => h p.2 ⟨p, hp, rfl⟩)]
  case alloc e => rfl
  case slice t x lo hi mx =>
    cases mx with
    | some m => simp only [pureOp, Bool.false_eq_true] at hp
    | none =>
      simp only [Op.operands, Array.toList_append, List.mem_append] at h
      simp only [stepV]
      rw [h x (.inl (.inl (.inl (by simp)))), rdO_congr (fun y hy => h y (.inl (.inl (.inr hy)))), rdO_congr (fun y hy => h y (.inl (.inr hy)))]
  case call c =>
    obtain ⟨callee, args, tys⟩ := c
    cases callee with
    | builtin b =>
      simp only [stepV]
      rw [rds_congr (fun y hy => h y (by simpa [Op.operands, Go.Call.operands] using hy))]
    | _ => simp only [pureOp, Bool.false_eq_true] at hp
  all_goals simp only [pureOp, Bool.false_eq_true] at hp
  all_goals simp only [Op.operands] at h
  all_goals simp only [stepV]
  all_goals first
    | (rename_i x y z; rw [h _ (by simp), h _ (by simp)]; done)
    | (rename_i x y; rw [h _ (by simp), h _ (by simp)]; done)
    | (rename_i x; rw [h _ (by simp), h _ (by simp)]; done)
    | (rename_i x y z w; rw [h _ (by simp), h _ (by simp)]; done)
    | (rename_i x y z w u; rw [h _ (by simp), h _ (by simp)]; done)
    | (rw [h _ (by simp)]; done)
    | rw [h _ (by simp)]
theorem flt_step1 {i : Nat} {o : Oper} {d : Tmp} (hf : Flt ops i o d) {tm : List (Nat × T)} {H : List (Nat × Blk)} {r : Out1} (h : step1 C ops hs i ⟨restr (rs ops o) tm, H⟩ { o with guard := none } = some r) :
    (∃ tm1 H1, (∀ t x, lk tm1 t = some x → t ∈ rs ops o ∧ lk tm t = some x ∧ ∃ v, x = .plain v) ∧
      (∀ id blk, lk H1 id = some blk → lk H id = some blk ∧ ∃ t v, looks o.op = some (.tmp t) ∧ t ∈ rs ops o ∧ lk tm t = some (.plain v) ∧ leadTo v = some id) ∧ step1 C ops hs i ⟨tm1, H1⟩ { o with guard := none } = some r) ∧ (r.new = [] ∨ ∃ blk n, r.new = [(d, blk)] ∧ (r.t = .plain n ∧ leadTo n = some d) ∧ d ∈ lateSl o) ∧ ∃ v, r.t = .plain v := by
  unfold step1 at h
  simp only at h
  split at h
  case h_2 => cases h
  rename_i r0 hr0
  cases h
  obtain ⟨hreads, hnew⟩ := pure_reads (o := { o with guard := none }) hf.op hr0
  obtain ⟨H', hH', hst⟩ := pure_H (o := { o with guard := none }) hf.op hr0
  have hplain : ∀ t v, rdA (restr (rs ops o) tm) [] (.tmp t) = some v → lk (restr (rs ops o) tm) t = some (.plain v) := fun t v hv => by
    simp only [rdA, rdT] at hv
    split at hv
    · rename_i z hz
      cases hv
      exact hz
    · simp [hasP] at hv
    · cases hv
  have hrr : ∀ y, y ∈ o.op.operands.toList → rdA (restr (tmpsOf o.op.operands.toList) tm) [] y = rdA (restr (rs ops o) tm) [] y := fun y hy => by
    cases y with
    | tmp t =>
      simp only [rdA, rdT]
      rw [lk_restr_mem (tmpsOf_mem hy), lk_restr_mem (hf.rs_ hy)]
    | _ => rfl
  refine ⟨⟨restr (tmpsOf o.op.operands.toList) tm, H', fun t x hx => ?_, fun id blk hl => ?_, ?_⟩, ?_, _, rfl⟩
  rotate_right
  · rcases hnew with h1 | ⟨d0, blk, h0, h1, h2, h3⟩
    · exact .inl h1
    · rw [hf.dst] at h0
      cases h0
      exact .inr ⟨blk, _, h1, ⟨rfl, h2⟩, h3⟩
  · obtain ⟨h1, h2⟩ := lk_restr hx
    have h0 := mem_tmpsOf h1
    obtain ⟨v, hv⟩ := hreads _ h0
    have := hplain t v hv
    rw [lk_restr_mem (hf.rs_ h0), h2] at this
    cases this
    exact ⟨hf.rs_ h0, h2, _, rfl⟩
  · obtain ⟨q1, y, v, q2, q3, q4⟩ := hH' id blk hl
    refine ⟨q1, ?_⟩
    cases y with
    | tmp t =>
      have := hplain t _ q3
      obtain ⟨h1, h2⟩ := lk_restr this
      exact ⟨t, v, q2, h1, h2, q4⟩
    | const v =>
      simp only [rdA] at q3
      split at q3
      · cases q3
        cases q4
      · cases q3
    | func f =>
      cases q3
      cases q4
    | global g =>
      simp only [rdA, Option.map_eq_some_iff] at q3
      obtain ⟨_, _, q5⟩ := q3
      subst q5
      cases q4
  · unfold step1
    simp only
    rw [pure_rd (o := { o with guard := none }) (rdc := rdC (restr (rs ops o) tm) []) hf.op hrr, hst]
end
end Go.Ab

set_option linter.unusedSimpArgs false
set_option linter.unusedVariables false
namespace Go.Ab
open Go.RowKit

/-- Some of a segment's operations have come up. -/
structure SegI (C : Cx) (ops : List Oper) (hs : List (Nat × Hint)) (k0 : Nat) (pd : Nat → Prop) (G : Gl) (m : Nat) (op : Nat → Oper) (st : Nat → St) (out : Nat → Out1) (S : Nat → Prop) (φ : Phi) (a : Act) (w : World) : Prop where
  size : a.tmps.size = C.n
  defers : a.defers = G.ds
  tmS : ∀ i, i < m → S i → ∀ t, (op i).dst = some t → TRel (Imm φ G.X w) w φ a.tmps t (out i).t
  tm0 : ∀ t, (∀ i, i < m → S i → (op i).dst ≠ some t) → (∀ j, pd j → dstAt ops j ≠ some t) → ∀ x, lk (st 0).tm t = some x → TRel (Imm φ G.X w) w φ a.tmps t x
  pdk : ∀ j, pd j → j < k0 ∧ ∃ o d r, Pend C ops hs (st 0) j o d r ∧ (r.new ≠ [] → φ d = .none)
  hr0 : HR (Imm φ G.X w) w φ (st 0).H
  hrS : ∀ i, i < m → S i → ∀ id blk, lk (out i).new id = some blk → BlkRel (Imm φ G.X w) w φ (φ id) blk
  no : ∀ i, i < m → ¬S i → ∀ id, lk (out i).new id ≠ none → φ id = .none
  ok : Phi.ok φ G.X w (st m).H
  x : XOk G w
  frm : FrmX G w
  own : ∀ id b c, φ id = .at b c → (∃ id0 c0, G.φ0 id0 = .at b c0) ∨ G.w0.heap.size ≤ b
  fix : ∀ id, BIG ≤ id → stayS id (G.φ0 id) → φ id = G.φ0 id ∨ lk (st 0).H id = none

section
variable {C : Cx} {G : Gl} {ops : List Oper} {hs : List (Nat × Hint)} {k0 m : Nat} {op : Nat → Oper} {st : Nat → St} {out : Nat → Out1} {S pd : Nat → Prop} {φ φ' : Phi} {a : Act} {w w' : World} {s s' : St}

theorem SegI.start {tm : List (Nat × T)} (h : Seg C ops hs k0 m op st out) (hI : Inv C G ⟨tm, (st 0).H⟩ φ a w) (htm : ∀ t, (∀ j, pd j → dstAt ops j ≠ some t) → ∀ x, lk (st 0).tm t = some x → lk tm t = some x)
    (hpd : ∀ j, pd j → j < k0 ∧ ∃ o d r, Pend C ops hs (st 0) j o d r ∧ (r.new ≠ [] → φ d = .none)) : SegI C ops hs k0 pd G m op st out (fun _ => False) φ a w := by
  refine ⟨hI.size, hI.defers, fun i _ hS => hS.elim, fun t _ hn x hx => hI.tm t x (htm t hn x hx), hpd, hI.hr, fun i _ hS => hS.elim, fun i hi _ id hid => ?_, ⟨hI.ok.inj, hI.ok.lt, hI.ok.free, fun id hid => ?_⟩, hI.x, hI.frm, hI.own, hI.fix⟩
  · refine hI.ok.dom id ?_
    cases h0 : lk (st 0).H id with
    | none => rfl
    | some b =>
      have := h.grow (i := 0) i (by omega) (by omega) id b h0
      rw [h.fresh hi hid] at this
      cases this
  · refine hI.ok.dom id ?_
    cases h0 : lk (st 0).H id with
    | none => rfl
    | some b =>
      have := h.grow (i := 0) m (by omega) (Nat.le_refl _) id b h0
      rw [hid] at this
      cases this

theorem only (q : Nat → Prop) : ∀ tm : List (Nat × T), ∃ tm', (∀ t x, lk tm' t = some x → q t ∧ lk tm t = some x) ∧ (∀ t x, q t → lk tm t = some x → lk tm' t = some x)
  | [] => ⟨[], fun _ _ h => (by cases h), fun _ _ _ h => (by cases h)⟩
  | (k, y) :: r => by
    obtain ⟨r', h1, h2⟩ := only q r
    by_cases hq : q k
    · refine ⟨(k, y) :: r', fun t x h => ?_, fun t x hqt h => ?_⟩
      · simp only [lk] at h ⊢
        split at h
        · rename_i e
          rw [if_pos e]
          simp at e
          subst e
          exact ⟨hq, h⟩
        · rename_i e
          rw [if_neg e]
          exact h1 t x h
      · simp only [lk] at h ⊢
        split at h
        · rename_i e
          rw [if_pos e]
          exact h
        · rename_i e
          rw [if_neg e]
          exact h2 t x hqt h
    · refine ⟨r', fun t x h => ?_, fun t x hqt h => ?_⟩
      · have := h1 t x h
        refine ⟨this.1, ?_⟩
        simp only [lk]
        rw [if_neg]
        · exact this.2
        · intro e
          simp at e
          subst e
          exact hq this.1
      · simp only [lk] at h
        split at h
        · rename_i e
          simp at e
          subst e
          exact absurd hqt hq
        · exact h2 t x hqt h

/-- All but some that may wait have come up. -/
theorem SegI.end_ (h : Seg C ops hs k0 m op st out) (hdw : Dw ops) (hI : SegI C ops hs k0 pd G m op st out S φ a w) (hS : ∀ i, i < m → S i ∨ (¬S i ∧ floats ops (k0 + i) = true ∧ (resO hs (k0 + i) ops (st i).tm (op i)).guard = none)) :
    ∃ tm, (∀ t x, lk tm t = some x → (∀ j, (pd j ∨ ∃ q, q < m ∧ j = k0 + q ∧ ¬S q) → dstAt ops j ≠ some t) ∧ lk (st m).tm t = some x) ∧
      (∀ t x, (∀ j, (pd j ∨ ∃ q, q < m ∧ j = k0 + q ∧ ¬S q) → dstAt ops j ≠ some t) → lk (st m).tm t = some x → lk tm t = some x) ∧ Inv C G ⟨tm, (st m).H⟩ φ a w ∧
      (∀ j, (pd j ∨ ∃ q, q < m ∧ j = k0 + q ∧ ¬S q) → j < k0 + m ∧ ∃ o d r, Pend C ops hs (st m) j o d r ∧ (r.new ≠ [] → φ d = .none)) := by
  have flt : ∀ i, i < m → ¬S i → ∃ d, Flt ops (k0 + i) (op i) d ∧ resO hs (k0 + i) ops (st i).tm (op i) = { op i with guard := none } ∧ ∀ jg w, (op i).guard = some (jg, w) → ∃ dg, dstAt ops jg = some dg ∧ lk (st i).tm dg = some (.plain (.val (.bool w))) := fun i hi hno => by
    rcases hS i hi with h1 | ⟨_, h2, h3⟩
    · exact absurd h1 hno
    · obtain ⟨o, d, hf⟩ := floats_flt h2
      have := hf.at_
      rw [h.at_ i hi] at this
      cases this
      refine ⟨d, hf, ?_⟩
      rcases resO_cases hs (k0 + i) ops (st i).tm (op i) with e | ⟨e, j, w, dg, e1, e2, e3⟩
      · rw [e] at h3
        refine ⟨?_, fun jg w hg => by rw [h3] at hg; cases hg⟩
        rw [e]
        generalize op i = oo at h3
        obtain ⟨a1, a2, a3, a4, a5, a6⟩ := oo
        have h3 : a6 = none := h3
        subst h3
        rfl
      · refine ⟨e, fun jg w' hg => ?_⟩
        rw [e1] at hg
        cases hg
        exact ⟨dg, e2, e3⟩
  obtain ⟨tm, k1, k2⟩ := only (fun t => ∀ j, (pd j ∨ ∃ q, q < m ∧ j = k0 + q ∧ ¬S q) → dstAt ops j ≠ some t) (st m).tm
  refine ⟨tm, k1, k2, ⟨hI.size, hI.defers, fun t x hx => ?_, fun id blk hl => ?_, hI.ok, hI.x, hI.frm, hI.own, fun id hb h0 => by rw [h.big hb m (Nat.le_refl _)]; exact hI.fix id hb h0⟩, fun j hj => ?_⟩
  · obtain ⟨hq, hx⟩ := k1 t x hx
    rcases h.tm m (Nat.le_refl _) t x hx with rfl | ⟨j, hj, hd, rfl⟩ | ⟨hno, h0⟩
    · exact Rel.top
    · refine hI.tmS j hj (Classical.byContradiction fun hc => ?_) t hd
      refine hq (k0 + j) (.inr ⟨j, hj, rfl, hc⟩) ?_
      unfold dstAt
      rw [h.at_ j hj]
      exact hd
    · exact hI.tm0 t (fun i hi _ => hno i hi) (fun j hj => hq j (.inl hj)) x h0
  · rcases h.H_ m (Nat.le_refl _) id blk hl with h0 | ⟨j, hj, h1⟩
    · exact hI.hr0 id blk h0
    · by_cases hj' : S j
      · exact hI.hrS j hj hj' id blk h1
      · rw [hI.no j hj hj' id (by simp [h1])]
        trivial
  · rcases hj with hj | ⟨q, hq, rfl, hno⟩
    · obtain ⟨hlt, o, d, r, hp, hpn0⟩ := hI.pdk j hj
      obtain ⟨tm1, H1, q1, q2, q3⟩ := hp.one
      have keep : ∀ t v, t ∈ rs ops o → lk (st 0).tm t = some (.plain v) → lk (st m).tm t = some (.plain v) := fun t v ht hl =>
        h.stays hl m (Nat.zero_le _) (Nat.le_refl _) (fun i _ hi => hp.flt.last (k0 + i) (op i) (by omega) (h.at_ i hi) t ht)
      refine ⟨by omega, o, d, r, ⟨hp.flt, hp.ne, hp.lt, fun jg w hg => ?_, ⟨tm1, H1, fun t x hx => ?_, fun id blk hl => ?_, q3⟩, hp.obl, hp.new.imp id ?_, hp.pl, ?_⟩, hpn0⟩
      · obtain ⟨dg, z1, z2⟩ := hp.gd jg w hg
        exact ⟨dg, z1, keep dg _ (gd_rs hg z1) z2⟩
      · obtain ⟨h1, h2, v, rfl⟩ := q1 t x hx
        exact ⟨h1, keep t v h1 h2, v, rfl⟩
      · obtain ⟨h1, t, v, h2, h3, h4, h5⟩ := q2 id blk hl
        exact ⟨h.grow m (Nat.zero_le _) (Nat.le_refl _) id blk h1, t, v, h2, h3, keep t _ h3 h4, h5⟩
      · rintro ⟨blk, n, z1, z2, z3, z4⟩
        exact ⟨blk, n, z1, z2, h.grow m (Nat.zero_le _) (Nat.le_refl _) _ blk z3, z4⟩
      · obtain ⟨v, hv⟩ := hp.pl
        have := hp.val
        rw [hv] at this ⊢
        exact h.stays this m (Nat.zero_le _) (Nat.le_refl _) (fun i _ hi => hdw.dst j (k0 + i) o (op i) hp.flt.at_ (h.at_ i hi) (by omega) d hp.flt.dst)
    · obtain ⟨d, hf, hres, hgd⟩ := flt q hq hno
      have hone := h.one q hq
      rw [hres] at hone
      obtain ⟨⟨tm1, H1, q1, q2, q3⟩, hn, v, hv⟩ := flt_step1 hf hone
      have hput := h.put q hq
      rw [hf.dst] at hput
      have hne : d ∉ rs ops (op q) := hdw.self (k0 + q) (op q) d hf.at_ hf.dst
      have keep : ∀ t v, t ∈ rs ops (op q) → lk (st q).tm t = some (.plain v) → lk (st m).tm t = some (.plain v) := fun t v ht hl => by
        refine h.stays hl m (by omega) (Nat.le_refl _) (fun i h1 hi => ?_)
        by_cases e : i = q
        · subst e
          rw [hf.dst]
          intro e
          cases e
          exact hne ht
        · exact hf.last (k0 + i) (op i) (by omega) (h.at_ i hi) t ht
      refine ⟨by omega, op q, d, out q, ⟨hf, hne, (put1_not hput).1, fun jg w hg => ?_, ⟨tm1, H1, fun t x hx => ?_, fun id blk hl => ?_, q3⟩, h.obl q hq, hn.imp id ?_, ⟨v, hv⟩, ?_⟩, fun hnn => hI.no q hq hno d ?_⟩
      · obtain ⟨dg, z1, z2⟩ := hgd jg w hg
        exact ⟨dg, z1, keep dg _ (gd_rs hg z1) z2⟩
      · obtain ⟨h1, h2, v, rfl⟩ := q1 t x hx
        exact ⟨h1, keep t v h1 h2, v, rfl⟩
      · obtain ⟨h1, t, v, h2, h3, h4, h5⟩ := q2 id blk hl
        exact ⟨h.grow m (by omega) (Nat.le_refl _) id blk h1, t, v, h2, h3, keep t _ h3 h4, h5⟩
      · rintro ⟨blk, n, z1, z2, z3⟩
        have hl : lk (out q).new d = some blk := by rw [z1]; simp [lk]
        refine ⟨blk, n, z1, z2, h.newIn hq hl, ?_, z3⟩
        refine Classical.byContradiction fun hb => ?_
        rw [h.small hq (Nat.not_lt.1 hb)] at hl
        cases hl
      · have h1 := put1_new hput
        rw [hv] at h1 ⊢
        exact h.stays h1 m (by omega) (Nat.le_refl _) (fun i h1 hi => hdw.dst (k0 + q) (k0 + i) (op q) (op i) hf.at_ (h.at_ i hi) (by omega) d hf.dst)
      · rcases hn with z | ⟨blk, n, z1, _⟩
        · exact absurd z hnn
        · rw [z1]
          simp [lk]

theorem step1_gd {i : Nat} {o : Oper} {r : Out1} (h : step1 C ops hs i s o = some r) {d : Nat} {want : Bool} {y : V} (hy : r.t = .gd d want y) : ∃ j, o.guard = some (j, want) ∧ dstAt ops j = some d := by
  unfold step1 at h
  split at h
  · split at h
    · simp only [Option.some.injEq] at h
      subst h
      cases hy
    · cases h
  · rename_i j want' hg'
    split at h
    · rename_i d' hd'
      split at h
      · split at h
        · simp only [Option.some.injEq] at h
          subst h
          cases hy
          exact ⟨j, hg', hd'⟩
        · cases h
      · split at h
        · simp only [Option.some.injEq] at h
          subst h
          cases hy
          exact ⟨j, hg', hd'⟩
        · cases h
    · cases h

theorem wanted_of {o : Oper} {j : Nat} {w : Bool} {d : Tmp} (hg : o.guard = some (j, w)) (hd : dstAt ops j = some d) (hv : a.tmps.getD d undef = .bool w) : Region.wanted o (yielded ops.toArray a.tmps) = true := by
  unfold Region.wanted
  rw [hg]
  simp only
  have hlt : d < a.tmps.size := by
    refine Classical.byContradiction fun hc => ?_
    rw [Array.getD_eq_getD_getElem?, Array.getElem?_eq_none (Nat.not_lt.1 hc)] at hv
    cases hv
  have hy : yielded ops.toArray a.tmps j = some w := by
    unfold yielded
    unfold dstAt at hd
    have e1 : (ops.toArray[j]?).bind (·.dst) = some d := by simpa using hd
    rw [e1]
    simp only [Option.bind_some]
    rw [Array.getD_eq_getD_getElem?, Array.getElem?_eq_getElem hlt] at hv
    rw [Array.getElem?_eq_getElem hlt]
    have hv : a.tmps[d] = .bool w := hv
    rw [hv]
  rw [hy]
  cases w <;> rfl
/-- One more comes up. -/
theorem SegI.step (hT : TCok C.P C.tc) (h : Seg C ops hs k0 m op st out) (hdw : Dw ops) (hI : SegI C ops hs k0 pd G m op st out S φ a w) {k : Nat} (hk : k < m) (hkS : ¬S k)
    (hgS : ∀ i j w, i < m → S i → (op i).guard = some (j, w) → ∀ q, q < m → j = k0 + q → S q)
    (hrd : ∀ t, t ∈ rs ops (op k) → ∀ j, j < m → (op j).dst = some t → (j < k → S j) ∧ (k < j → ¬S j) ∧ j ≠ k) (hpn : ∀ t, t ∈ rs ops (op k) → ∀ j, pd j → dstAt ops j ≠ some t)
    (Q : Exit → Act → World → Prop) (K : Act → World → Prop) (hK : ∀ a' w' φ', SegI C ops hs k0 pd G m op st out (fun i => S i ∨ i = k) φ' a' w' → K a' w') :
    wpOp C.P ops.toArray Q (k0 + k) K a w := by
  have hop := h.at_ k hk
  have hX : ∀ b, G.X b → b < w.heap.size := hI.x.lt
  -- what the operation looks at
  have ht : TmRel (Imm φ G.X w) w φ (restr (rs ops (op k)) (st k).tm) a := fun t x hx => by
    obtain ⟨hin, hx⟩ := lk_restr hx
    rcases h.tm k (by omega) t x hx with rfl | ⟨j, hj, hd, rfl⟩ | ⟨hno, h0⟩
    · exact Rel.top
    · exact hI.tmS j (by omega) ((hrd t hin j (by omega) hd).1 hj) t hd
    · refine hI.tm0 t (fun i hi hSi hd => ?_) (hpn t hin) x h0
      have := hrd t hin i hi hd
      rcases Nat.lt_trichotomy i k with e | e | e
      · exact hno i e hd
      · exact this.2.2 e
      · exact this.2.1 e hSi
  have hH : HR (Imm φ G.X w) w φ (st k).H := fun id blk hl => by
    rcases h.H_ k (by omega) id blk hl with h0 | ⟨j, hj, h1⟩
    · exact hI.hr0 id blk h0
    · by_cases hj' : S j
      · exact hI.hrS j (by omega) hj' id blk h1
      · rw [hI.no j (by omega) hj' id (by simp [h1])]
        trivial
  have hnew := hI.no k hk hkS
  have hput := h.put k hk
  have hmain := step1_ok (a := a) (s := ⟨restr (rs ops (op k)) (st k).tm, (st k).H⟩) hT hI.ok hX hH (gok_of hI.frm hI.own) ht (h.one k hk) (h.obl k hk) hnew Q K (fun u w' φ' hg htr hb => by
    rw [show (resO hs (k0 + k) ops (st k).tm (op k)).dst = (op k).dst from (resO_op hs (k0 + k) ops _ _).2]
    have hx := hg.xt (X := G.X) hnew
    have hlt : ∀ id b c, φ id = .at b c → w'.heap[b]? = w.heap[b]? := fun id b c hs => hg.block b (hI.ok.lt id b c hs)
    have hdst : ∀ d, (op k).dst = some d → d < a.tmps.size := fun d hd => by
      have hp := hput
      rw [hd] at hp
      rw [hI.size]
      exact (put1_not hp).1
    have hget : ∀ t, (op k).dst ≠ some t → (a.put (op k).dst u).tmps.getD t undef = a.tmps.getD t undef := fun t ht => by
      cases hd : (op k).dst with
      | none => rfl
      | some d => rw [put_getD a d u t (hdst d hd), if_neg (fun e => ht (by rw [hd, e]))]
    have old : ∀ t x, (op k).dst ≠ some t → (∀ d want y, x = .gd d want y → (op k).dst ≠ some d) → TRel (Imm φ G.X w) w φ a.tmps t x → TRel (Imm φ' G.X w') w' φ' (a.put (op k).dst u).tmps t x := fun t x h1 h2 h3 => by
      cases x with
      | plain y =>
        show Rel _ _ _ _ _
        rw [hget t h1]
        exact Rel.xt h3 hx
      | gd d want y =>
        have h4 := hget d (h2 d want y rfl)
        refine ⟨fun e => ?_, fun e => ?_⟩
        · rw [hget t h1]
          exact Rel.xt (h3.1 (h4.symm.trans e)) hx
        · rw [hget t h1]
          exact h3.2 (fun e' => e (h4.trans e'))
    refine hK _ w' φ' ⟨?_, ?_, ?_, ?_, fun j hj => ?_, ?_, ?_, ?_, ?_, hI.x.gr hg, ?_, ?_, fun id hb h0 => by rw [hg.old id (h.small hk hb)]; exact hI.fix id hb h0⟩
    rotate_left 4
    · obtain ⟨z0, o1, d1, r1, z1, z2⟩ := hI.pdk j hj
      refine ⟨z0, o1, d1, r1, z1, fun hnn => ?_⟩
      have hn : lk (out k).new d1 = none := by
        rcases z1.new with z | ⟨blk, n, y1, y2, y3, y4⟩
        · exact absurd z hnn
        · cases hc : lk (out k).new d1 with
          | none => rfl
          | some b =>
            have h1 := h.fresh hk (id := d1) (by simp [hc])
            have h2 := h.grow (i := 0) k (by omega) (by omega) d1 blk y3
            rw [h1] at h2
            cases h2
      rw [hg.old d1 hn]
      exact z2 hnn
    rotate_right 4
    · cases (op k).dst <;> simp [Act.put, hI.size]
    · cases (op k).dst <;> simp [Act.put, hI.defers]
    · intro i hi hSi t hd
      rcases hSi with hSi | rfl
      · have hne : i ≠ k := fun e => hkS (e ▸ hSi)
        refine old t _ (hdw.dst (k0 + i) (k0 + k) (op i) (op k) (h.at_ i hi) hop (by omega) t hd) (fun d want y hy => ?_) (hI.tmS i hi hSi t hd)
        -- its guard's slot
        obtain ⟨j, hj0, hdj⟩ := step1_gd (h.one i hi) hy
        have hj : (op i).guard = some (j, want) := by
          rcases resO_cases hs (k0 + i) ops (st i).tm (op i) with e | ⟨e, _⟩
          · rw [e] at hj0; exact hj0
          · rw [e] at hj0; cases hj0
        intro hkd
        -- the guard's operation is k itself, or another one of the same slot
        unfold dstAt at hdj
        cases ho : ops[j]? with
        | none => simp [ho] at hdj
        | some oj =>
          have hdj' : oj.dst = some d := by simpa [ho] using hdj
          by_cases e : j = k0 + k
          · exact hkS (hgS i j want hi hSi hj k hk e)
          · exact hdw.dst (k0 + k) j (op k) oj hop ho e d hkd hdj'
      · refine htr _ (fun d want x hx' => ?_) t ?_
        · have hp := hput
          rw [hd] at hp
          have h2 := (put1_not hp).2
          rw [hx'] at h2
          have h3 : ¬ d = t := by simpa [notOn] using h2
          exact hget d (by rw [hd]; intro e; cases e; exact h3 rfl)
        · rw [hd, put_getD a t u t (hdst t hd), if_pos rfl]
    · intro t hno hnp x hx0
      have hne : (op k).dst ≠ some t := hno k hk (.inr rfl)
      refine old t x hne (fun d want y hy => ?_) (hI.tm0 t (fun i hi hSi => hno i hi (.inl hSi)) hnp x hx0)
      subst hy
      exact h.gd0 t d want y hx0 k hk
    · exact fun id blk hl => by
        have hn : lk (out k).new id = none := by
          cases hc : lk (out k).new id with
          | none => rfl
          | some b =>
            have h1 := h.fresh hk (id := id) (by simp [hc])
            have h2 := h.grow (i := 0) k (by omega) (by omega) id blk hl
            rw [h1] at h2
            cases h2
        rw [hg.old id hn]
        exact (hI.hr0 id blk hl).mono hx.im (fun b c hs => hlt id b c hs) hx.at_ hx.nil_
    · intro i hi hSi id blk hl
      rcases hSi with hSi | rfl
      · have hn : lk (out k).new id = none := by
          cases hc : lk (out k).new id with
          | none => rfl
          | some b => exact absurd (h.uniq hi hk (id := id) (by simp [hl]) (by simp [hc])) (fun e => hkS (e ▸ hSi))
        rw [hg.old id hn]
        exact (hI.hrS i hi hSi id blk hl).mono hx.im (fun b c hs => hlt id b c hs) hx.at_ hx.nil_
      · exact hb id blk hl
    · intro i hi hSi id hid
      have hne : i ≠ k := fun e => hSi (.inr e)
      have hn : lk (out k).new id = none := by
        cases hc : lk (out k).new id with
        | none => rfl
        | some b => exact absurd (h.uniq hi hk hid (by simp [hc])) hne
      rw [hg.old id hn]
      exact hI.no i hi (fun hS' => hSi (.inl hS')) id hid
    · refine ⟨fun i j b c c' hi hj => ?_, fun i b c hi => ?_, fun i b c hi => ?_, fun i hi => ?_⟩
      · by_cases h1 : lk (out k).new i = none <;> by_cases h2 : lk (out k).new j = none
        · rw [hg.old i h1] at hi
          rw [hg.old j h2] at hj
          exact hI.ok.inj _ _ _ _ _ hi hj
        · rw [hg.old i h1] at hi
          have := hI.ok.lt _ _ _ hi
          have := (hg.fresh j b c' h2 hj).1
          omega
        · rw [hg.old j h2] at hj
          have := hI.ok.lt _ _ _ hj
          have := (hg.fresh i b c h1 hi).1
          omega
        · exact hg.inj _ _ _ _ _ h1 h2 hi hj
      · by_cases h1 : lk (out k).new i = none
        · rw [hg.old i h1] at hi
          exact Nat.lt_of_lt_of_le (hI.ok.lt _ _ _ hi) hg.size
        · exact (hg.fresh i b c h1 hi).2
      · by_cases h1 : lk (out k).new i = none
        · rw [hg.old i h1] at hi
          exact hI.ok.free _ _ _ hi
        · intro hX'
          have := (hg.fresh i b c h1 hi).1
          have := hX b hX'
          omega
      · cases hc : lk (out k).new i with
        | none =>
          rw [hg.old i hc]
          exact hI.ok.dom i hi
        | some b =>
          rw [h.newIn hk hc] at hi
          cases hi
    · exact ⟨hg.os.trans hI.frm.os, hg.tape.trans hI.frm.tape, hg.output.trans hI.frm.output, Nat.le_trans hI.frm.size hg.size, fun b hb h0 hx => (hg.block b (Nat.lt_of_lt_of_le hb hI.frm.size)).trans (hI.frm.block b hb h0 hx)⟩
    · intro id b c hs
      by_cases h1 : lk (out k).new id = none
      · rw [hg.old id h1] at hs
        exact hI.own id b c hs
      · have := (hg.fresh id b c h1 hs).1
        have := hI.frm.size
        exact .inr (by omega))
  unfold wpOp
  have e : ops.toArray[k0 + k]? = some (op k) := by simpa using hop
  simp only [e]
  rcases resO_cases hs (k0 + k) ops (st k).tm (op k) with hr | ⟨hr, jg, wg, dg, hg1, hg2, hg3⟩
  · rw [hr] at hmain
    split
    · rename_i hw
      rw [if_pos hw] at hmain
      exact .inl hmain
    · rename_i hw
      rw [if_neg hw] at hmain
      exact hmain
  · have hv0 := ht dg (.plain (.val (.bool wg))) (by rw [lk_restr_mem (gd_rs hg1 hg2)]; exact hg3)
    have hv : Rel (Imm φ G.X w) w φ (.val (.bool wg)) (a.tmps.getD dg undef) := hv0
    have hw : Region.wanted (op k) (yielded ops.toArray a.tmps) = true := wanted_of hg1 hg2 hv.val_inv
    rw [hr] at hmain
    rw [hw, if_pos rfl]
    rw [if_pos (by rfl)] at hmain
    exact .inl hmain
/-- One that waited comes up. -/
theorem SegI.late (hT : TCok C.P C.tc) (h : Seg C ops hs k0 m op st out) (hdw : Dw ops) (hI : SegI C ops hs k0 pd G m op st out S φ a w) {k : Nat} (hk : pd k)
    (hpn : ∀ o, ops[k]? = some o → ∀ t, t ∈ rs ops o → ∀ j, pd j → dstAt ops j ≠ some t)
    (Q : Exit → Act → World → Prop) (K : Act → World → Prop) (hK : ∀ a' w' φ', SegI C ops hs k0 (fun j => pd j ∧ j ≠ k) G m op st out S φ' a' w' → K a' w') :
    wpOp C.P ops.toArray Q k K a w := by
  obtain ⟨hlt, o, d, r, hp, hdn⟩ := hI.pdk k hk
  obtain ⟨tm1, H1, q1, q2, q3⟩ := hp.one
  have hX : ∀ b, G.X b → b < w.heap.size := hI.x.lt
  have ht : TmRel (Imm φ G.X w) w φ tm1 a := fun t' y hy => by
    obtain ⟨hin, h2, _⟩ := q1 t' y hy
    exact hI.tm0 _ (fun i hi _ => hp.flt.last (k0 + i) (op i) (by omega) (h.at_ i hi) t' hin) (hpn o hp.flt.at_ _ hin) _ h2
  have hr1 : HR (Imm φ G.X w) w φ H1 := fun id blk hl => hI.hr0 id blk (q2 id blk hl).1
  obtain ⟨v, hv⟩ := hp.pl
  -- what is made has the slot's number
  have hdd : ∀ id, lk r.new id ≠ none → id = d ∧ r.new ≠ [] := fun id hid => by
    rcases hp.new with z | ⟨blk, n, z1, _⟩
    · rw [z] at hid
      exact absurd rfl hid
    · rw [z1] at hid ⊢
      refine ⟨Classical.byContradiction fun e => hid ?_, by simp⟩
      simp [lk, e]
  have hnew : ∀ id, lk r.new id ≠ none → φ id = .none := fun id hid => by
    obtain ⟨e, h2⟩ := hdd id hid
    rw [e]
    exact hdn h2
  have hdH : ∀ id blk, lk r.new id = some blk → lk (st 0).H id = some blk ∧ id < BIG := fun id blk hl => by
    rcases hp.new with z | ⟨blk0, n, z1, z2, z3, z4, _⟩
    · rw [z] at hl
      cases hl
    · rw [z1] at hl
      simp only [lk] at hl
      split at hl
      · rename_i e
        simp at e
        subst e
        cases hl
        exact ⟨z3, z4⟩
      · cases hl
  have hold : ∀ id, (∀ b, lk (st 0).H id ≠ some b) → lk r.new id = none := fun id hid => by
    cases hc : lk r.new id with
    | none => rfl
    | some b => exact absurd (hdH id b hc).1 (hid b)
  have hwant : Region.wanted o (yielded ops.toArray a.tmps) = true := by
    cases hgo : o.guard with
    | none => unfold Region.wanted; rw [hgo]
    | some pr =>
      obtain ⟨jg, wg⟩ := pr
      obtain ⟨dg, z1, z2⟩ := hp.gd jg wg hgo
      have hin := gd_rs hgo z1
      have hv : Rel (Imm φ G.X w) w φ (.val (.bool wg)) (a.tmps.getD dg undef) := hI.tm0 dg (fun i hi _ => hp.flt.last (k0 + i) (op i) (by omega) (h.at_ i hi) dg hin) (hpn o hp.flt.at_ _ hin) _ z2
      exact wanted_of hgo z1 hv.val_inv
  have hmain := step1_ok (a := a) (s := ⟨tm1, H1⟩) hT hI.ok hX hr1 (gok_of hI.frm hI.own) ht q3 hp.obl hnew Q K (fun u w' φ' hg htr hb => by
    rw [show (Oper.dst { o with guard := none }) = o.dst from rfl]
    have hx := hg.xt (X := G.X) hnew
    have hltb : ∀ id b c, φ id = .at b c → w'.heap[b]? = w.heap[b]? := fun id b c hs => hg.block b (hI.ok.lt id b c hs)
    have hdst : d < a.tmps.size := by rw [hI.size]; exact hp.lt
    have e0 : a.put o.dst u = a.put (some d) u := by rw [hp.flt.dst]
    have hget : ∀ t, t ≠ d → (a.put o.dst u).tmps.getD t undef = a.tmps.getD t undef := fun t ht => by
      rw [e0, put_getD a d u t hdst, if_neg ht]
    have old : ∀ t x, t ≠ d → (∀ d' want y, x = .gd d' want y → d' ≠ d) → TRel (Imm φ G.X w) w φ a.tmps t x → TRel (Imm φ' G.X w') w' φ' (a.put o.dst u).tmps t x := fun t x h1 h2 h3 => by
      cases x with
      | plain y =>
        show Rel _ _ _ _ _
        rw [hget t h1]
        exact Rel.xt h3 hx
      | gd d' want y =>
        have h4 := hget d' (h2 d' want y rfl)
        refine ⟨fun e => ?_, fun e => ?_⟩
        · rw [hget t h1]
          exact Rel.xt (h3.1 (h4.symm.trans e)) hx
        · rw [hget t h1]
          exact h3.2 (fun e' => e (h4.trans e'))
    have same : ∀ (j q : Nat) (oq : Oper) (w1 : Bool), dstAt ops j = some d → ops[q]? = some oq → oq.guard = some (j, w1) → False := fun j q oq w1 hj hq hgd => by
      unfold dstAt at hj
      cases ho : ops[j]? with
      | none => simp [ho] at hj
      | some oj =>
        have hj' : oj.dst = some d := by simpa [ho] using hj
        by_cases e : j = k
        · subst e
          exact hp.flt.ng q oq w1 hq hgd
        · exact hdw.dst j k oj o ho hp.flt.at_ (Ne.symm e) d hj' hp.flt.dst
    have hbig : ∀ id, BIG ≤ id → lk r.new id = none := fun id hb => by
      cases hc : lk r.new id with
      | none => rfl
      | some b =>
        have := (hdH id b hc).2
        omega
    refine hK _ w' φ' ⟨?_, ?_, ?_, ?_, fun j hj => ?_, ?_, ?_, ?_, ?_, hI.x.gr hg, ?_, ?_, fun id hb h0 => by rw [hg.old id (hbig id hb)]; exact hI.fix id hb h0⟩
    rotate_left 4
    · obtain ⟨z0, o1, d1, r1, z1, z2⟩ := hI.pdk j hj.1
      refine ⟨z0, o1, d1, r1, z1, fun hnn => ?_⟩
      rw [hg.old d1 ?_]
      · exact z2 hnn
      · cases hc : lk r.new d1 with
        | none => rfl
        | some b =>
          have := (hdd d1 (by simp [hc])).1
          subst this
          exact absurd hp.flt.dst (hdw.dst j k o1 o z1.flt.at_ hp.flt.at_ (Ne.symm hj.2) d1 z1.flt.dst)
    rotate_right 4
    · rw [e0]; simp [Act.put, hI.size]
    · rw [e0]; simp [Act.put, hI.defers]
    · intro i hi hSi t1 hd1
      refine old t1 _ (fun e => ?_) (fun d' want y hy e => ?_) (hI.tmS i hi hSi t1 hd1)
      · subst e
        exact hdw.dst (k0 + i) k (op i) o (h.at_ i hi) hp.flt.at_ (by omega) t1 hd1 hp.flt.dst
      · subst e
        obtain ⟨j, hj0, hdj⟩ := step1_gd (h.one i hi) hy
        have hj : (op i).guard = some (j, want) := by
          rcases resO_cases hs (k0 + i) ops (st i).tm (op i) with e | ⟨e, _⟩
          · rw [e] at hj0; exact hj0
          · rw [e] at hj0; cases hj0
        exact same j (k0 + i) (op i) want hdj (h.at_ i hi) hj
    · intro t1 hno hnp x1 hx1
      by_cases e : t1 = d
      · subst e
        rw [hp.val] at hx1
        cases hx1
        rw [hv]
        have := htr (a.put o.dst u).tmps (fun d' want y hy => by rw [hv] at hy; cases hy) t1 (by rw [e0, put_getD a t1 u t1 hdst, if_pos rfl])
        rw [hv] at this
        exact this
      · refine old t1 x1 e (fun d' want y hy e' => ?_) (hI.tm0 t1 hno (fun j hj => ?_) x1 hx1)
        · subst e' hy
          obtain ⟨j, q, oq, w1, h1, h2, h3⟩ := h.gd1 t1 _ want y hx1
          exact same j q oq w1 h1 h2 h3
        · by_cases e2 : j = k
          · subst e2
            unfold dstAt
            rw [hp.flt.at_]
            intro e3
            have : some d = some t1 := hp.flt.dst.symm.trans e3
            cases this
            exact e rfl
          · exact hnp j ⟨hj, e2⟩
    · exact fun id blk hl => by
        cases hc : lk r.new id with
        | none =>
          rw [hg.old id hc]
          exact (hI.hr0 id blk hl).mono hx.im (fun b c hs => hltb id b c hs) hx.at_ hx.nil_
        | some b =>
          have := (hdH id b hc).1
          rw [hl] at this
          cases this
          exact hb id blk hc
    · intro i hi hSi id blk hl
      rw [hg.old id (hold id fun b hb0 => ?_)]
      · exact (hI.hrS i hi hSi id blk hl).mono hx.im (fun b c hs => hltb id b c hs) hx.at_ hx.nil_
      · have h1 := h.fresh hi (id := id) (by simp [hl])
        have h2 := h.grow (i := 0) i (by omega) (by omega) id b hb0
        rw [h1] at h2
        cases h2
    · intro i hi hSi id hid
      rw [hg.old id (hold id fun b hb0 => ?_)]
      · exact hI.no i hi hSi id hid
      · have h1 := h.fresh hi (id := id) hid
        have h2 := h.grow (i := 0) i (by omega) (by omega) id b hb0
        rw [h1] at h2
        cases h2
    · refine ⟨fun i j b c c' hi hj => ?_, fun i b c hi => ?_, fun i b c hi => ?_, fun i hi => ?_⟩
      · by_cases h1 : lk r.new i = none <;> by_cases h2 : lk r.new j = none
        · rw [hg.old i h1] at hi
          rw [hg.old j h2] at hj
          exact hI.ok.inj _ _ _ _ _ hi hj
        · rw [hg.old i h1] at hi
          have := hI.ok.lt _ _ _ hi
          have := (hg.fresh j b c' h2 hj).1
          omega
        · rw [hg.old j h2] at hj
          have := hI.ok.lt _ _ _ hj
          have := (hg.fresh i b c h1 hi).1
          omega
        · exact hg.inj _ _ _ _ _ h1 h2 hi hj
      · by_cases h1 : lk r.new i = none
        · rw [hg.old i h1] at hi
          exact Nat.lt_of_lt_of_le (hI.ok.lt _ _ _ hi) hg.size
        · exact (hg.fresh i b c h1 hi).2
      · by_cases h1 : lk r.new i = none
        · rw [hg.old i h1] at hi
          exact hI.ok.free _ _ _ hi
        · intro hX'
          have := (hg.fresh i b c h1 hi).1
          have := hX b hX'
          omega
      · rw [hg.old i (hold i fun b hb0 => ?_)]
        · exact hI.ok.dom i hi
        · have h2 := h.grow (i := 0) m (by omega) (Nat.le_refl _) i b hb0
          rw [hi] at h2
          cases h2
    · exact ⟨hg.os.trans hI.frm.os, hg.tape.trans hI.frm.tape, hg.output.trans hI.frm.output, Nat.le_trans hI.frm.size hg.size, fun b hb h0 hx => (hg.block b (Nat.lt_of_lt_of_le hb hI.frm.size)).trans (hI.frm.block b hb h0 hx)⟩
    · intro id b c hs
      by_cases h1 : lk r.new id = none
      · rw [hg.old id h1] at hs
        exact hI.own id b c hs
      · have := (hg.fresh id b c h1 hs).1
        have := hI.frm.size
        exact .inr (by omega))
  unfold wpOp
  have e : ops.toArray[k]? = some o := by simpa using hp.flt.at_
  simp only [e]
  rw [hwant, if_pos rfl]
  rw [if_pos (by rfl)] at hmain
  exact .inl hmain
end
end Go.Ab
