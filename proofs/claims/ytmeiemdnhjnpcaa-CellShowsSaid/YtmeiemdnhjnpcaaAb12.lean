/- The reader's state from operation to operation. -/
import Derived.Test.YtmeiemdnhjnpcaaAb11
set_option linter.unusedSimpArgs false
set_option linter.unusedVariables false
namespace Go.Ab
open Go.RowKit

def clean (d : Tmp) : List (Nat × T) → List (Nat × T)
  | [] => []
  | (t, .gd d' w x) :: r => (t, if d' == d then .plain .top else .gd d' w x) :: clean d r
  | (t, .plain x) :: r => (t, .plain x) :: clean d r
def notOn (d : Tmp) : T → Bool
  | .gd d' _ _ => !(d' == d)
  | .plain _ => true
def putT (n : Nat) (dst : Option Tmp) (t : T) (tm : List (Nat × T)) : Option (List (Nat × T)) :=
  match dst with
  | none => some tm
  | some d => if Nat.blt d n && notOn d t then some (ins d t (clean d tm)) else none
def insAll : List (Nat × Blk) → List (Nat × Blk) → Option (List (Nat × Blk))
  | [], H => some H
  | (id, b) :: r, H => match lk H id, insAll r H with
    | none, some H' => if (lk r id).isNone && Nat.blt id BIG then some (ins id b H') else none
    | _, _ => none
def put1 (n : Nat) (dst : Option Tmp) (t : T) (new : List (Nat × Blk)) (s : St) : Option St :=
  match putT n dst t s.tm, insAll new s.H with
  | some tm, some H => some ⟨tm, H⟩
  | _, _ => none

/-- What was true when the call began, and what is asked of its blocks. -/
structure Gl where
  X : Nat → Prop
  φ0 : Phi
  w0 : World
  gok : GOk (Imm φ0 X w0) w0
structure Inv (C : Cx) (G : Gl) (s : St) (φ : Phi) (a : Act) (w : World) : Prop where
  size : a.tmps.size = C.n
  defers : a.defers = []
  tm : TmRel (Imm φ G.X w) w φ s.tm a
  hr : HR (Imm φ G.X w) w φ s.H
  ok : Phi.ok φ G.X w s.H
  x : ∀ b, G.X b → b < G.w0.heap.size
  frm : Frm G.φ0 G.w0 w
  own : ∀ id b c, φ id = .at b c → (∃ id0 c0, G.φ0 id0 = .at b c0) ∨ G.w0.heap.size ≤ b
  fix : ∀ id b, BIG ≤ id → G.φ0 id = .at b none → φ id = .at b none ∨ lk s.H id = none
theorem gok_of {G : Gl} {φ : Phi} {w : World} (frm : Frm G.φ0 G.w0 w) (own : ∀ id b c, φ id = .at b c → (∃ id0 c0, G.φ0 id0 = .at b c0) ∨ G.w0.heap.size ≤ b) : GOk (Imm φ G.X w) w :=
  G.gok.mono fun b hb => ⟨⟨Nat.lt_of_lt_of_le hb.1 frm.size, fun id c h => by
    rcases own id b c h with ⟨id0, c0, h0⟩ | h0
    · exact hb.2.1 _ _ h0
    · have := hb.1
      omega, hb.2.2⟩, frm.block b hb.1 (fun id c h => hb.2.1 id c h)⟩
theorem Inv.gok {C : Cx} {G : Gl} {s : St} {φ : Phi} {a : Act} {w : World} (hI : Inv C G s φ a w) : GOk (Imm φ G.X w) w := gok_of hI.frm hI.own

section
variable {I : Nat → Prop} {P : Program} {w w' : World} {φ φ' : Phi} {X : Nat → Prop} {tm : List (Nat × T)} {H : List (Nat × Blk)} {a : Act} {C : Cx} {G : Gl} {s s' : St}

theorem lk_clean {d t : Nat} {x : T} : ∀ {tm : List (Nat × T)}, lk (clean d tm) t = some x → x = .plain .top ∨ (lk tm t = some x ∧ notOn d x = true)
  | [], h => by cases h
  | (k, .plain y) :: r, h => by
    simp only [clean, lk] at h ⊢
    split at h
    · rename_i e
      rw [if_pos e]
      cases h
      exact .inr ⟨rfl, rfl⟩
    · rename_i e
      rw [if_neg e]
      exact lk_clean h
  | (k, .gd d' w y) :: r, h => by
    simp only [clean, lk] at h ⊢
    split at h
    · rename_i e
      rw [if_pos e]
      split at h
      · cases h
        exact .inl rfl
      · rename_i e2
        cases h
        exact .inr ⟨rfl, by simpa [notOn] using e2⟩
    · rename_i e
      rw [if_neg e]
      exact lk_clean h

theorem put_getD (a : Act) (d : Tmp) (u : Value) (t : Tmp) (hd : d < a.tmps.size) : (a.put (some d) u).tmps.getD t undef = if t = d then u else a.tmps.getD t undef := by
  simp only [Act.put, Array.getD_eq_getD_getElem?, Array.getElem?_setIfInBounds]
  by_cases h : t = d
  · subst h
    simp [hd]
  · simp [h, show ¬ d = t from fun e => h e.symm]
theorem lk_insAll : ∀ {new H H' : List (Nat × Blk)}, insAll new H = some H' → ∀ id, lk H' id = match lk new id with | some b => some b | none => lk H id
  | [], H, H', h, id => by cases h; rfl
  | (i, b) :: r, H, H', h, id => by
    unfold insAll at h
    split at h
    · rename_i H1 hl hr
      split at h
      · cases h
        rw [lk_ins, lk_insAll hr]
        simp only [lk, beq_iff_eq]
        by_cases e : id = i
        · simp [e]
        · rw [if_neg e, if_neg e]
      · cases h
    · cases h
theorem insAll_fresh : ∀ {new H H' : List (Nat × Blk)}, insAll new H = some H' → ∀ id, lk new id ≠ none → lk H id = none
  | [], H, H', h, id, hn => absurd rfl hn
  | (i, b) :: r, H, H', h, id, hn => by
    unfold insAll at h
    split at h
    · rename_i H1 hl hr
      split at h
      · simp only [lk, beq_iff_eq] at hn
        by_cases e : id = i
        · subst e; exact hl
        · rw [if_neg e] at hn
          exact insAll_fresh hr id hn
      · cases h
    · cases h

theorem insAll_small : ∀ {new H H' : List (Nat × Blk)}, insAll new H = some H' → ∀ id, lk new id ≠ none → id < BIG
  | [], H, H', h, id, hn => absurd rfl hn
  | (i, b) :: r, H, H', h, id, hn => by
    unfold insAll at h
    split at h
    · rename_i H1 hl hr
      split at h
      · rename_i hc
        simp only [lk, beq_iff_eq] at hn
        by_cases e : id = i
        · subst e
          simp only [Bool.and_eq_true, Nat.blt_eq] at hc
          exact hc.2
        · rw [if_neg e] at hn
          exact insAll_small hr id hn
      · cases h
    · cases h
theorem insAll_big {new H H' : List (Nat × Blk)} (h : insAll new H = some H') {id : Nat} (hb : BIG ≤ id) : lk new id = none := by
  cases hn : lk new id with
  | none => rfl
  | some b =>
    have := insAll_small h id (by rw [hn]; simp)
    omega
/-- The new state stands, memory having grown. -/
theorem Inv.put (hI : Inv C G s φ a w) {dst : Option Tmp} {t : T} {new : List (Nat × Blk)} (h : put1 C.n dst t new s = some s') {u : Value} (hg : Gr φ w φ' w' new)
    (ht : ∀ tmps : Array Value, (∀ d want x, t = .gd d want x → tmps.getD d undef = a.tmps.getD d undef) → ∀ k, tmps.getD k undef = u → TRel (Imm φ' G.X w') w' φ' tmps k t)
    (hb : ∀ id blk, lk new id = some blk → BlkRel (Imm φ' G.X w') w' φ' (φ' id) blk) : Inv C G s' φ' (a.put dst u) w' := by
  unfold put1 at h
  split at h
  case h_2 => cases h
  rename_i tm' H' htm hH
  cases h
  have hfr : ∀ id, lk new id ≠ none → φ id = .none := fun id hid => hI.ok.dom id (insAll_fresh hH id hid)
  have hx := hg.xt (X := G.X) hfr
  have hlt : ∀ id b c, φ id = .at b c → w'.heap[b]? = w.heap[b]? := fun id b c hs => hg.block b (hI.ok.lt id b c hs)
  -- a slot that is not written reads as it did
  have old : ∀ k x, lk s.tm k = some x → ∀ tmps : Array Value, tmps.getD k undef = a.tmps.getD k undef → (∀ d want y, x = .gd d want y → tmps.getD d undef = a.tmps.getD d undef) → TRel (Imm φ' G.X w') w' φ' tmps k x := fun k x hk tmps h1 h2 => by
    have := hI.tm k x hk
    cases x with
    | plain y =>
      show Rel _ _ _ _ _
      rw [h1]
      exact Rel.xt this hx
    | gd d want y =>
      have h3 := h2 d want y rfl
      refine ⟨fun e => ?_, fun e => ?_⟩
      · rw [h1]
        exact Rel.xt (this.1 (h3.symm.trans e)) hx
      · rw [h1]
        exact this.2 (fun e' => e (h3.trans e'))
  refine ⟨?_, ?_, ?_, ?_, ?_, hI.x, ?_, ?_, fun id b hid h0 => ?_⟩
  rotate_right
  · have hn := insAll_big hH hid
    rw [hg.old id hn, lk_insAll hH, hn]
    exact hI.fix id b hid h0
  · cases dst <;> simp [Act.put, hI.size]
  · cases dst <;> simp [Act.put, hI.defers]
  · cases dst with
    | none =>
      simp only [putT, Option.some.injEq] at htm
      subst htm
      exact fun k x hk => old k x hk _ rfl (fun _ _ _ _ => rfl)
    | some d =>
      simp only [putT] at htm
      split at htm
      · rename_i hc
        cases htm
        simp only [Bool.and_eq_true] at hc
        have hd : d < a.tmps.size := by rw [hI.size]; simpa using hc.1
        intro k x hk
        rw [lk_ins] at hk
        split at hk
        · rename_i e
          subst e
          cases hk
          refine ht _ (fun d' want y e => ?_) _ (by rw [put_getD a k u k hd, if_pos rfl])
          subst e
          have : ¬ d' = k := by simpa [notOn] using hc.2
          rw [put_getD a k u d' hd, if_neg this]
        · rename_i e
          rcases lk_clean hk with rfl | ⟨hk', hno⟩
          · exact Rel.top
          · refine old k x hk' _ (by rw [put_getD a d u k hd, if_neg e]) (fun d' want y e' => ?_)
            subst e'
            have : ¬ d' = d := by simpa [notOn] using hno
            rw [put_getD a d u d' hd, if_neg this]
      · cases htm
  · intro id blk hl
    rw [lk_insAll hH] at hl
    split at hl
    · rename_i b hn
      cases hl
      exact hb id _ hn
    · rename_i hn
      rw [hg.old id hn]
      exact (hI.hr id blk hl).mono hx.im (fun b c hs => hlt id b c hs) hx.at_ hx.nil_
  · refine ⟨fun i j b c c' hi hj => ?_, fun i b c hi => ?_, fun i b c hi => ?_, fun i hi => ?_⟩
    · by_cases h1 : lk new i = none <;> by_cases h2 : lk new j = none
      · rw [hg.old i h1] at hi
        rw [hg.old j h2] at hj
        exact hI.ok.inj _ _ _ _ _ hi hj
      · rw [hg.old i h1] at hi
        have := hI.ok.lt _ _ _ hi
        have := (hg.fresh j b c' h2 hj).1
        omega
      · rw [hg.old j h2] at hj
        have := hI.ok.lt _ _ _ hj
        have := (hg.fresh i b c h1 hi).1
        omega
      · exact hg.inj _ _ _ _ _ h1 h2 hi hj
    · by_cases h1 : lk new i = none
      · rw [hg.old i h1] at hi
        exact Nat.lt_of_lt_of_le (hI.ok.lt _ _ _ hi) hg.size
      · exact (hg.fresh i b c h1 hi).2
    · by_cases h1 : lk new i = none
      · rw [hg.old i h1] at hi
        exact hI.ok.free _ _ _ hi
      · intro hX
        have := (hg.fresh i b c h1 hi).1
        have := hI.x b hX
        have := hI.frm.size
        omega
    · rw [lk_insAll hH] at hi
      split at hi
      · cases hi
      · rename_i hn
        rw [hg.old i hn]
        exact hI.ok.dom i hi
  · exact ⟨hg.os.trans hI.frm.os, hg.tape.trans hI.frm.tape, hg.output.trans hI.frm.output, Nat.le_trans hI.frm.size hg.size, fun b hb h0 => (hg.block b (Nat.lt_of_lt_of_le hb hI.frm.size)).trans (hI.frm.block b hb h0)⟩
  · intro id b c hs
    by_cases h1 : lk new id = none
    · rw [hg.old id h1] at hs
      exact hI.own id b c hs
    · have := (hg.fresh id b c h1 hs).1
      have := hI.frm.size
      exact .inr (by omega)
end
end Go.Ab
