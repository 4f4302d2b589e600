/- Maps that are written; slices that are cleared. -/
import Derived.Test.YtcekfepgdfcinaaGreatDoorAb15b
set_option linter.unusedSimpArgs false
set_option linter.unusedVariables false
namespace Go.Ab
open Go.RowKit

mutual
/-- Other numbers, whatever they are. -/
def renG (g : Nat → Nat) : V → V
  | .ptr id off => .ptr (g id) off
  | .sl id off n => .sl (g id) off n
  | .agg false cs => .agg false (renGL g cs)
  | .tup cs => .tup (renGL g cs)
  | .clo fn a b => .clo fn (renGL g a) (renGL g b)
  | .mp id => .mp (g id)
  | x => x
  termination_by structural x => x
def renGL (g : Nat → Nat) : List V → List V
  | [] => []
  | x :: r => renG g x :: renGL g r
  termination_by structural x => x
end
theorem renGL_eq (g : Nat → Nat) (l : List V) : renGL g l = l.map (renG g) := by
  induction l with
  | nil => simp [renGL]
  | cons x r ih => simp [renGL, ih]
def renGB (g : Nat → Nat) (b : Blk) : Blk := if b.flat then b else { b with cells := renGL g b.cells }
section
variable {I : Nat → Prop} {w : World} {φ : Phi} {x : V} {u : Value}
theorem Rel.renG {ok : Nat → Bool} {g : Nat → Nat} (h : Rel I w φ x u) : inIds ok x = true → ∀ φ2 : Phi, (∀ id, ok id = true → φ id ≠ .none → φ2 (g id) = φ id) → Rel I w φ2 (Ab.renG g x) u := by
  induction h with
  | val h => exact fun _ _ _ => by simpa [Ab.renG] using Rel.val h
  | ptr h =>
      intro hi φ2 hk
      simp only [inIds] at hi
      simp only [Ab.renG]
      exact .ptr (by rw [hk _ hi (by rw [h]; simp)]; exact h)
  | sl h a b c =>
      intro hi φ2 hk
      simp only [inIds] at hi
      simp only [Ab.renG]
      exact .sl (by rw [hk _ hi (by rw [h]; simp)]; exact h) a b c
  | slnil h =>
      intro hi φ2 hk
      simp only [inIds] at hi
      simp only [Ab.renG]
      exact .slnil (by rw [hk _ hi (by rw [h]; simp)]; exact h)
  | vs a b c d e f g => exact fun _ _ _ => by simpa [Ab.renG] using Rel.vs a b c d e f g
  | vp a b c d => exact fun _ _ _ => by simpa [Ab.renG] using Rel.vp a b c d
  | @agg φ fl cs us hl hr h1 ih =>
    intro hi φ2 hk
    cases fl with
    | true => simpa [Ab.renG] using Rel.agg (φ := φ2) (fl := true) hl (by simpa using hr) h1
    | false =>
      simp only [inIds] at hi
      simp only [Ab.renG, renGL_eq]
      refine .agg (by simpa using hl) (fun i hi2 => ?_) h1
      have hi' : i < cs.length := by simpa using hi2
      simpa using ih i hi' (inIdsL_get hi i hi') φ2 (by simpa using hk)
  | @tup φ cs us hl hr ih =>
    intro hi φ2 hk
    simp only [inIds] at hi
    simp only [Ab.renG, renGL_eq]
    refine .tup (by simpa using hl) (fun i hi2 => ?_)
    have hi' : i < cs.length := by simpa using hi2
    simpa using ih i hi' (inIdsL_get hi i hi') φ2 hk
  | @clo φ fn fs cap us vs hl hr hl2 hr2 ih ih2 =>
    intro hi φ2 hk
    simp only [inIds, Bool.and_eq_true] at hi
    simp only [Ab.renG, renGL_eq]
    refine .clo (by simpa using hl) (fun i hi2 => ?_) (by simpa using hl2) (fun i hi2 => ?_)
    · have hi' : i < fs.length := by simpa using hi2
      simpa using ih i hi' (inIdsL_get hi.1 i hi') φ2 hk
    · have hi' : i < cap.length := by simpa using hi2
      simpa using ih2 i hi' (inIdsL_get hi.2 i hi') φ2 hk
  | mp h =>
      intro hi φ2 hk
      simp only [inIds] at hi
      simp only [Ab.renG]
      exact .mp (by rw [hk _ hi (by rw [h]; simp)]; exact h)
  | bo => exact fun _ _ _ => by simpa [Ab.renG] using Rel.bo
  | top => exact fun _ _ _ => by simpa [Ab.renG] using Rel.top
theorem BlkRel.renG {ok : Nat → Bool} {g : Nat → Nat} {s : Slot} {b : Blk} (h : BlkRel I w φ s b) (hi : blkIn ok b = true) (φ2 : Phi) (hk : ∀ id, ok id = true → φ id ≠ .none → φ2 (g id) = φ id) : BlkRel I w φ2 s (renGB g b) := by
  unfold renGB
  cases hf : b.flat with
  | true =>
    simp only [if_true]
    exact h.to (fun _ _ _ => rfl) (fun x _ u hx => by rw [hf] at hx ⊢; exact hx)
  | false =>
    simp only [Bool.false_eq_true, if_false]
    simp only [blkIn, hf, Bool.false_or] at hi
    have := h.imp (I' := I) (w' := w) (φ' := φ2) (Ab.renG g) false (fun _ _ _ => rfl) (fun x hx u hu => by
      rw [hf] at hu
      obtain ⟨i, hl, rfl⟩ := List.getElem_of_mem hx
      exact Rel.renG hu (inIdsL_get hi i hl) φ2 hk)
    rw [renGL_eq]
    exact this
end

/-- Which block of the contract is which one of the caller's. -/
def pairsL : List V → List (Nat × Nat)
  | [] => []
  | .sl c i _ :: r => (c, i) :: pairsL r
  | _ :: r => pairsL r
def pairsOf : Option V → List (Nat × Nat)
  | some (.tup l) => pairsL l
  | _ => []
def distinct : List Nat → Bool
  | [] => true
  | x :: r => !(r.contains x) && distinct r
def cOf (ps : List (Nat × Nat)) (i : Nat) : Option Nat :=
  match ps with
  | [] => none
  | (c, j) :: r => if Nat.beq j i then some c else cOf r i
def okP (ps : List (Nat × Nat)) (i : Nat) : Bool := (cOf ps i).isSome
def gIn (ps : List (Nat × Nat)) (i : Nat) : Nat := (cOf ps i).getD 0
def small (i : Nat) : Bool := Nat.blt i BIG
def okO (ps : List (Nat × Nat)) (j : Nat) : Bool := small j || (lk ps j).isSome
def gOut (ps : List (Nat × Nat)) (k : Nat) (j : Nat) : Nat := match lk ps j with | some i => i | none => j + k
def ownIn (H : List (Nat × Blk)) (pp : List (Nat × Nat)) : List (Nat × Nat) → Option (List (Nat × Blk))
  | [] => some []
  | (c, i) :: r => match lk H i, ownIn H pp r with
    | some b, some l => if blkIn (okP pp) b then some ((c, renGB (gIn pp) b) :: l) else none
    | _, _ => none
def setOwn (Hout : List (Nat × Blk)) (H : List (Nat × Blk)) (pp : List (Nat × Nat)) (k : Nat) : List (Nat × Nat) → Option (List (Nat × Blk))
  | [] => some H
  | (c, i) :: r => match lk Hout c, lk H i, setOwn Hout H pp k r with
    | some b', some b, some H1 => if (mv b == mv b') && (blkIn (okO pp) b' && Nat.ble BIG c) then some (ins i (renGB (gOut pp k) b') H1) else none
    | _, _, _ => none
/-- Of these the place may be another one behind the call. -/
def movers (H : List (Nat × Blk)) : List (Nat × Nat) → List Nat
  | [] => []
  | (c, i) :: r => match lk H i with
    | some b => if mv b && Nat.blt c BIG2 then i :: movers H r else movers H r
    | none => movers H r
/-- What may not be moved is lent to be left where it is. -/
def stays : List (Nat × Nat) → Bool
  | [] => true
  | (c, i) :: r => (Nat.blt i BIG2 || Nat.ble BIG2 c) && stays r
theorem stays_get : ∀ {ps : List (Nat × Nat)} {c i : Nat}, stays ps = true → (c, i) ∈ ps → BIG2 ≤ i → BIG2 ≤ c
  | (c', i') :: r, c, i, h, hm, hi => by
    simp only [stays, Bool.and_eq_true, Bool.or_eq_true, Nat.blt_eq, Nat.ble_eq] at h
    rcases List.mem_cons.1 hm with e | hm
    · cases e
      rcases h.1 with h1 | h1
      · omega
      · exact h1
    · exact stays_get h.2 hm hi
def notIn (l : List Nat) (j : Nat) : Bool := !(l.contains j)
def killTs (l : List Nat) : List (Nat × T) → List (Nat × T)
  | [] => []
  | (t, x) :: r => (t, match tIn (notIn l) x with | true => x | false => .plain .top) :: killTs l r
theorem lk_killTs {l : List Nat} {t : Nat} {x : T} : ∀ {tm : List (Nat × T)}, lk (killTs l tm) t = some x → x = .plain .top ∨ (lk tm t = some x ∧ tIn (notIn l) x = true)
  | [], h => by cases h
  | (q, y) :: r, h => by
    simp only [killTs, lk, beq_iff_eq] at h ⊢
    split at h
    · rename_i e
      rw [if_pos e]
      split at h
      · rename_i hy
        cases h
        exact .inr ⟨rfl, hy⟩
      · cases h
        exact .inl rfl
    · rename_i e
      rw [if_neg e]
      exact lk_killTs h
/-- What is not lent does not lead to what may be moved. -/
def othersOk (ps : List (Nat × Nat)) (l : List Nat) : List (Nat × Blk) → Bool
  | [] => true
  | (j, b) :: r => (okP ps j || blkIn (notIn l) b) && othersOk ps l r
theorem othersOk_get {ps : List (Nat × Nat)} {l : List Nat} : ∀ {H : List (Nat × Blk)} {j : Nat} {b : Blk}, othersOk ps l H = true → lk H j = some b → okP ps j = false → blkIn (notIn l) b = true
  | [], _, _, _, h, _ => by cases h
  | (i, b') :: r, j, b, hr, h, hs => by
    simp only [othersOk, Bool.and_eq_true, Bool.or_eq_true] at hr
    simp only [lk, beq_iff_eq] at h
    split at h
    · rename_i e
      cases h
      subst e
      rcases hr.1 with h1 | h1
      · rw [hs] at h1
        cases h1
      · exact h1
    · exact othersOk_get hr.2 h hs
def ownArgs (ps : List (Nat × Nat)) : List V → Option (List V)
  | [] => some []
  | x :: r => match inIds (okP ps) x, ownArgs ps r with
    | true, some ys => some (renG (gIn ps) x :: ys)
    | _, _ => none
/-- What is new, by the caller's numbers. -/
def restH (g : Nat → Nat) (k : Nat) : List (Nat × Blk) → List (Nat × Blk)
  | [] => []
  | (i, b) :: r => if small i then (i + k, renGB g b) :: restH g k r else restH g k r
def restOk (ps : List (Nat × Nat)) : List (Nat × Blk) → Bool
  | [] => true
  | (i, b) :: r => (!(small i) || blkIn (okO ps) b) && restOk ps r
/-- The own blocks behind the call; what it yields. -/
def evCallO (P : Program) (tm : List (Nat × T)) (H : List (Nat × Blk)) (d : Nat) (f : FuncId) (xs : List V) (sym : Option V) (c : CR) : Option (List Prop × St × V) :=
  let ps := pairsOf sym
  let g := gOut ps (base d)
  match ownIn H ps ps, ownArgs ps xs, setOwn c.Hout H ps (base d) ps with
  | some Hin, some ys, some H1 => if (distinct (ps.map (·.1)) && distinct (ps.map (·.2))) && ((restOk ps c.Hout && inIds (okO ps) c.r) && (othersOk ps (movers H ps) H && stays ps)) then
      match insAll (restH g (base d) c.Hout) H1 with
      | some H2 => some ([Con P f Hin ys c.Hout c.r], ⟨killTs (movers H ps) tm, H2⟩, renG g c.r)
      | none => none
      else none
  | _, _, _ => none
section
variable {ps pp : List (Nat × Nat)} {H Hout Hin H1 : List (Nat × Blk)} {k : Nat}
theorem distinct_1 : ∀ {ps : List (Nat × Nat)}, distinct (ps.map (·.1)) = true → ∀ {c i}, (c, i) ∈ ps → lk ps c = some i
  | [], _, c, i, h => by cases h
  | (c', i') :: r, hd, c, i, h => by
    simp only [List.map_cons, distinct, Bool.and_eq_true, Bool.not_eq_true', List.contains_eq_mem, decide_eq_false_iff_not] at hd
    simp only [lk, beq_iff_eq]
    rcases List.mem_cons.1 h with e | h'
    · cases e
      rw [if_pos rfl]
    · rw [if_neg]
      · exact distinct_1 hd.2 h'
      · intro e
        subst e
        exact hd.1 (List.mem_map.2 ⟨(c, i), h', rfl⟩)
theorem distinct_2 : ∀ {ps : List (Nat × Nat)}, distinct (ps.map (·.2)) = true → ∀ {c c' i}, (c, i) ∈ ps → (c', i) ∈ ps → c = c'
  | [], _, c, c', i, h, _ => by cases h
  | (a, b) :: r, hd, c, c', i, h, h' => by
    simp only [List.map_cons, distinct, Bool.and_eq_true, Bool.not_eq_true', List.contains_eq_mem, decide_eq_false_iff_not] at hd
    rcases List.mem_cons.1 h with e | h1 <;> rcases List.mem_cons.1 h' with e' | h2
    · cases e; cases e'; rfl
    · cases e
      exact absurd (List.mem_map.2 ⟨(c', _), h2, rfl⟩) hd.1
    · cases e'
      exact absurd (List.mem_map.2 ⟨(c, _), h1, rfl⟩) hd.1
    · exact distinct_2 hd.2 h1 h2
theorem lk_mem : ∀ {ps : List (Nat × Nat)} {c i}, lk ps c = some i → (c, i) ∈ ps
  | [], _, _, h => by cases h
  | (a, b) :: r, c, i, h => by
    simp only [lk, beq_iff_eq] at h
    split at h
    · rename_i e
      cases h
      subst e
      simp
    · exact List.mem_cons_of_mem _ (lk_mem h)
theorem cOf_mem : ∀ {ps : List (Nat × Nat)} {c i}, cOf ps i = some c → (c, i) ∈ ps
  | [], _, _, h => by cases h
  | (a, b) :: r, c, i, h => by
    simp only [cOf] at h
    split at h
    · rename_i e
      cases h
      have := Nat.eq_of_beq_eq_true e
      subst this
      simp
    · exact List.mem_cons_of_mem _ (cOf_mem h)
theorem cOf_some : ∀ {ps : List (Nat × Nat)} {c i}, (c, i) ∈ ps → (cOf ps i).isSome = true
  | (a, b) :: r, c, i, h => by
    simp only [cOf]
    split
    · rfl
    · rename_i e
      rcases List.mem_cons.1 h with e' | h'
      · cases e'
        exact absurd (Nat.beq_refl _) e
      · exact cOf_some h'
theorem okP_iff {ps : List (Nat × Nat)} {i : Nat} : okP ps i = true ↔ ∃ c, (c, i) ∈ ps := by
  unfold okP
  constructor
  · intro h
    obtain ⟨c, hc⟩ := Option.isSome_iff_exists.1 h
    exact ⟨c, cOf_mem hc⟩
  · rintro ⟨c, hc⟩
    exact cOf_some hc
theorem ownIn_lk : ∀ {ps : List (Nat × Nat)} {Hin : List (Nat × Blk)}, ownIn H pp ps = some Hin → ∀ c, (∀ b', lk Hin c = some b' → ∃ i b, lk ps c = some i ∧ lk H i = some b ∧ blkIn (okP pp) b = true ∧ b' = renGB (gIn pp) b) ∧ (lk Hin c = none → lk ps c = none)
  | [], Hin, h, c => by cases h; exact ⟨fun b' hb => (by cases hb), fun _ => rfl⟩
  | (a, i) :: r, Hin, h, c => by
    unfold ownIn at h
    split at h
    · rename_i b l hb hl
      split at h
      · rename_i hok
        cases h
        simp only [lk]
        split
        · exact ⟨fun b' e => (by cases e; exact ⟨i, b, rfl, hb, hok, rfl⟩), fun e => (by cases e)⟩
        · exact ownIn_lk hl c
      · cases h
    · cases h
theorem setOwn_lk : ∀ {ps : List (Nat × Nat)} {H1 : List (Nat × Blk)}, setOwn Hout H pp k ps = some H1 → ∀ j,
    (∃ c b b', (c, j) ∈ ps ∧ lk Hout c = some b' ∧ lk H j = some b ∧ (mv b = mv b' ∧ blkIn (okO pp) b' = true ∧ BIG ≤ c) ∧ lk H1 j = some (renGB (gOut pp k) b')) ∨ ((∀ c, (c, j) ∉ ps) ∧ lk H1 j = lk H j)
  | [], H1, h, j => by
    cases h
    exact .inr ⟨fun c h => (by cases h), rfl⟩
  | (c, i) :: r, H1, h, j => by
    unfold setOwn at h
    split at h
    · rename_i b' b H0 h1 h2 h3
      split at h
      · rename_i hc
        cases h
        simp only [Bool.and_eq_true, beq_iff_eq, Nat.ble_eq] at hc
        by_cases e : j = i
        · subst e
          exact .inl ⟨c, b, b', by simp, h1, h2, ⟨hc.1, hc.2.1, hc.2.2⟩, by rw [lk_ins, if_pos rfl]⟩
        · rcases setOwn_lk h3 j with ⟨c1, b1, b1', k1, k2, k3, k4, k5⟩ | ⟨k1, k2⟩
          · exact .inl ⟨c1, b1, b1', List.mem_cons_of_mem _ k1, k2, k3, k4, by rw [lk_ins, if_neg e]; exact k5⟩
          · refine .inr ⟨fun c1 hm => ?_, by rw [lk_ins, if_neg e]; exact k2⟩
            rcases List.mem_cons.1 hm with e' | hm
            · cases e'
              exact e rfl
            · exact k1 c1 hm
      · cases h
    · cases h
theorem setOwn_in : ∀ {ps : List (Nat × Nat)} {H1 : List (Nat × Blk)}, setOwn Hout H pp k ps = some H1 → ∀ {c j}, (c, j) ∈ ps → ∃ b b', lk H j = some b ∧ lk Hout c = some b' ∧ mv b = mv b' ∧ blkIn (okO pp) b' = true ∧ BIG ≤ c
  | [], H1, h, c, j, hm => by cases hm
  | (c0, i) :: r, H1, h, c, j, hm => by
    unfold setOwn at h
    split at h
    · rename_i b' b H0 h1 h2 h3
      split at h
      · rename_i hc
        simp only [Bool.and_eq_true, beq_iff_eq, Nat.ble_eq] at hc
        rcases List.mem_cons.1 hm with e | hm
        · cases e
          exact ⟨b, b', h2, h1, hc.1, hc.2.1, hc.2.2⟩
        · exact setOwn_in h3 hm
      · cases h
    · cases h
theorem movers_in : ∀ {ps : List (Nat × Nat)} {c i : Nat} {b : Blk}, (c, i) ∈ ps → lk H i = some b → mv b = true → c < BIG2 → i ∈ movers H ps
  | [], _, _, _, h, _, _, _ => by cases h
  | (c0, i0) :: r, c, i, b, h, hl, hb, hc => by
    unfold movers
    rcases List.mem_cons.1 h with e | h'
    · cases e
      rw [hl]
      simp [hb, hc]
    · have := movers_in h' hl hb hc
      split
      · split
        · exact List.mem_cons_of_mem _ this
        · exact this
      · exact this
theorem lk_restH {g : Nat → Nat} : ∀ {l : List (Nat × Blk)} {j : Nat} {b : Blk}, lk (restH g k l) j = some b → ∃ i b0, j = i + k ∧ lk l i = some b0 ∧ small i = true ∧ b = renGB g b0
  | [], _, _, h => by cases h
  | (i0, b') :: r, j, b, h => by
    simp only [restH] at h
    split at h
    · rename_i hs
      simp only [lk, beq_iff_eq] at h
      split at h
      · rename_i e
        cases h
        exact ⟨i0, b', e, by simp [lk], hs, rfl⟩
      · rename_i e
        obtain ⟨i, b0, rfl, h1, h2, h3⟩ := lk_restH h
        refine ⟨i, b0, rfl, ?_, h2, h3⟩
        simp only [lk, beq_iff_eq]
        rw [if_neg (fun e' => e (by rw [e']))]
        exact h1
    · rename_i hs
      obtain ⟨i, b0, rfl, h1, h2, h3⟩ := lk_restH h
      refine ⟨i, b0, rfl, ?_, h2, h3⟩
      simp only [lk, beq_iff_eq]
      rw [if_neg (fun e' => hs (by rw [← e']; exact h2))]
      exact h1
theorem lk_restH_of {g : Nat → Nat} : ∀ {l : List (Nat × Blk)} {i : Nat} {b : Blk}, lk l i = some b → small i = true → lk (restH g k l) (i + k) = some (renGB g b)
  | [], _, _, h, _ => by cases h
  | (j, b') :: r, i, b, h, hs => by
    simp only [lk, beq_iff_eq] at h
    simp only [restH]
    split at h
    · rename_i e
      cases h
      subst e
      rw [if_pos hs]
      simp [lk]
    · rename_i e
      split
      · simp only [lk, beq_iff_eq]
        rw [if_neg (by omega)]
        exact lk_restH_of h hs
      · exact lk_restH_of h hs
theorem restOk_get : ∀ {l : List (Nat × Blk)} {i : Nat} {b : Blk}, restOk ps l = true → lk l i = some b → small i = true → blkIn (okO ps) b = true
  | [], _, _, _, h, _ => by cases h
  | (j, b') :: r, i, b, hr, h, hs => by
    simp only [restOk, Bool.and_eq_true, Bool.or_eq_true, Bool.not_eq_true'] at hr
    simp only [lk, beq_iff_eq] at h
    split at h
    · rename_i e
      cases h
      subst e
      rcases hr.1 with h1 | h1
      · rw [hs] at h1
        cases h1
      · exact h1
    · exact restOk_get hr.2 h hs
end
section
variable {I I' : Nat → Prop} {w w' : World} {φ φ' : Phi}
theorem BlkRel.onlyTo {ok : Nat → Bool} {s : Slot} {b : Blk} (h : BlkRel I w φ s b) (hi : blkIn ok b = true) (φ2 : Phi) (hk : ∀ id, ok id = true → φ id ≠ .none → φ2 id = φ id) : BlkRel I w φ2 s b := by
  refine h.to (fun _ _ _ => rfl) (fun x hx u hu => ?_)
  cases hf : b.flat with
  | true =>
    rw [hf] at hu
    exact hu
  | false =>
    rw [hf] at hu
    simp only [blkIn, hf, Bool.false_or] at hi
    obtain ⟨i, hl, rfl⟩ := List.getElem_of_mem hx
    exact Rel.only hu (inIdsL_get hi i hl) φ2 hk
theorem ownArgs_ok {I I' : Nat → Prop} {ps : List (Nat × Nat)} {φ φc : Phi} (im : ∀ b, I b → I' b ∧ w.heap[b]? = w.heap[b]?) (hφ : ∀ id, okP ps id = true → φ id ≠ .none → φc (gIn ps id) = φ id) : ∀ {xs ys : List V} {us : List Value}, ownArgs ps xs = some ys → Rels I w φ xs us → Rels I' w φc ys us
  | [], ys, us, h, hr => by
    cases h
    cases hr
    exact .nil
  | x :: xs, ys, us, h, hr => by
    unfold ownArgs at h
    split at h
    · rename_i ys' hy hys
      cases h
      cases hr with
      | cons h1 h2 =>
        exact .cons (Rel.mono im (h1.renG hy φc hφ) _ (fun _ _ _ h => h) (fun _ h => h)) (ownArgs_ok im hφ hys h2)
    · cases h
end
theorem evCallO_tm {P : Program} {tm : List (Nat × T)} {H : List (Nat × Blk)} {d : Nat} {f : FuncId} {xs : List V} {sym : Option V} {c : CR} {os : List Prop} {s2 : St} {v : V} (h : evCallO P tm H d f xs sym c = some (os, s2, v)) {t : Nat} {x : T} (hx : lk s2.tm t = some x) : x = .plain .top ∨ lk tm t = some x := by
  simp only [evCallO] at h
  split at h
  case h_2 => cases h
  split at h
  case isFalse => cases h
  split at h
  case h_2 => cases h
  cases h
  rcases lk_killTs hx with h | ⟨h, _⟩
  · exact .inl h
  · exact .inr h
section
variable {C : Cx} {G : Gl} {P : Program} {φ φ' : Phi} {a : Act} {w w' : World} {s s' : St}
/-- Own blocks lent to a piece of the program, and what is left of them. -/
theorem callO_core (hI : Inv C G s φ a w) {ps : List (Nat × Nat)} {xs ys : List V} {Hin : List (Nat × Blk)} (hin : ownIn s.H ps ps = some Hin) (hargs : ownArgs ps xs = some ys)
    (hd1 : distinct (ps.map (·.1)) = true) (hd2 : distinct (ps.map (·.2)) = true) :
    ∃ (X' : Nat → Prop) (φc : Phi), Phi.ok φc X' w Hin ∧ (∀ b, X' b → b < w.heap.size) ∧ HR (Imm φc X' w) w φc Hin ∧ (∀ {us : List Value}, Rels (Imm φ G.X w) w φ xs us → Rels (Imm φc X' w) w φc ys us) ∧ GOk (Imm φc X' w) w ∧ (∀ b, G.X b → X' b) ∧
      (∀ b, Imm φ G.X w b → Imm φc X' w b) ∧ (∀ b, Imm φc X' w b → Imm φ G.X w b) ∧ ∀ (d : Nat) (Hout H1 H2 : List (Nat × Blk)) (r : V), setOwn Hout s.H ps (base d) ps = some H1 → restOk ps Hout = true → inIds (okO ps) r = true → othersOk ps (movers s.H ps) s.H = true → stays ps = true →
        insAll (restH (gOut ps (base d)) (base d) Hout) H1 = some H2 →
        ∀ (w' : World) (u : Value) (φ' : Phi), Frm φc w w' → Phi.ok φ' X' w' Hout → (∀ id b c, φ' id = .at b c → (∃ id0 c0, φc id0 = .at b c0) ∨ w.heap.size ≤ b) → HR (Imm φ' X' w') w' φ' Hout → Rel (Imm φ' X' w') w' φ' r u →
        (∀ id, BIG ≤ id → stayS id (φc id) → φ' id = φc id ∨ lk Hout id = none) →
        ∃ φ2, Inv C G ⟨killTs (movers s.H ps) s.tm, H2⟩ φ2 a w' ∧ Rel (Imm φ2 G.X w') w' φ2 (renG (gOut ps (base d)) r) u ∧ ∀ j, lk s.H j ≠ none → (∀ c, (c, j) ∉ ps) → φ2 j = φ j := by
  have m1 : ∀ {c i}, (c, i) ∈ ps → lk ps c = some i := distinct_1 hd1
  have m2 : ∀ {c c' i}, (c, i) ∈ ps → (c', i) ∈ ps → c = c' := distinct_2 hd2
  have mc : ∀ {c i}, (c, i) ∈ ps → cOf ps i = some c := fun {c i} hm => by
    obtain ⟨c', hc'⟩ := Option.isSome_iff_exists.1 (cOf_some hm)
    rw [hc', m2 (cOf_mem hc') hm]
  let φc : Phi := fun c => match lk ps c with | some i => φ i | none => .none
  have hφc : ∀ c i, (c, i) ∈ ps → φc c = φ i := fun c i hm => by simp only [φc, m1 hm]
  have hφc' : ∀ c b cc, φc c = .at b cc → ∃ i, (c, i) ∈ ps ∧ φ i = .at b cc := fun c b cc hs => by
    simp only [φc] at hs
    cases hl : lk ps c with
    | none => rw [hl] at hs; cases hs
    | some i => rw [hl] at hs; exact ⟨i, lk_mem hl, hs⟩
  have hgin : ∀ id, okP ps id = true → φ id ≠ .none → φc (gIn ps id) = φ id := fun id hid _ => by
    obtain ⟨cc, hcc⟩ := okP_iff.1 hid
    simp only [gIn, mc hcc, Option.getD_some]
    exact hφc cc id hcc
  let X' : Nat → Prop := fun b => G.X b ∨ ∃ i cc, φ i = .at b cc ∧ ∀ c, (c, i) ∉ ps
  have hXw : ∀ b, G.X b → b < w.heap.size := hI.x.lt
  have im0 : ∀ b, Imm φ G.X w b → Imm φc X' w b ∧ w.heap[b]? = w.heap[b]? := fun b hb => by
    refine ⟨⟨hb.1, fun c cc hs => ?_, fun hx => ?_⟩, rfl⟩
    · obtain ⟨i, _, hi⟩ := hφc' c b cc hs
      exact hb.2.1 _ _ hi
    · rcases hx with hx | ⟨i, cc, hi, _⟩
      · exact hb.2.2 hx
      · exact hb.2.1 _ _ hi
  have hokc : Phi.ok φc X' w Hin := by
    refine ⟨fun i j b cc cc' hi hj => ?_, fun i b cc hi => ?_, fun i b cc hi => ?_, fun i hi => ?_⟩
    · obtain ⟨i1, h1, h2⟩ := hφc' _ _ _ hi
      obtain ⟨j1, h3, h4⟩ := hφc' _ _ _ hj
      have := hI.ok.inj _ _ _ _ _ h2 h4
      subst this
      exact m2 h1 h3
    · obtain ⟨i1, _, h2⟩ := hφc' _ _ _ hi
      exact hI.ok.lt _ _ _ h2
    · obtain ⟨i1, h1, h2⟩ := hφc' _ _ _ hi
      rintro (hx | ⟨j, cj, hj, hno⟩)
      · exact hI.ok.free _ _ _ h2 hx
      · have := hI.ok.inj _ _ _ _ _ h2 hj
        subst this
        exact hno _ h1
    · show φc i = .none
      have := (ownIn_lk hin i).2 hi
      simp only [φc, this]
  have hX' : ∀ b, X' b → b < w.heap.size := fun b hb => by
    rcases hb with hb | ⟨i, cc, hi, _⟩
    · exact hXw b hb
    · exact hI.ok.lt _ _ _ hi
  have hHin : HR (Imm φc X' w) w φc Hin := fun i blk hl => by
    obtain ⟨j, b, hp, hb, hok, rfl⟩ := (ownIn_lk hin i).1 blk hl
    rw [hφc i j (lk_mem hp)]
    exact ((hI.hr j b hb).renG hok φc hgin).mono im0 (fun _ _ _ => rfl) (fun _ _ _ h => h) (fun _ h => h)
  refine ⟨X', φc, hokc, hX', hHin, fun hx => ownArgs_ok im0 hgin hargs hx, hI.gok.mono im0, fun b hb => .inl hb, fun b hb => (im0 b hb).1, fun b hb => ⟨hb.1, fun j c hj => ?_, fun hx => hb.2.2 (.inl hx)⟩, ?_⟩
  · by_cases hm : ∃ cc, (cc, j) ∈ ps
    · obtain ⟨cc, hm⟩ := hm
      exact hb.2.1 cc c (by rw [hφc cc j hm]; exact hj)
    · exact hb.2.2 (.inr ⟨j, c, hj, fun cc h => hm ⟨cc, h⟩⟩)
  intro d Hout H1 H2 r hset hro hri hot hsty hins w' u φ' hfr hok' hown' hHo hru hfix
  let k := base d
  let R := restH (gOut ps k) k Hout
  let φ2 : Phi := fun j => if lk R j = none then (match cOf ps j with | some c => φ' c | none => φ j) else φ' (j - k)
  have hold : ∀ j, lk R j = none → (∀ c, (c, j) ∉ ps) → φ2 j = φ j := fun j hj hno => by
    have hn : cOf ps j = none := by
      cases hcj : cOf ps j with
      | none => rfl
      | some c => exact absurd (cOf_mem hcj) (hno c)
    simp only [φ2, hn]
    rw [if_pos hj]
  have hnw : ∀ j, lk R j ≠ none → φ2 j = φ' (j - k) ∧ ∃ j0 b0, j = j0 + k ∧ lk Hout j0 = some b0 ∧ small j0 = true := fun j hj => by
    refine ⟨by simp only [φ2]; rw [if_neg hj], ?_⟩
    obtain ⟨b0, hb0⟩ := Option.ne_none_iff_exists'.1 hj
    obtain ⟨j0, b1, rfl, h1, h2, _⟩ := lk_restH hb0
    exact ⟨j0, b1, rfl, h1, h2⟩
  have hlentR : ∀ {cc i}, (cc, i) ∈ ps → lk R i = none := fun {cc i} hm => by
    cases hn : lk R i with
    | none => rfl
    | some b0 =>
      exfalso
      have h1 := insAll_fresh hins i (by rw [show lk (restH (gOut ps (base d)) (base d) Hout) i = some b0 from hn]; simp)
      rcases setOwn_lk hset i with ⟨_, _, _, _, _, _, _, h2⟩ | ⟨h2, _⟩
      · rw [h1] at h2
        cases h2
      · exact h2 _ hm
  have hlent : ∀ {cc i}, (cc, i) ∈ ps → φ2 i = φ' cc := fun {cc i} hm => by
    simp only [φ2, mc hm]
    rw [if_pos (hlentR hm)]
  have hsmall : ∀ {j0}, small j0 = true → j0 < BIG := fun {j0} h => by
    unfold small at h
    rwa [Nat.blt_eq] at h
  -- a block that is no slice's lies where it lay
  have hstay0 : ∀ {cc i}, (cc, i) ∈ ps → i ∉ movers s.H ps → φ i ≠ .none → stayS cc (φ i) := fun {cc i} hm hmv hs => by
    obtain ⟨b0, b1, hb0, hb1, hbb, _, hbig⟩ := setOwn_in hset hm
    by_cases hc2 : BIG2 ≤ cc
    · cases hs2 : φ i with
      | none => exact absurd hs2 hs
      | nil => exact hc2
      | «at» b c => exact .inr hc2
    have hbn : mv b0 = false := by
      cases hb : mv b0 with
      | false => rfl
      | true => exact absurd (movers_in hm hb0 hb (by omega)) hmv
    have hk := hI.hr i b0 hb0
    cases hs2 : φ i with
    | none => exact absurd hs2 hs
    | nil =>
      rw [hs2] at hk
      rw [hk.2] at hbn
      cases hbn
    | «at» b q =>
      rw [hs2] at hk
      left
      cases hmp : isMp b0 with
      | true =>
        simp only [BlkRel, hmp] at hk
        exact hk.1
      | false =>
        simp only [BlkRel, hmp] at hk
        obtain ⟨us0, el, _, _, k3⟩ := hk
        simp only [mv, hmp, Bool.not_false, Bool.and_true] at hbn
        cases hb : b0.bld with
        | none =>
          rw [hb] at k3
          exact k3.2.2
        | some z =>
          rw [hb] at hbn
          cases hbn
  have hstay : ∀ {cc i}, (cc, i) ∈ ps → i ∉ movers s.H ps → φ i ≠ .none → φ' cc = φ i := fun {cc i} hm hmv hs => by
    obtain ⟨b0, b1, hb0, hb1, hbb, _, hbig⟩ := setOwn_in hset hm
    rcases hfix cc hbig (by rw [hφc cc i hm]; exact hstay0 hm hmv hs) with h1 | h1
    · rw [h1, hφc cc i hm]
    · rw [hb1] at h1
      cases h1
  -- what the callee leaves was lent, or is new
  have hwhere : ∀ {j0 b q}, φ' j0 = .at b q → (∃ c1 i1 q1, (c1, i1) ∈ ps ∧ φ i1 = .at b q1) ∨ w.heap.size ≤ b := fun {j0 b q} hj0 => by
    rcases hown' _ _ _ hj0 with ⟨c1, q1, h1⟩ | h1
    · obtain ⟨i1, h2, h3⟩ := hφc' _ _ _ h1
      exact .inl ⟨c1, i1, q1, h2, h3⟩
    · exact .inr h1
  have hdis : ∀ {j b q j0 q0}, φ j = .at b q → (∀ c, (c, j) ∉ ps) → φ' j0 = .at b q0 → False := fun {j b q j0 q0} hj hno hj0 => by
    rcases hwhere hj0 with ⟨c1, i1, q1, h1, h2⟩ | h1
    · have := hI.ok.inj _ _ _ _ _ hj h2
      subst this
      exact hno _ h1
    · have := hI.ok.lt _ _ _ hj
      omega
  have hcase : ∀ {j b q}, φ2 j = .at b q → (lk R j ≠ none ∧ φ' (j - k) = .at b q) ∨ (lk R j = none ∧ ∃ cc, (cc, j) ∈ ps ∧ φ' cc = .at b q) ∨ (lk R j = none ∧ (∀ cc, (cc, j) ∉ ps) ∧ φ j = .at b q) := fun {j b q} hs => by
    by_cases hj : lk R j = none
    · by_cases hm : ∃ cc, (cc, j) ∈ ps
      · obtain ⟨cc, hm⟩ := hm
        rw [hlent hm] at hs
        exact .inr (.inl ⟨hj, cc, hm, hs⟩)
      · have hm' : ∀ cc, (cc, j) ∉ ps := fun cc h => hm ⟨cc, h⟩
        rw [hold j hj hm'] at hs
        exact .inr (.inr ⟨hj, hm', hs⟩)
    · rw [(hnw j hj).1] at hs
      exact .inl ⟨hj, hs⟩
  have im1 : ∀ b, Imm φ G.X w b → Imm φ2 G.X w' b ∧ w'.heap[b]? = w.heap[b]? := fun b hb => by
    have hno : ∀ {j0 q}, φ' j0 = .at b q → False := fun {j0 q} hj0 => by
      rcases hwhere hj0 with ⟨c1, i1, q1, _, h2⟩ | h1
      · exact hb.2.1 _ _ h2
      · have := hb.1
        omega
    refine ⟨⟨Nat.lt_of_lt_of_le hb.1 hfr.size, fun j q hs => ?_, hb.2.2⟩, hfr.block b hb.1 (fun c q hs => ?_)⟩
    · rcases hcase hs with ⟨_, h1⟩ | ⟨_, cc, _, h1⟩ | ⟨_, _, h1⟩
      · exact hno h1
      · exact hno h1
      · exact hb.2.1 _ _ h1
    · obtain ⟨i1, _, h3⟩ := hφc' _ _ _ hs
      exact hb.2.1 _ _ h3
  have im2 : ∀ b, Imm φ' X' w' b → Imm φ2 G.X w' b ∧ w'.heap[b]? = w'.heap[b]? := fun b hb => by
    refine ⟨⟨hb.1, fun j q hs => ?_, fun hx => hb.2.2 (.inl hx)⟩, rfl⟩
    rcases hcase hs with ⟨_, h1⟩ | ⟨_, cc, _, h1⟩ | ⟨_, hno, h1⟩
    · exact hb.2.1 _ _ h1
    · exact hb.2.1 _ _ h1
    · exact hb.2.2 (.inr ⟨j, q, h1, hno⟩)
  have hfree : ∀ j, φ j ≠ .none → lk R j = none := fun j hj => by
    cases hn : lk R j with
    | none => rfl
    | some b0 =>
      exfalso
      have h1 := insAll_fresh hins j (by rw [show lk (restH (gOut ps (base d)) (base d) Hout) j = some b0 from hn]; simp)
      refine hj (hI.ok.dom j ?_)
      rcases setOwn_lk hset j with ⟨_, _, _, _, _, _, _, h2⟩ | ⟨_, h2⟩
      · rw [h1] at h2
        cases h2
      · rw [← h2]
        exact h1
  -- what is not moved
  have hk1 : ∀ id, notIn (movers s.H ps) id = true → φ id ≠ .none → φ2 id = φ id := fun id hid hne => by
    have hmv : id ∉ movers s.H ps := by simpa [notIn] using hid
    by_cases hm : ∃ cc, (cc, id) ∈ ps
    · obtain ⟨cc, hm⟩ := hm
      rw [hlent hm]
      exact hstay hm hmv hne
    · exact hold id (hfree id hne) (fun cc h => hm ⟨cc, h⟩)
  -- what the callee leaves, by the caller's numbers
  have hk2 : ∀ id, okO ps id = true → φ' id ≠ .none → φ2 (gOut ps k id) = φ' id := fun id hid hne => by
    unfold gOut
    cases hp : lk ps id with
    | some i => exact hlent (lk_mem hp)
    | none =>
      have hs : small id = true := by simpa [okO, hp] using hid
      have hl : lk Hout id ≠ none := fun e => hne (hok'.dom id e)
      obtain ⟨b0, hb0⟩ := Option.ne_none_iff_exists'.1 hl
      have h1 : lk R (id + k) = some _ := lk_restH_of (g := gOut ps k) (k := k) hb0 hs
      have := (hnw (id + k) (by rw [h1]; simp)).1
      rw [Nat.add_sub_cancel] at this
      exact this
  refine ⟨φ2, ⟨hI.size, hI.defers, fun t x hx => ?_, fun j blk hl => ?_, ⟨fun i j b q q' hi hj => ?_, fun i b q hi => ?_, fun i b q hi => ?_, fun i hi => ?_⟩, hI.x.to hfr.size (fun b' hb' => hfr.block b' (hXw b' hb') (fun c1 q1 hs1 => by obtain ⟨i1, _, h3⟩ := hφc' _ _ _ hs1; exact hI.ok.free _ _ _ h3 hb')), ?_, fun j b q hs => ?_, fun j hbig h0 => ?_⟩, ?_⟩
  · rcases lk_killTs hx with rfl | ⟨hx, hin⟩
    · exact Rel.top
    have := hI.tm t x hx
    cases x with
    | plain y => exact Rel.mono im1 (Rel.only this hin φ2 hk1) _ (fun _ _ _ h => h) (fun _ h => h)
    | gd dd want y => exact ⟨fun e => Rel.mono im1 (Rel.only (this.1 e) hin φ2 hk1) _ (fun _ _ _ h => h) (fun _ h => h), this.2⟩
  · have hl : lk H2 j = some blk := hl
    rw [lk_insAll hins] at hl
    split at hl
    · rename_i b1 hb1
      cases hl
      have hne : lk R j ≠ none := by rw [show lk R j = some blk from hb1]; simp
      rw [(hnw j hne).1]
      obtain ⟨j0, b0, rfl, h1, h2, rfl⟩ := lk_restH hb1
      rw [Nat.add_sub_cancel]
      exact ((hHo j0 b0 h1).renG (restOk_get hro h1 h2) φ2 hk2).mono im2 (fun _ _ _ => rfl) (fun _ _ _ h => h) (fun _ h => h)
    · rename_i hb1
      have hb1 : lk R j = none := hb1
      rcases setOwn_lk hset j with ⟨cc, b0, b0', hm, g1, g2, ⟨g3, g4, g5⟩, g8⟩ | ⟨hno, g1⟩
      · rw [g8] at hl
        cases hl
        rw [hlent hm]
        exact ((hHo cc b0' g1).renG g4 φ2 hk2).mono im2 (fun _ _ _ => rfl) (fun _ _ _ h => h) (fun _ h => h)
      · rw [g1] at hl
        rw [hold j hb1 hno]
        have hokj : okP ps j = false := by
          cases hh : okP ps j with
          | false => rfl
          | true =>
            obtain ⟨cc, hcc⟩ := okP_iff.1 hh
            exact absurd hcc (hno cc)
        refine ((hI.hr j blk hl).onlyTo (othersOk_get hot hl hokj) φ2 hk1).mono im1 (fun b q hs => hfr.block b (hI.ok.lt _ _ _ hs) (fun c1 q1 hs1 => ?_)) (fun _ _ _ h => h) (fun _ h => h)
        obtain ⟨i1, h2, h3⟩ := hφc' _ _ _ hs1
        have := hI.ok.inj _ _ _ _ _ hs h3
        subst this
        exact hno _ h2
  · rcases hcase hi with ⟨h1, h2⟩ | ⟨h1, ci, h2, h3⟩ | ⟨h1, h2, h3⟩ <;> rcases hcase hj with ⟨g1, g2⟩ | ⟨g1, cj, g2, g3⟩ | ⟨g1, g2, g3⟩
    · have := hok'.inj _ _ _ _ _ h2 g2
      obtain ⟨_, i0, _, rfl, _⟩ := hnw i h1
      obtain ⟨_, j0, _, rfl, _⟩ := hnw j g1
      omega
    · have := hok'.inj _ _ _ _ _ h2 g3
      obtain ⟨_, i0, _, rfl, _, hs⟩ := hnw i h1
      obtain ⟨_, _, _, _, _, _, hbig⟩ := setOwn_in hset g2
      have := hsmall hs
      omega
    · exact (hdis g3 g2 h2).elim
    · have := hok'.inj _ _ _ _ _ h3 g2
      obtain ⟨_, j0, _, rfl, _, hs⟩ := hnw j g1
      obtain ⟨_, _, _, _, _, _, hbig⟩ := setOwn_in hset h2
      have := hsmall hs
      omega
    · have := hok'.inj _ _ _ _ _ h3 g3
      subst this
      have e1 := m1 h2
      rw [m1 g2] at e1
      exact (Option.some.inj e1).symm
    · exact (hdis g3 g2 h3).elim
    · exact (hdis h3 h2 g2).elim
    · exact (hdis h3 h2 g3).elim
    · exact hI.ok.inj _ _ _ _ _ h3 g3
  · rcases hcase hi with ⟨_, h1⟩ | ⟨_, cc, _, h1⟩ | ⟨_, _, h1⟩
    · exact hok'.lt _ _ _ h1
    · exact hok'.lt _ _ _ h1
    · exact Nat.lt_of_lt_of_le (hI.ok.lt _ _ _ h1) hfr.size
  · rcases hcase hi with ⟨_, h1⟩ | ⟨_, cc, _, h1⟩ | ⟨_, _, h1⟩
    · exact fun hx => hok'.free _ _ _ h1 (.inl hx)
    · exact fun hx => hok'.free _ _ _ h1 (.inl hx)
    · exact hI.ok.free _ _ _ h1
  · have hi : lk H2 i = none := hi
    rw [lk_insAll hins] at hi
    split at hi
    · cases hi
    · rename_i h1
      rcases setOwn_lk hset i with ⟨_, _, _, _, _, _, _, h2⟩ | ⟨hno, h2⟩
      · rw [hi] at h2
        cases h2
      · rw [hold i h1 hno]
        refine hI.ok.dom i ?_
        rw [← h2]
        exact hi
  · refine ⟨hfr.os.trans hI.frm.os, hfr.tape.trans hI.frm.tape, hfr.output.trans hI.frm.output, Nat.le_trans hI.frm.size hfr.size, fun b hb h0 hx' => ?_⟩
    rw [hfr.block b (Nat.lt_of_lt_of_le hb hI.frm.size) (fun c1 q1 hs1 => ?_)]
    · exact hI.frm.block b hb h0 hx'
    · obtain ⟨i1, _, h3⟩ := hφc' _ _ _ hs1
      rcases hI.own _ _ _ h3 with ⟨id0, c0, h⟩ | h
      · exact h0 id0 c0 h
      · omega
  · have hh : ∀ {j0}, φ' j0 = .at b q → (∃ id0 c0, G.φ0 id0 = .at b c0) ∨ G.w0.heap.size ≤ b := fun {j0} hj0 => by
      rcases hwhere hj0 with ⟨c1, i1, q1, _, h2⟩ | h1
      · exact hI.own _ _ _ h2
      · exact .inr (Nat.le_trans hI.frm.size h1)
    rcases hcase hs with ⟨_, h1⟩ | ⟨_, cc, _, h1⟩ | ⟨_, _, h1⟩
    · exact hh h1
    · exact hh h1
    · exact hI.own _ _ _ h1
  · have h1 : lk R j = none := insAll_big hins hbig
    show _ ∨ lk H2 j = none
    rcases hI.fix j hbig h0 with h | h
    · left
      by_cases hm : ∃ cc, (cc, j) ∈ ps
      · obtain ⟨cc, hm⟩ := hm
        rw [hlent hm, ← h]
        rw [← h] at h0
        obtain ⟨b0', _, hb0', hb1', hbb, _, hbig'⟩ := setOwn_in hset hm
        have hst : stayS cc (φ j) := by
          cases hs : φ j with
          | none => rw [hs] at h0; exact h0
          | nil =>
            rw [hs] at h0
            exact stays_get hsty hm h0
          | «at» b c =>
            rw [hs] at h0
            rcases h0 with h0 | h0
            · exact .inl h0
            · exact .inr (stays_get hsty hm h0)
        rcases hfix cc hbig' (by rw [hφc cc j hm]; exact hst) with h2 | h2
        · rw [h2, hφc cc j hm]
        · rw [hb1'] at h2
          cases h2
      · rw [hold j h1 (fun cc h => hm ⟨cc, h⟩)]
        exact h
    · right
      have h1' : lk (restH (gOut ps (base d)) (base d) Hout) j = none := h1
      rw [lk_insAll hins, h1']
      rcases setOwn_lk hset j with ⟨_, _, _, _, _, h2, _⟩ | ⟨_, h2⟩
      · rw [h] at h2
        cases h2
      · show lk H1 j = none
        rw [h2]
        exact h
  · refine ⟨Rel.mono im2 (hru.renG hri φ2 hk2) _ (fun _ _ _ h => h) (fun _ h => h), fun j hj hno => hold j ?_ hno⟩
    cases hn : lk R j with
    | none => rfl
    | some b0 =>
      exfalso
      have h1 := insAll_fresh hins j (by rw [show lk (restH (gOut ps (base d)) (base d) Hout) j = some b0 from hn]; simp)
      rcases setOwn_lk hset j with ⟨cc, _, _, h2, _⟩ | ⟨_, h2⟩
      · exact hno cc h2
      · rw [h1] at h2
        exact hj h2.symm
theorem evCallO_ok (hI : Inv C G s φ a w) {d : Nat} {f : FuncId} {xs : List V} {sym : Option V} {c : CR} {os : List Prop} {s2 : St} {v : V} (h : evCallO P s.tm s.H d f xs sym c = some (os, s2, v)) (ho : AllP os) {us : List Value} (hx : Rels (Imm φ G.X w) w φ xs us) :
    FnOk P f ∧ Calls P f us.toArray w fun e w' => ∃ u φ2, e = .returned u ∧ Inv C G s2 φ2 a w' ∧ Rel (Imm φ2 G.X w') w' φ2 v u ∧ ∀ j, lk s.H j ≠ none → (∀ c, (c, j) ∉ pairsOf sym) → φ2 j = φ j := by
  simp only [evCallO] at h
  generalize pairsOf sym = ps at h ⊢
  split at h
  case h_2 => cases h
  rename_i Hin ys H1 hin hargs hset
  split at h
  case isFalse => cases h
  rename_i hc
  split at h
  case h_2 => cases h
  rename_i H2 hins
  cases h
  simp only [Bool.and_eq_true] at hc
  obtain ⟨⟨hd1, hd2⟩, ⟨hro, hri⟩, hot, hsty⟩ := hc
  obtain ⟨hcon, _⟩ := ho
  refine ⟨hcon.1, ?_⟩
  obtain ⟨X', φc, hokc, hX', hHin, hys, hgk, _, _, _, hpost⟩ := callO_core hI hin hargs hd1 hd2
  refine (hcon.2 X' φc w us hokc hX' hHin (hys hx) hgk).mono ?_
  rintro e w' ⟨u, φ', rfl, hfr, hok', hown', hHo, hru, hfix⟩
  obtain ⟨φ2, h1, h2, h3⟩ := hpost d c.Hout H1 H2 c.r hset hro hri hot hsty hins w' u φ' hfr hok' hown' hHo hru hfix
  exact ⟨u, φ2, rfl, h1, h2, h3⟩

end
end Go.Ab

set_option linter.unusedSimpArgs false
set_option linter.unusedVariables false
namespace Go.Ab
open Go.RowKit

/-- A key of which one knows the value, its parts being plain. -/
def ksV : Value → Bool
  | .bool _ | .int _ _ | .string _ => true
  | _ => false
def ksc : V → Bool
  | .val v => ksV v
  | .agg _ cs => cs.all fun x => match x with
    | .val v => ksV v
    | _ => false
  | _ => false
def kEqV : Value → Value → Bool
  | .bool a, .bool b => a == b
  | .int k a, .int k' b => decide (k = k') && (a == b)
  | .string a, .string b => a.data.toList == b.data.toList
  | _, _ => false
theorem kEqV_ok {a b : Value} (h : kEqV a b = true) : a = b := by
  unfold kEqV at h
  split at h
  · rw [eq_of_beq h]
  · simp only [Bool.and_eq_true, decide_eq_true_eq] at h
    rw [h.1, eq_of_beq h.2]
  · rename_i a b
    have e := eq_of_beq h
    cases a with | mk a =>
    cases b with | mk b =>
    have : a = b := Array.ext' e
    rw [this]
  · cases h
def kEqL : List V → List V → Bool
  | [], [] => true
  | .val a :: r, .val b :: q => kEqV a b && kEqL r q
  | _, _ => false
theorem kEqL_ok : ∀ {a b : List V}, kEqL a b = true → a = b
  | [], [], _ => rfl
  | .val a :: r, .val b :: q, h => by
    simp only [kEqL, Bool.and_eq_true] at h
    rw [kEqV_ok h.1, kEqL_ok h.2]
  | [], _ :: _, h => by simp [kEqL] at h
  | x :: _, [], h => by cases x <;> simp [kEqL] at h
  | .ptr _ _ :: _, _ :: _, h => by simp [kEqL] at h
  | .sl _ _ _ :: _, _ :: _, h => by simp [kEqL] at h
  | .vs _ _ :: _, _ :: _, h => by simp [kEqL] at h
  | .vp _ :: _, _ :: _, h => by simp [kEqL] at h
  | .agg _ _ :: _, _ :: _, h => by simp [kEqL] at h
  | .tup _ :: _, _ :: _, h => by simp [kEqL] at h
  | .clo _ _ _ :: _, _ :: _, h => by simp [kEqL] at h
  | .mp _ :: _, _ :: _, h => by simp [kEqL] at h
  | .bo :: _, _ :: _, h => by simp [kEqL] at h
  | .top :: _, _ :: _, h => by simp [kEqL] at h
  | .val _ :: _, x :: _, h => by cases x <;> simp [kEqL] at h; exact (by rename_i q v; rw [kEqV_ok h.1, kEqL_ok h.2])
/-- One key, for certain. -/
def kEq : V → V → Bool
  | .val a, .val b => kEqV a b
  | .agg f a, .agg g b => (f == g) && kEqL a b
  | _, _ => false
theorem kEq_ok {x y : V} (h : kEq x y = true) : x = y := by
  unfold kEq at h
  split at h
  · rw [kEqV_ok h]
  · simp only [Bool.and_eq_true] at h
    rw [eq_of_beq h.1, kEqL_ok h.2]
  · cases h
theorem sameBits_ks {v : Value} (h : ksV v = true) (n : Nat) : Instr.sameBits n v v = true := by
  cases v <;> simp [ksV] at h
  · cases n <;> simp [Instr.sameBits]
  · cases n <;> simp [Instr.sameBits]
  · rename_i s
    have : (s == s) = true := (MapKept.bytes_beq s s).2 rfl
    cases n <;> simp [Instr.sameBits, this]
section
variable {I I' : Nat → Prop} {w w' : World} {φ φ' : Phi} {x y : V} {u u' : Value}
theorem ksc_one (h : ksc x = true) (h1 : Rel I w φ x u) (h2 : Rel I' w' φ' x u') : u = u' ∧ Instr.sameBits 10000 u u = true := by
  cases x with
  | val v =>
    rw [h1.val_inv, h2.val_inv]
    exact ⟨rfl, sameBits_ks h _⟩
  | agg fl cs =>
    simp only [ksc, List.all_eq_true] at h
    cases h1 with
    | agg a1 b1 c1 =>
      rename_i us
      cases h2 with
      | agg a2 b2 c2 =>
        rename_i us'
        have key : ∀ i (hi : i < cs.length), us.toList.getD i undef = us'.toList.getD i undef ∧ ∀ n, Instr.sameBits n (us.toList.getD i undef) (us.toList.getD i undef) = true := fun i hi => by
          have hk := h _ (List.getElem_mem hi)
          have r1 := b1 i hi
          have r2 := b2 i hi
          generalize cs[i] = z at hk r1 r2
          split at hk
          · rw [r1.val_inv, r2.val_inv]
            exact ⟨rfl, fun n => sameBits_ks hk n⟩
          · cases hk
        have e : us = us' := by
          apply Array.ext'
          apply List.ext_getElem (by simp [a1, a2])
          intro i h1 h2
          have := (key i (by simpa [a1] using h1)).1
          simpa [List.getD_eq_getElem?_getD, List.getElem?_eq_getElem h1, List.getElem?_eq_getElem h2] using this
        subst e
        refine ⟨rfl, ?_⟩
        rw [show (10000 : Nat) = 9999 + 1 from rfl]
        unfold Instr.sameBits
        simp only [beq_self_eq_true, Bool.true_and, List.all_eq_true]
        rintro ⟨p, q⟩ hp
        obtain ⟨i, hi, e⟩ := List.getElem_of_mem hp
        simp only [List.getElem_zip, Prod.mk.injEq] at e
        obtain ⟨rfl, rfl⟩ := e
        have hi' : i < us.toList.length := by simpa using hi
        have := (key i (by simpa [a1] using hi')).2 9999
        simpa [List.getD_eq_getElem?_getD, List.getElem?_eq_getElem hi'] using this
  | _ => simp [ksc] at h
theorem RelV.app {xs ys : List V} {us vs : List Value} (h : RelV I w φ xs us) (k : RelV I w φ ys vs) : RelV I w φ (xs ++ ys) (us ++ vs) := by
  induction h with
  | nil => exact k
  | cons h1 _ ih => exact .cons h1 ih
theorem relV_both {f1 : Bool} {xs : List V} {us : List Value} (h : RelV I w (bFlat φ f1) xs us) {f : Bool} (hf : f = true → f1 = true) : RelV I w (bFlat φ f) xs us := by
  cases f with
  | true =>
    rw [hf rfl] at h
    exact h
  | false => exact relV_up h
theorem rel_fl {f : Bool} (h : Rel I w φ x u) (hf : f = true → flat x = true) : Rel I w (bFlat φ f) x u := by
  cases f with
  | true => exact h.emp (hf rfl)
  | false => exact h
/-- One entry's value is another one. -/
def setE (cells : List V) (j : Nat) (v : V) : List V := cells.set (2 * j + 1) v
def delE (cells : List V) (j : Nat) : List V := cells.take (2 * j) ++ cells.drop (2 * j + 2)
theorem relV_set : ∀ {es : List MapEntry} {cells : List V} {j : Nat} {e : MapEntry} {v : V} {uv : Value}, RelV I w φ cells (entsL es) → es[j]? = some e → Rel I w φ v uv → RelV I w φ (setE cells j v) (entsL (es.modify j fun e => { e with val := uv }))
  | [], _, _, _, _, _, _, h, _ => by simp at h
  | e :: es, cells, j, e', v, uv, h, he, hv => by
    simp only [entsL, List.flatMap_cons, List.cons_append, List.nil_append] at h
    cases h with
    | cons h1 h' =>
      cases h' with
      | cons h2 h3 =>
        cases j with
        | zero =>
          simp only [setE, List.modify_zero_cons, entsL, List.flatMap_cons, List.cons_append, List.nil_append]
          exact .cons h1 (.cons hv h3)
        | succ j =>
          have := relV_set (v := v) h3 (by simpa using he) hv
          simp only [setE, List.modify_succ_cons, entsL, List.flatMap_cons, List.cons_append, List.nil_append] at this ⊢
          rw [show 2 * (j + 1) + 1 = (2 * j + 1) + 1 + 1 by omega]
          exact .cons h1 (.cons h2 this)
theorem relV_del : ∀ {es : List MapEntry} {cells : List V} {j : Nat}, RelV I w φ cells (entsL es) → j < es.length → RelV I w φ (delE cells j) (entsL (es.eraseIdx j))
  | [], _, _, _, h => by simp at h
  | e :: es, cells, j, h, hj => by
    simp only [entsL, List.flatMap_cons, List.cons_append, List.nil_append] at h
    cases h with
    | cons h1 h' =>
      cases h' with
      | cons h2 h3 =>
        cases j with
        | zero =>
          simp only [delE, Nat.mul_zero, List.take_zero, List.nil_append, Nat.zero_add, List.drop_succ_cons, List.drop_zero, List.eraseIdx_cons_zero]
          exact h3
        | succ j =>
          have := relV_del (j := j) h3 (by simpa using hj)
          simp only [delE, List.eraseIdx_cons_succ, entsL, List.flatMap_cons, List.cons_append, List.nil_append] at this ⊢
          rw [show 2 * (j + 1) = (2 * j) + 1 + 1 by omega]
          exact .cons h1 (.cons h2 this)
end
theorem setE_flatP (a b : List (V × V)) (p : V × V) (v : V) : setE (flatP (a ++ p :: b)) a.length v = flatP (a ++ (p.1, v) :: b) := by
  have h := flatP_len a
  unfold setE
  rw [flatP_app, flatP_cons, flatP_app, flatP_cons, List.set_append_right _ _ (by omega), h, show 2 * a.length + 1 - 2 * a.length = 1 by omega]
  rfl
theorem delE_flatP (a b : List (V × V)) (p : V × V) : delE (flatP (a ++ p :: b)) a.length = flatP (a ++ b) := by
  have h := flatP_len a
  unfold delE
  rw [flatP_app, flatP_cons, flatP_app, ← h, List.take_left']
  · rw [List.drop_append, List.drop_eq_nil_of_le (by omega), show (flatP a).length + 2 - (flatP a).length = 2 by omega]
    rfl
  · rfl
/-- Renamed cells: what a block holds, in another word. -/
def named (sym : Option V) (cs : List V) : Option (List Prop × List V) := match sym with
  | none => some ([], cs)
  | some (.agg _ cs') => some ([cs = cs'], cs')
  | _ => none
theorem named_ok {sym : Option V} {cs cs' : List V} {o : List Prop} (h : named sym cs = some (o, cs')) (ho : AllP o) : cs = cs' := by
  unfold named at h
  split at h
  · cases h; rfl
  · cases h; exact ho.1
  · cases h
/-- m[k] = v. -/
def mputR (tc : List (Nat × TI)) (kt : TypeId) (cells : List V) (k v : V) (cells' : List V) : Prop :=
  (mfind tc kt k cells 0 = some none ∧ cells' = cells ++ [k, v]) ∨ ∃ j, mfind tc kt k cells 0 = some (some j) ∧ gI cells (2 * j) = k ∧ cells' = setE cells j v
def mdelR (tc : List (Nat × TI)) (kt : TypeId) (cells : List V) (k : V) (cells' : List V) : Prop :=
  (mfind tc kt k cells 0 = some none ∧ cells' = cells) ∨ ∃ j, mfind tc kt k cells 0 = some (some j) ∧ cells' = delE cells j
def mput1 (tc : List (Nat × TI)) (kt : TypeId) (cells : List V) (k v : V) : Option (List V) :=
  match mfind tc kt k cells 0 with
  | some none => some (cells ++ [k, v])
  | some (some j) => match kEq (gI cells (2 * j)) k with
    | true => some (setE cells j v)
    | false => none
  | none => none
theorem mput1_ok {tc : List (Nat × TI)} {kt : TypeId} {cells cells' : List V} {k v : V} (h : mput1 tc kt cells k v = some cells') : mputR tc kt cells k v cells' := by
  unfold mput1 at h
  split at h
  · rename_i hf
    cases h
    exact .inl ⟨hf, rfl⟩
  · rename_i j hf
    split at h
    · rename_i hk
      cases h
      exact .inr ⟨j, hf, kEq_ok hk, rfl⟩
    · cases h
  · cases h
def mdel1 (tc : List (Nat × TI)) (kt : TypeId) (cells : List V) (k : V) : Option (List V) :=
  match mfind tc kt k cells 0 with
  | some none => some cells
  | some (some j) => some (delE cells j)
  | none => none
theorem mdel1_ok {tc : List (Nat × TI)} {kt : TypeId} {cells cells' : List V} {k : V} (h : mdel1 tc kt cells k = some cells') : mdelR tc kt cells k cells' := by
  unfold mdel1 at h
  split at h
  · rename_i hf
    cases h
    exact .inl ⟨hf, rfl⟩
  · rename_i j hf
    cases h
    exact .inr ⟨j, hf, rfl⟩
  · cases h
/-- Cells that are told (then something is owed), or reckoned. -/
def told (sym : Option V) (R : List V → Prop) (c : Option (List V)) : Option (List Prop × List V) := match sym with
  | some (.agg _ cs') => some ([R cs'], cs')
  | some _ => none
  | none => c.map fun cs => ([], cs)
theorem told_ok {sym : Option V} {R : List V → Prop} {c : Option (List V)} {o : List Prop} {cs : List V} (h : told sym R c = some (o, cs)) (hc : ∀ x, c = some x → R x) (ho : AllP o) : R cs := by
  unfold told at h
  split at h
  · cases h
    exact ho.1
  · cases h
  · obtain ⟨x, h1, h2⟩ := Option.map_eq_some_iff.1 h
    cases h2
    exact hc _ h1
def evMapUpd (tc : List (Nat × TI)) (H : List (Nat × Blk)) (sym : Option V) (t : TypeId) (x k v : V) : Option (List Prop × List (Nat × Blk)) :=
  match x, lk tc t with
  | .mp id, some ⟨.map kt et, _, _, _, _⟩ => match lk H id, kvOk tc 4 kt k && ksc k with
    | some blk, true => match isMp blk with
      | true => match told sym (mputR tc kt blk.cells k v) (mput1 tc kt blk.cells k v) with
        | some (o, cs) => some (o, ins id { blk with cells := cs, flat := blk.flat && (flat k && flat v) } H)
        | none => none
      | false => none
    | _, _ => none
  | _, _ => none
def evMapDel (tc : List (Nat × TI)) (H : List (Nat × Blk)) (sym : Option V) (t : TypeId) (x k : V) : Option (List Prop × List (Nat × Blk)) :=
  match x, lk tc t with
  | .mp id, some ⟨.map kt et, _, _, _, _⟩ => match lk H id, kvOk tc 4 kt k with
    | some blk, true => match isMp blk with
      | true => match told sym (mdelR tc kt blk.cells k) (mdel1 tc kt blk.cells k) with
        | some (o, cs) => some (o, ins id { blk with cells := cs } H)
        | none => none
      | false => none
    | _, _ => none
  | _, _ => none
def evClear (tc : List (Nat × TI)) (H : List (Nat × Blk)) (sym : Option V) (t : TypeId) (x : V) : Option (List Prop × List (Nat × Blk)) :=
  match x, lk tc t with
  | .mp id, some ⟨.map kt et, _, _, _, _⟩ => match lk H id with
    | some blk => match isMp blk with
      | true => some ([], ins id { blk with cells := [], flat := true } H)
      | false => none
    | none => none
  | .vs [] 0, some ⟨.slice e, _, _, _, _⟩ => some ([], H)
  | .sl id off n, some ⟨.slice e, _, _, _, _⟩ => match lkC H id, lk tc e with
    | some blk, some ei => match ei.zero.all scalar && (Nat.blt 0 ei.size && ei.zero.length == ei.size) with
      | true => match chk sym.isSome (Nat.ble (off + n * ei.size) blk.cells.length) (off + n * ei.size ≤ blk.cells.length), named sym (putAt blk.cells off (zeros ei.zero (n * ei.size))) with
        | some o1, some (o2, cs) => some (o1 ++ o2, ins id { blk with cells := cs } H)
        | _, _ => none
      | false => none
    | _, _ => none
  | _, _ => none
section
variable {C : Cx} {G : Gl} {P : Program} {φ φ' : Phi} {a : Act} {w w' : World} {s s' : St} {tc : List (Nat × TI)} {H : List (Nat × Blk)} {sym : Option V} {o : List Prop} {x y k v : V} {u ux uy uk uv : Value}
theorem sobj {b : Nat} {es : Array MapEntry} {clock : Nat} (ob : Obj) (hb : w.heap[b]? = some (.map es clock)) : (setObj b ob).run P w = .ok () { w with heap := w.heap.setIfInBounds b ob } := by
  simp [setObj, Sem.run, hb]
theorem hset {b : Nat} {ob ob' : Obj} (hb : w.heap[b]? = some ob) : ({ w with heap := w.heap.setIfInBounds b ob' } : World).heap[b]? = some ob' ∧ (∀ b', b' ≠ b → ({ w with heap := w.heap.setIfInBounds b ob' } : World).heap[b']? = w.heap[b']?) ∧ ({ w with heap := w.heap.setIfInBounds b ob' } : World).heap.size = w.heap.size := by
  have hlt := (Array.getElem?_eq_some_iff.1 hb).1
  refine ⟨by simp [Array.getElem?_setIfInBounds, hlt], fun b' hne => ?_, by simp⟩
  simp [Array.getElem?_setIfInBounds, Ne.symm hne]
theorem Stamps.push {es : Array MapEntry} {clock : Nat} (h : Stamps es clock) (k v : Value) : Stamps (es.push { key := k, val := v, born := clock }) (clock + 1) := by
  refine ⟨fun e he => ?_, ?_⟩
  · simp only [Array.toList_push, List.mem_append, List.mem_singleton] at he
    rcases he with he | rfl
    · have := h.1 e he
      omega
    · exact Nat.lt_succ_self _
  · rw [Array.toList_push]
    refine List.pairwise_append.2 ⟨h.2, List.pairwise_singleton _ _, fun a ha b hb => ?_⟩
    simp at hb
    subst hb
    have := h.1 a ha
    show a.born ≠ clock
    omega
theorem borns_modify (l : List MapEntry) (j : Nat) (f : MapEntry → MapEntry) (hf : ∀ e, (f e).born = e.born) : (l.modify j f).map (·.born) = l.map (·.born) := by
  apply List.ext_getElem?
  intro i
  simp only [List.getElem?_map, List.getElem?_modify]
  split
  · rename_i e
    subst e
    cases l[j]? <;> simp [hf]
  · cases l[i]? <;> rfl
theorem Stamps.of {es es' : Array MapEntry} {clock : Nat} (h : Stamps es clock) (e : es'.toList.map (·.born) = es.toList.map (·.born)) : Stamps es' clock := by
  have h1 : ∀ n ∈ es.toList.map (·.born), n < clock := fun n hn => by
    obtain ⟨x, hx, rfl⟩ := List.mem_map.1 hn
    exact h.1 x hx
  have h2 : (es.toList.map (·.born)).Pairwise (· ≠ ·) := List.pairwise_map.2 h.2
  rw [← e] at h1 h2
  exact ⟨fun x hx => h1 _ (List.mem_map.2 ⟨x, hx, rfl⟩), List.pairwise_map.1 h2⟩
theorem Stamps.modify {es : Array MapEntry} {clock : Nat} (h : Stamps es clock) (j : Nat) (f : MapEntry → MapEntry) (hf : ∀ e, (f e).born = e.born) : Stamps (es.modify j f) clock :=
  h.of (by rw [Array.toList_modify]; exact borns_modify _ _ _ hf)
theorem Stamps.sub {es es' : Array MapEntry} {clock : Nat} (h : Stamps es clock) (hs : es'.toList.Sublist es.toList) : Stamps es' clock :=
  ⟨fun e he => h.1 e (hs.subset he), h.2.sublist hs⟩
/-- A map's block is written. -/
theorem Inv.mwrite (hI : Inv C G s φ a w) {id b : Nat} {c : Option Nat} (hs : φ id = .at b c) {blk blk' : Blk} (hb : lk s.H id = some blk) (hm : isMp blk = true) (hbd : blk'.bld = blk.bld) {es es' : Array MapEntry} {cl cl' : Nat} (hh : w.heap[b]? = some (.map es cl)) {ks ks' : List (V × V)} (hks : blk'.cells = flatP ks) (hpm : ks.Perm ks')
    (hr : RelV (Imm φ G.X w) w (bFlat φ blk'.flat) (flatP ks') (ents es')) (hst : Stamps es' cl') : Inv C G ⟨s.tm, ins id blk' s.H⟩ φ a { w with heap := w.heap.setIfInBounds b (.map es' cl') } := by
  obtain ⟨h1, h2, h3⟩ := hset (ob' := .map es' cl') hh
  have hc := (mrel_of hI.hr hb hm hs).1
  refine hI.write hs (by rw [hb]; simp) ⟨rfl, rfl, rfl⟩ h3 h2 ?_
  have hm' : isMp blk' = true := by rw [isMp_congr hbd]; exact hm
  simp only [BlkRel, hm']
  refine ⟨hc, es', cl', ks, ks', h1, hks, hpm, hr.mono (fun b' h => ⟨⟨by rw [h3]; exact h.1, h.2⟩, h2 b' (fun e => h.2.1 id c (by rw [e]; exact hs))⟩) ?_ ?_, hst⟩
  · exact fun _ _ _ h => h
  · exact fun _ h => h
theorem key_run (hT : TCok P tc) {I : Nat → Prop} {kt : TypeId} (hkv : kvOk tc 4 kt k = true) (hk : Rel I w φ k uk) : (∀ em, (Instr.checkKey em 10000 kt uk).run P w = .ok () w) ∧ (lk tc kt).isSome = true := by
  refine ⟨fun em => ?_, ?_⟩
  · have := kvOk_ok (P := P) (w := w) (I := I) (φ := φ) hT em 4 kt k uk 9996 hkv hk
    exact this
  · unfold kvOk at hkv
    split at hkv
    · rename_i e; rw [e]; rfl
    · cases hkv
theorem evMapUpd_ok (hT : TCok C.P C.tc) (hI : Inv C G s φ a w) {t : TypeId} {H' : List (Nat × Blk)} (h : evMapUpd C.tc s.H sym t x k v = some (o, H')) (ho : AllP o)
    (hx : Rel (Imm φ G.X w) w φ x ux) (hk : Rel (Imm φ G.X w) w φ k uk) (hv : Rel (Imm φ G.X w) w φ v uv) : ∃ w', (Instr.mapUpdate t ux uk uv).run C.P w = .ok () w' ∧ Inv C G ⟨s.tm, H'⟩ φ a w' := by
  unfold evMapUpd at h
  split at h
  case h_2 => cases h
  rename_i id kt et _ _ _ _ hti
  have ht := (hT.get hti).desc
  split at h
  case h_2 => cases h
  rename_i blk hb hc
  simp only [Bool.and_eq_true] at hc
  obtain ⟨hck, hkt⟩ := key_run hT hc.1 hk
  split at h
  case h_2 => cases h
  rename_i hm
  cases hx with
  | mp hs =>
  rename_i b c
  obtain ⟨_, es, clock, ks, ks', hh, hks, hpm, hr, hst⟩ := mrel_of hI.hr hb hm hs
  have hr' := relV_up hr
  rw [ents_eq] at hr'
  have flk : (blk.flat && (flat k && flat v)) = true → flat k = true := fun e => by simp only [Bool.and_eq_true] at e; exact e.2.1
  have flv : (blk.flat && (flat k && flat v)) = true → flat v = true := fun e => by simp only [Bool.and_eq_true] at e; exact e.2.2
  have flb : (blk.flat && (flat k && flat v)) = true → blk.flat = true := fun e => by simp only [Bool.and_eq_true] at e; exact e.1
  split at h
  case h_2 => cases h
  rename_i o' cs hn
  cases h
  rcases told_ok hn (fun _ => mput1_ok) ho with ⟨hf, rfl⟩ | ⟨j, hf, hkj, rfl⟩
  · rw [hks] at hf
    obtain ⟨o2, q1, q2⟩ := findKey_ok hT hkt hk hr' ((mfind_perm hpm).1 hf)
    cases q2
    refine ⟨{ w with heap := w.heap.setIfInBounds b (.map (es.push { key := uk, val := uv, born := clock }) (clock + 1)) }, ?_, hI.mwrite hs hb hm (by rfl) hh (ks := ks ++ [(k, v)]) (ks' := ks' ++ [(k, v)]) (by rw [flatP_app, ← hks]; rfl) (hpm.append_right _) ?_ (hst.push _ _)⟩
    · simp [Instr.mapUpdate, run_underlying ht, gobj hh, hck, q1, sobj _ hh]
    · have e : ents (es.push { key := uk, val := uv, born := clock }) = ents es ++ [uk, uv] := by simp [ents]
      rw [e, flatP_app]
      exact (relV_both hr flb).app (.cons (rel_fl hk flk) (.cons (rel_fl hv flv) .nil))
  · rw [hks] at hf
    obtain ⟨a1, p, b1, a2, b2, e3, e4, e5, hp2, hj2⟩ := (mfind_perm hpm).2 j hf
    obtain ⟨o2, q1, e, _, q2, q3⟩ := findKey_ok hT hkt hk hr' hj2
    simp only [Nat.sub_zero] at q2
    subst q3
    have hold := (relV_get hr' q2).1
    rw [e5, (gI_flatP a2 b2 p).1] at hold
    rw [hks, e3, e4, (gI_flatP a1 b1 p).1] at hkj
    rw [hkj] at hold
    obtain ⟨ek, hsb⟩ := ksc_one hc.2 hk hold
    have hlt : a2.length < es.size := by
      have := (List.getElem?_eq_some_iff.1 q2).1
      simpa using this
    have hej : es[a2.length]? = some e := by simpa using q2
    refine ⟨{ w with heap := w.heap.setIfInBounds b (.map (es.modify a2.length fun e => { e with key := uk, val := uv }) clock) }, ?_, hI.mwrite hs hb hm (by rfl) hh (ks := a1 ++ (p.1, v) :: b1) (ks' := a2 ++ (p.1, v) :: b2)
      (by show setE blk.cells j v = _; rw [hks, e3, e4, setE_flatP]) ((List.perm_middle.trans (hp2.cons _)).trans List.perm_middle.symm) ?_ (hst.modify a2.length _ fun _ => rfl)⟩
    · have hks : (Instr.keyThatStays e.key uk).run C.P w = .ok uk w := by
        unfold Instr.keyThatStays
        rw [← ek, hsb]
        simp
      simp [Instr.mapUpdate, run_underlying ht, gobj hh, hck, q1, hej, hks, sobj _ hh]
    · have hL : ((es.modify a2.length fun e => { e with key := uk, val := uv }).toList) = es.toList.modify a2.length fun e => { e with val := uv } := by
        rw [Array.toList_modify]
        apply List.ext_getElem?
        intro i
        simp only [List.getElem?_modify]
        split
        · rename_i e1
          subst e1
          rw [q2]
          simp [ek]
        · rfl
      rw [ents_eq, hL, ← setE_flatP, ← e5]
      rw [ents_eq] at hr
      exact relV_set (relV_both hr flb) q2 (rel_fl hv flv)
theorem evMapDel_ok (hT : TCok C.P C.tc) (hI : Inv C G s φ a w) {t ty : TypeId} {ts : Array TypeId} {H' : List (Nat × Blk)} (h : evMapDel C.tc s.H sym t x k = some (o, H')) (ho : AllP o) (hts : ts[0]? = some t)
    (hx : Rel (Imm φ G.X w) w φ x ux) (hk : Rel (Imm φ G.X w) w φ k uk) : ∃ w', (Builtin.delete_ ts ty #[ux, uk]).run C.P w = .ok (.tuple #[]) w' ∧ Inv C G ⟨s.tm, H'⟩ φ a w' := by
  unfold evMapDel at h
  split at h
  case h_2 => cases h
  rename_i id kt et _ _ _ _ hti
  have ht := (hT.get hti).desc
  split at h
  case h_2 => cases h
  rename_i blk hb hc
  obtain ⟨hck, hkt⟩ := key_run hT hc hk
  split at h
  case h_2 => cases h
  rename_i hm
  cases hx with
  | mp hs =>
  rename_i b c
  obtain ⟨_, es, clock, ks, ks', hh, hks, hpm, hr, hst⟩ := mrel_of hI.hr hb hm hs
  have hr' := relV_up hr
  rw [ents_eq] at hr'
  split at h
  case h_2 => cases h
  rename_i o' cs hn
  cases h
  rcases told_ok hn (fun _ => mdel1_ok) ho with ⟨hf, rfl⟩ | ⟨j, hf, rfl⟩
  · rw [hks] at hf
    obtain ⟨o2, q1, q2⟩ := findKey_ok hT hkt hk hr' ((mfind_perm hpm).1 hf)
    cases q2
    refine ⟨{ w with heap := w.heap.setIfInBounds b (.map es clock) }, ?_, hI.mwrite hs hb hm (by rfl) hh hks hpm hr hst⟩
    simp [Builtin.delete_, hts, run_underlying ht, gobj hh, hck, q1, sobj _ hh]
  · rw [hks] at hf
    obtain ⟨a1, p, b1, a2, b2, e3, e4, e5, hp2, hj2⟩ := (mfind_perm hpm).2 j hf
    obtain ⟨o2, q1, e, _, q2, q3⟩ := findKey_ok hT hkt hk hr' hj2
    simp only [Nat.sub_zero] at q2
    subst q3
    have hlt : a2.length < es.size := by
      have := (List.getElem?_eq_some_iff.1 q2).1
      simpa using this
    refine ⟨{ w with heap := w.heap.setIfInBounds b (.map (es.eraseIdxIfInBounds a2.length) clock) }, ?_, hI.mwrite hs hb hm (by rfl) hh (ks := a1 ++ b1) (ks' := a2 ++ b2) (by show delE blk.cells j = _; rw [hks, e3, e4, delE_flatP]) hp2 ?_ (hst.sub (by unfold Array.eraseIdxIfInBounds; rw [dif_pos hlt, Array.toList_eraseIdx]; exact List.eraseIdx_sublist ..))⟩
    · simp [Builtin.delete_, hts, run_underlying ht, gobj hh, hck, q1, sobj _ hh]
    · have hL : (es.eraseIdxIfInBounds a2.length).toList = es.toList.eraseIdx a2.length := by
        unfold Array.eraseIdxIfInBounds
        rw [dif_pos hlt, Array.toList_eraseIdx]
      rw [ents_eq, hL, ← delE_flatP (p := p), ← e5]
      rw [ents_eq] at hr
      exact relV_del hr (by simpa using hlt)
theorem evClear_ok (hT : TCok C.P C.tc) (hI : Inv C G s φ a w) {t ty : TypeId} {ts : Array TypeId} {H' : List (Nat × Blk)} (h : evClear C.tc s.H sym t x = some (o, H')) (ho : AllP o) (hts : ts[0]? = some t)
    (hx : Rel (Imm φ G.X w) w φ x ux) : ∃ w', (Builtin.clear_ ts ty #[ux]).run C.P w = .ok (.tuple #[]) w' ∧ Inv C G ⟨s.tm, H'⟩ φ a w' := by
  unfold evClear at h
  split at h
  · rename_i id kt et _ _ _ _ hti
    have ht := (hT.get hti).desc
    split at h
    case h_2 => cases h
    rename_i blk hb
    split at h
    case h_2 => cases h
    rename_i hm
    cases h
    cases hx with
    | mp hs =>
    rename_i b c
    obtain ⟨_, es, clock, ks, ks', hh, hks, hpm, hr, hst⟩ := mrel_of hI.hr hb hm hs
    refine ⟨{ w with heap := w.heap.setIfInBounds b (.map #[] clock) }, ?_, hI.mwrite hs hb hm (by rfl) hh (ks := []) (ks' := []) rfl (.refl _) .nil ⟨fun e he => (by cases he), List.Pairwise.nil⟩⟩
    simp [Builtin.clear_, hts, run_underlying ht, gobj hh, sobj _ hh]
  · rename_i e _ _ _ _ hti
    have ht := (hT.get hti).desc
    cases h
    refine ⟨w, ?_, hI⟩
    cases hx with
    | vs a1 a2 a3 a4 a5 a6 a7 =>
      rename_i us cap A
      cases A with
      | none => simp [Builtin.clear_, hts, run_underlying ht]
      | some A =>
        simp only [Builtin.clear_, hts, Sem.run_bind, Sem.run_pure]
        simp [run_underlying ht]
  · rename_i id off n e _ _ _ _ hti
    have ht := (hT.get hti).desc
    split at h
    case h_2 => cases h
    rename_i blk ei hb hei
    have he := hT.get hei
    split at h
    case h_2 => cases h
    rename_i hc
    simp only [Bool.and_eq_true, beq_iff_eq] at hc
    obtain ⟨c1, c2, c3⟩ := hc
    rw [Nat.blt_eq] at c2
    split at h
    case h_2 => cases h
    rename_i o1 o2 cs hk1 hn
    cases h
    obtain ⟨p1, p2⟩ := AllP.append.1 ho
    have hle := chk_ok hk1 (fun e => Nat.le_of_ble_eq_true e) p1
    obtain rfl := named_ok hn p2
    obtain ⟨z, hz1, hz2, _⟩ := he.zeroValue w
    have hzl : z.cells.size = ei.size := by
      have := congrArg List.length hz2
      simp only [Array.length_toList] at this
      omega
    have hzr : ∀ {I : Nat → Prop} (φ : Phi), RelL I w φ (zeros ei.zero (n * ei.size)) ((Array.range (n * ei.size)).map (fun i => z.cells[i % z.cells.size]!)).toList := fun φ => zeros_rel c1 z.cells hz2 (by omega) _ _
    have hzn : (zeros ei.zero (n * ei.size)).length = n * ei.size := by simp [zeros]
    -- nothing to do
    have idle : n = 0 → Inv C G ⟨s.tm, ins id { blk with cells := putAt blk.cells off (zeros ei.zero (n * ei.size)) } s.H⟩ φ a w := fun hn0 => by
      have e1 : putAt blk.cells off (zeros ei.zero (n * ei.size)) = blk.cells := by
        rw [hn0]
        simp [putAt, zeros]
      rw [e1]
      refine hI.congr (fun i => ?_)
      rw [lk_ins]
      split
      · rename_i e2
        subst e2
        rw [(lkC_lk hb).1]
      · rfl
    cases hx with
    | slnil hs =>
      refine ⟨w, ?_, idle rfl⟩
      simp [Builtin.clear_, hts, run_underlying ht]
    | sl hs q1 q2 q3 =>
      rename_i cap b c
      by_cases hn0 : n = 0
      · subst hn0
        refine ⟨w, ?_, idle rfl⟩
        simp [Builtin.clear_, hts, run_underlying ht]
      obtain ⟨us, el, hh, hr, hkk⟩ := slot_blk hI.hr hb hs
      have hcl := hr.1
      simp only [List.length_take, Array.length_toList] at hcl
      have hzr' := hzr (I := Imm φ G.X w) (bFlat φ blk.flat)
      generalize hZ : ((Array.range (n * ei.size)).map (fun i => z.cells[i % z.cells.size]!)).toList = Z at hzr hzr'
      have hZl : Z.length = n * ei.size := by rw [← hZ]; simp
      have hcell : ∀ j, j < Z.length → (w.cell? ⟨b, off + 0 + j, none⟩).isSome = true ∧ w.frozen? ⟨b, off + 0 + j, none⟩ = false := fun j hj => by
        have hj' : off + j < us.size := by omega
        refine ⟨?_, ?_⟩
        · simp [World.cell?, hh, hj']
        · simp [World.frozen?, hh]
      have hrun := run_storeCells_cells (P := C.P) b off Z 0 w (fun j hj => (hcell j hj).1) (fun j hj => (hcell j hj).2) hzr'.2.2
      have hzc : (Builtin.zeroCells z.cells n).toList = Z := by
        rw [← hZ]
        unfold Builtin.zeroCells
        rw [hzl]
      refine ⟨w.setCells b off Z, ?_, ?_⟩
      · obtain ⟨n', rfl⟩ : ∃ n', n = n' + 1 := ⟨n - 1, by omega⟩
        simp only [Builtin.clear_, hts, Sem.run_bind, Sem.run_pure]
        simp [run_underlying ht, hz1, hzc]
        have hrun2 := hrun
        simp only [Nat.add_zero] at hrun2
        rw [hrun2]
        rfl
      · have h3 := setCells_heap b el off Z 0 w us hh
        have h4 := fold_put off Z 0 us (by omega)
        have h5 := congrArg List.length h4
        simp only [Nat.add_zero, List.length_append, List.length_take, List.length_drop, Array.length_toList] at h5
        have hpl : (putAt blk.cells off (zeros ei.zero (n * ei.size))).length = blk.cells.length := putAt_len (by rw [hzn]; exact hle)
        have im : ∀ b', Imm φ G.X w b' → Imm φ G.X (w.setCells b off Z) b' ∧ (w.setCells b off Z).heap[b']? = w.heap[b']? := fun b' h =>
          ⟨⟨by rw [setCells_size]; exact h.1, h.2⟩, setCells_other b (fun e => h.2.1 id c (by rw [e]; exact hs)) _ _ _⟩
        refine hI.write hs (by rw [(lkC_lk hb).1]; simp) (setCells_os _ _ _ _) (setCells_size _ _ _ _) (fun b' hne => setCells_other b hne _ _ _) (CRel.blk ⟨_, el, h3, ?_, ?_⟩ (lkC_lk hb).2)
        · generalize (Z.zipIdx 0).foldl (fun (cs : Array Value) (p : Value × Nat) => cs.setIfInBounds (off + p.2) p.1) us = us' at h3 h4 h5
          have e : us'.toList.take (putAt blk.cells off (zeros ei.zero (n * ei.size))).length = putAtU (us.toList.take blk.cells.length) off Z := by
            rw [hpl, h4]
            unfold putAtU
            apply List.ext_getElem?
            intro i
            simp only [List.getElem?_take, List.getElem?_append, List.length_take, List.getElem?_drop, Array.length_toList, Nat.add_zero]
            have l2 : min off us.size = off := by omega
            have l3 : min off (min blk.cells.length us.size) = off := by omega
            simp only [l2, l3]
            by_cases hi : i < blk.cells.length
            · simp only [hi, if_true]
              by_cases h5 : i < off
              · simp [h5]
              · simp only [h5, if_false]
                by_cases h6 : i - off < Z.length
                · simp [h6]
                · simp only [h6, if_false]
                  have : off + Z.length + (i - off - Z.length) < blk.cells.length := by omega
                  simp [this]
            · simp only [hi, if_false]
              have h5 : ¬ i < off := by omega
              have h6 : ¬ i - off < Z.length := by omega
              have : ¬ off + Z.length + (i - off - Z.length) < blk.cells.length := by omega
              simp [h5, h6, this]
          show RelL _ _ _ (putAt blk.cells off (zeros ei.zero (n * ei.size))) (us'.toList.take (putAt blk.cells off (zeros ei.zero (n * ei.size))).length)
          rw [e]
          refine (RelL.putAt hr hzr' off).mono im ?_ ?_
          · exact fun _ _ _ h => h
          · exact fun _ h => h
        · simp only [Nat.add_zero] at h5 ⊢
          show (match blk.bld with | none => _ | some (e, sz) => _)
          cases hbl : blk.bld with
          | none =>
            simp only [hbl] at hkk
            show Array.size _ = _ ∧ _ ∧ _
            simp only [hpl]
            exact ⟨by omega, hkk.2.1, hkk.2.2⟩
          | some q =>
            simp only [hbl] at hkk
            obtain ⟨r1, cap', n', r2, r3, r4, r5, r6⟩ := hkk
            exact ⟨r1, cap', n', r2, by rw [← r3]; exact hpl, r4, r5, by omega⟩
  · cases h
end
end Go.Ab
