/- A call that is lent own blocks to write. -/
import Derived.Test.YtlfjnkobnkfioaaAb15b
set_option linter.unusedSimpArgs false
set_option linter.unusedVariables false
namespace Go.Ab
open Go.RowKit

mutual
/-- Other numbers, whatever they are. -/
def renG (g : Nat → Nat) : V → V
  | .ptr id off => .ptr (g id) off
  | .sl id off n => .sl (g id) off n
  | .agg false cs => .agg false (renGL g cs)
  | .tup cs => .tup (renGL g cs)
  | .clo fn a b => .clo fn (renGL g a) (renGL g b)
  | x => x
  termination_by structural x => x
def renGL (g : Nat → Nat) : List V → List V
  | [] => []
  | x :: r => renG g x :: renGL g r
  termination_by structural x => x
end
theorem renGL_eq (g : Nat → Nat) (l : List V) : renGL g l = l.map (renG g) := by
  induction l with
  | nil => simp [renGL]
  | cons x r ih => simp [renGL, ih]
def renGB (g : Nat → Nat) (b : Blk) : Blk := if b.flat then b else { b with cells := renGL g b.cells }
section
variable {I : Nat → Prop} {w : World} {φ : Phi} {x : V} {u : Value}
theorem Rel.renG {ok : Nat → Bool} {g : Nat → Nat} (h : Rel I w φ x u) : inIds ok x = true → ∀ φ2 : Phi, (∀ id, ok id = true → φ id ≠ .none → φ2 (g id) = φ id) → Rel I w φ2 (Ab.renG g x) u := by
  induction h with
  | val h => exact fun _ _ _ => by simpa [Ab.renG] using Rel.val h
  | ptr h =>
      intro hi φ2 hk
      simp only [inIds] at hi
      simp only [Ab.renG]
      exact .ptr (by rw [hk _ hi (by rw [h]; simp)]; exact h)
  | sl h a b c =>
      intro hi φ2 hk
      simp only [inIds] at hi
      simp only [Ab.renG]
      exact .sl (by rw [hk _ hi (by rw [h]; simp)]; exact h) a b c
  | slnil h =>
      intro hi φ2 hk
      simp only [inIds] at hi
      simp only [Ab.renG]
      exact .slnil (by rw [hk _ hi (by rw [h]; simp)]; exact h)
  | vs a b c d e f g => exact fun _ _ _ => by simpa [Ab.renG] using Rel.vs a b c d e f g
  | vp a b c d => exact fun _ _ _ => by simpa [Ab.renG] using Rel.vp a b c d
  | @agg φ fl cs us hl hr h1 ih =>
    intro hi φ2 hk
    cases fl with
    | true => simpa [Ab.renG] using Rel.agg (φ := φ2) (fl := true) hl (by simpa using hr) h1
    | false =>
      simp only [inIds] at hi
      simp only [Ab.renG, renGL_eq]
      refine .agg (by simpa using hl) (fun i hi2 => ?_) h1
      have hi' : i < cs.length := by simpa using hi2
      simpa using ih i hi' (inIdsL_get hi i hi') φ2 (by simpa using hk)
  | @tup φ cs us hl hr ih =>
    intro hi φ2 hk
    simp only [inIds] at hi
    simp only [Ab.renG, renGL_eq]
    refine .tup (by simpa using hl) (fun i hi2 => ?_)
    have hi' : i < cs.length := by simpa using hi2
    simpa using ih i hi' (inIdsL_get hi i hi') φ2 hk
  | @clo φ fn fs cap us vs hl hr hl2 hr2 ih ih2 =>
    intro hi φ2 hk
    simp only [inIds, Bool.and_eq_true] at hi
    simp only [Ab.renG, renGL_eq]
    refine .clo (by simpa using hl) (fun i hi2 => ?_) (by simpa using hl2) (fun i hi2 => ?_)
    · have hi' : i < fs.length := by simpa using hi2
      simpa using ih i hi' (inIdsL_get hi.1 i hi') φ2 hk
    · have hi' : i < cap.length := by simpa using hi2
      simpa using ih2 i hi' (inIdsL_get hi.2 i hi') φ2 hk
  | bo => exact fun _ _ _ => by simpa [Ab.renG] using Rel.bo
  | top => exact fun _ _ _ => by simpa [Ab.renG] using Rel.top
theorem BlkRel.renG {ok : Nat → Bool} {g : Nat → Nat} {s : Slot} {b : Blk} (h : BlkRel I w φ s b) (hi : blkIn ok b = true) (φ2 : Phi) (hk : ∀ id, ok id = true → φ id ≠ .none → φ2 (g id) = φ id) : BlkRel I w φ2 s (renGB g b) := by
  unfold renGB
  cases hf : b.flat with
  | true =>
    simp only [if_true]
    cases s with
    | none => trivial
    | nil => exact h
    | «at» bb c =>
      obtain ⟨us, el, h1, h2, h3⟩ := h
      refine ⟨us, el, h1, ?_, h3⟩
      rw [hf] at h2 ⊢
      exact h2
  | false =>
    simp only [Bool.false_eq_true, if_false]
    simp only [blkIn, hf, Bool.false_or] at hi
    cases s with
    | none => trivial
    | nil =>
      obtain ⟨h1, h2⟩ := h
      exact ⟨by simp [h1, renGL], h2⟩
    | «at» bb c =>
      obtain ⟨us, el, h1, h2, h3⟩ := h
      have hl : (renGL g b.cells).length = b.cells.length := by simp [renGL_eq]
      rw [hf] at h2
      refine ⟨us, el, h1, ?_, ?_⟩
      · simp only [hl]
        refine ⟨by simpa [renGL_eq] using h2.1, fun i hi2 => ?_, h2.2.2⟩
        have hi' : i < b.cells.length := by simpa [renGL_eq] using hi2
        have := (h2.2.1 i hi').renG (inIdsL_get hi i hi') φ2 hk
        simpa [renGL_eq, bFlat] using this
      · simp only [hl]
        exact h3
theorem renGB_bld (g : Nat → Nat) (b : Blk) : (renGB g b).bld = b.bld := by
  unfold renGB
  split <;> rfl
end

/-- Which block of the contract is which one of the caller's. -/
def pairsL : List V → List (Nat × Nat)
  | [] => []
  | .sl c i _ :: r => (c, i) :: pairsL r
  | _ :: r => pairsL r
def pairsOf : Option V → List (Nat × Nat)
  | some (.tup l) => pairsL l
  | _ => []
def distinct : List Nat → Bool
  | [] => true
  | x :: r => !(r.contains x) && distinct r
def cOf (ps : List (Nat × Nat)) (i : Nat) : Option Nat :=
  match ps with
  | [] => none
  | (c, j) :: r => if Nat.beq j i then some c else cOf r i
def okP (ps : List (Nat × Nat)) (i : Nat) : Bool := (cOf ps i).isSome
def gIn (ps : List (Nat × Nat)) (i : Nat) : Nat := (cOf ps i).getD 0
def small (i : Nat) : Bool := Nat.blt i BIG
def okO (ps : List (Nat × Nat)) (j : Nat) : Bool := small j || (lk ps j).isSome
def gOut (ps : List (Nat × Nat)) (k : Nat) (j : Nat) : Nat := match lk ps j with | some i => i | none => j + k
def ownIn (H : List (Nat × Blk)) (pp : List (Nat × Nat)) : List (Nat × Nat) → Option (List (Nat × Blk))
  | [] => some []
  | (c, i) :: r => match lk H i, ownIn H pp r with
    | some b, some l => if blkIn (okP pp) b then some ((c, renGB (gIn pp) b) :: l) else none
    | _, _ => none
def setOwn (Hout : List (Nat × Blk)) (H : List (Nat × Blk)) (pp : List (Nat × Nat)) (k : Nat) : List (Nat × Nat) → Option (List (Nat × Blk))
  | [] => some H
  | (c, i) :: r => match lk Hout c, lk H i, setOwn Hout H pp k r with
    | some b', some b, some H1 => if (b.bld.isSome == b'.bld.isSome) && (blkIn (okO pp) b' && Nat.ble BIG c) then some (ins i (renGB (gOut pp k) b') H1) else none
    | _, _, _ => none
/-- Of these the place may be another one behind the call. -/
def movers (H : List (Nat × Blk)) : List (Nat × Nat) → List Nat
  | [] => []
  | (_, i) :: r => match lk H i with
    | some b => if b.bld.isSome then i :: movers H r else movers H r
    | none => movers H r
def notIn (l : List Nat) (j : Nat) : Bool := !(l.contains j)
def killTs (l : List Nat) : List (Nat × T) → List (Nat × T)
  | [] => []
  | (t, x) :: r => (t, match tIn (notIn l) x with | true => x | false => .plain .top) :: killTs l r
theorem lk_killTs {l : List Nat} {t : Nat} {x : T} : ∀ {tm : List (Nat × T)}, lk (killTs l tm) t = some x → x = .plain .top ∨ (lk tm t = some x ∧ tIn (notIn l) x = true)
  | [], h => by cases h
  | (q, y) :: r, h => by
    simp only [killTs, lk, beq_iff_eq] at h ⊢
    split at h
    · rename_i e
      rw [if_pos e]
      split at h
      · rename_i hy
        cases h
        exact .inr ⟨rfl, hy⟩
      · cases h
        exact .inl rfl
    · rename_i e
      rw [if_neg e]
      exact lk_killTs h
/-- What is not lent does not lead to what may be moved. -/
def othersOk (ps : List (Nat × Nat)) (l : List Nat) : List (Nat × Blk) → Bool
  | [] => true
  | (j, b) :: r => (okP ps j || blkIn (notIn l) b) && othersOk ps l r
theorem othersOk_get {ps : List (Nat × Nat)} {l : List Nat} : ∀ {H : List (Nat × Blk)} {j : Nat} {b : Blk}, othersOk ps l H = true → lk H j = some b → okP ps j = false → blkIn (notIn l) b = true
  | [], _, _, _, h, _ => by cases h
  | (i, b') :: r, j, b, hr, h, hs => by
    simp only [othersOk, Bool.and_eq_true, Bool.or_eq_true] at hr
    simp only [lk, beq_iff_eq] at h
    split at h
    · rename_i e
      cases h
      subst e
      rcases hr.1 with h1 | h1
      · rw [hs] at h1
        cases h1
      · exact h1
    · exact othersOk_get hr.2 h hs
def ownArgs (ps : List (Nat × Nat)) : List V → Option (List V)
  | [] => some []
  | x :: r => match inIds (okP ps) x, ownArgs ps r with
    | true, some ys => some (renG (gIn ps) x :: ys)
    | _, _ => none
/-- What is new, by the caller's numbers. -/
def restH (g : Nat → Nat) (k : Nat) : List (Nat × Blk) → List (Nat × Blk)
  | [] => []
  | (i, b) :: r => if small i then (i + k, renGB g b) :: restH g k r else restH g k r
def restOk (ps : List (Nat × Nat)) : List (Nat × Blk) → Bool
  | [] => true
  | (i, b) :: r => (!(small i) || blkIn (okO ps) b) && restOk ps r
/-- The own blocks behind the call; what it yields. -/
def evCallO (P : Program) (tm : List (Nat × T)) (H : List (Nat × Blk)) (d : Nat) (f : FuncId) (xs : List V) (sym : Option V) (c : CR) : Option (List Prop × St × V) :=
  let ps := pairsOf sym
  let g := gOut ps (base d)
  match ownIn H ps ps, ownArgs ps xs, setOwn c.Hout H ps (base d) ps with
  | some Hin, some ys, some H1 => if (distinct (ps.map (·.1)) && distinct (ps.map (·.2))) && ((restOk ps c.Hout && inIds (okO ps) c.r) && othersOk ps (movers H ps) H) then
      match insAll (restH g (base d) c.Hout) H1 with
      | some H2 => some ([Con P f Hin ys c.Hout c.r], ⟨killTs (movers H ps) tm, H2⟩, renG g c.r)
      | none => none
      else none
  | _, _, _ => none
section
variable {ps pp : List (Nat × Nat)} {H Hout Hin H1 : List (Nat × Blk)} {k : Nat}
theorem distinct_1 : ∀ {ps : List (Nat × Nat)}, distinct (ps.map (·.1)) = true → ∀ {c i}, (c, i) ∈ ps → lk ps c = some i
  | [], _, c, i, h => by cases h
  | (c', i') :: r, hd, c, i, h => by
    simp only [List.map_cons, distinct, Bool.and_eq_true, Bool.not_eq_true', List.contains_eq_mem, decide_eq_false_iff_not] at hd
    simp only [lk, beq_iff_eq]
    rcases List.mem_cons.1 h with e | h'
    · cases e
      rw [if_pos rfl]
    · rw [if_neg]
      · exact distinct_1 hd.2 h'
      · intro e
        subst e
        exact hd.1 (List.mem_map.2 ⟨(c, i), h', rfl⟩)
theorem distinct_2 : ∀ {ps : List (Nat × Nat)}, distinct (ps.map (·.2)) = true → ∀ {c c' i}, (c, i) ∈ ps → (c', i) ∈ ps → c = c'
  | [], _, c, c', i, h, _ => by cases h
  | (a, b) :: r, hd, c, c', i, h, h' => by
    simp only [List.map_cons, distinct, Bool.and_eq_true, Bool.not_eq_true', List.contains_eq_mem, decide_eq_false_iff_not] at hd
    rcases List.mem_cons.1 h with e | h1 <;> rcases List.mem_cons.1 h' with e' | h2
    · cases e; cases e'; rfl
    · cases e
      exact absurd (List.mem_map.2 ⟨(c', _), h2, rfl⟩) hd.1
    · cases e'
      exact absurd (List.mem_map.2 ⟨(c, _), h1, rfl⟩) hd.1
    · exact distinct_2 hd.2 h1 h2
theorem lk_mem : ∀ {ps : List (Nat × Nat)} {c i}, lk ps c = some i → (c, i) ∈ ps
  | [], _, _, h => by cases h
  | (a, b) :: r, c, i, h => by
    simp only [lk, beq_iff_eq] at h
    split at h
    · rename_i e
      cases h
      subst e
      simp
    · exact List.mem_cons_of_mem _ (lk_mem h)
theorem cOf_mem : ∀ {ps : List (Nat × Nat)} {c i}, cOf ps i = some c → (c, i) ∈ ps
  | [], _, _, h => by cases h
  | (a, b) :: r, c, i, h => by
    simp only [cOf] at h
    split at h
    · rename_i e
      cases h
      have := Nat.eq_of_beq_eq_true e
      subst this
      simp
    · exact List.mem_cons_of_mem _ (cOf_mem h)
theorem cOf_some : ∀ {ps : List (Nat × Nat)} {c i}, (c, i) ∈ ps → (cOf ps i).isSome = true
  | (a, b) :: r, c, i, h => by
    simp only [cOf]
    split
    · rfl
    · rename_i e
      rcases List.mem_cons.1 h with e' | h'
      · cases e'
        exact absurd (Nat.beq_refl _) e
      · exact cOf_some h'
theorem okP_iff {ps : List (Nat × Nat)} {i : Nat} : okP ps i = true ↔ ∃ c, (c, i) ∈ ps := by
  unfold okP
  constructor
  · intro h
    obtain ⟨c, hc⟩ := Option.isSome_iff_exists.1 h
    exact ⟨c, cOf_mem hc⟩
  · rintro ⟨c, hc⟩
    exact cOf_some hc
theorem ownIn_lk : ∀ {ps : List (Nat × Nat)} {Hin : List (Nat × Blk)}, ownIn H pp ps = some Hin → ∀ c, (∀ b', lk Hin c = some b' → ∃ i b, lk ps c = some i ∧ lk H i = some b ∧ blkIn (okP pp) b = true ∧ b' = renGB (gIn pp) b) ∧ (lk Hin c = none → lk ps c = none)
  | [], Hin, h, c => by cases h; exact ⟨fun b' hb => (by cases hb), fun _ => rfl⟩
  | (a, i) :: r, Hin, h, c => by
    unfold ownIn at h
    split at h
    · rename_i b l hb hl
      split at h
      · rename_i hok
        cases h
        simp only [lk]
        split
        · exact ⟨fun b' e => (by cases e; exact ⟨i, b, rfl, hb, hok, rfl⟩), fun e => (by cases e)⟩
        · exact ownIn_lk hl c
      · cases h
    · cases h
theorem setOwn_lk : ∀ {ps : List (Nat × Nat)} {H1 : List (Nat × Blk)}, setOwn Hout H pp k ps = some H1 → ∀ j,
    (∃ c b b', (c, j) ∈ ps ∧ lk Hout c = some b' ∧ lk H j = some b ∧ (b.bld.isSome = b'.bld.isSome ∧ blkIn (okO pp) b' = true ∧ BIG ≤ c) ∧ lk H1 j = some (renGB (gOut pp k) b')) ∨ ((∀ c, (c, j) ∉ ps) ∧ lk H1 j = lk H j)
  | [], H1, h, j => by
    cases h
    exact .inr ⟨fun c h => (by cases h), rfl⟩
  | (c, i) :: r, H1, h, j => by
    unfold setOwn at h
    split at h
    · rename_i b' b H0 h1 h2 h3
      split at h
      · rename_i hc
        cases h
        simp only [Bool.and_eq_true, beq_iff_eq, Nat.ble_eq] at hc
        by_cases e : j = i
        · subst e
          exact .inl ⟨c, b, b', by simp, h1, h2, ⟨hc.1, hc.2.1, hc.2.2⟩, by rw [lk_ins, if_pos rfl]⟩
        · rcases setOwn_lk h3 j with ⟨c1, b1, b1', k1, k2, k3, k4, k5⟩ | ⟨k1, k2⟩
          · exact .inl ⟨c1, b1, b1', List.mem_cons_of_mem _ k1, k2, k3, k4, by rw [lk_ins, if_neg e]; exact k5⟩
          · refine .inr ⟨fun c1 hm => ?_, by rw [lk_ins, if_neg e]; exact k2⟩
            rcases List.mem_cons.1 hm with e' | hm
            · cases e'
              exact e rfl
            · exact k1 c1 hm
      · cases h
    · cases h
theorem setOwn_in : ∀ {ps : List (Nat × Nat)} {H1 : List (Nat × Blk)}, setOwn Hout H pp k ps = some H1 → ∀ {c j}, (c, j) ∈ ps → ∃ b b', lk H j = some b ∧ lk Hout c = some b' ∧ b.bld.isSome = b'.bld.isSome ∧ blkIn (okO pp) b' = true ∧ BIG ≤ c
  | [], H1, h, c, j, hm => by cases hm
  | (c0, i) :: r, H1, h, c, j, hm => by
    unfold setOwn at h
    split at h
    · rename_i b' b H0 h1 h2 h3
      split at h
      · rename_i hc
        simp only [Bool.and_eq_true, beq_iff_eq, Nat.ble_eq] at hc
        rcases List.mem_cons.1 hm with e | hm
        · cases e
          exact ⟨b, b', h2, h1, hc.1, hc.2.1, hc.2.2⟩
        · exact setOwn_in h3 hm
      · cases h
    · cases h
theorem movers_in : ∀ {ps : List (Nat × Nat)} {c i : Nat} {b : Blk}, (c, i) ∈ ps → lk H i = some b → b.bld.isSome = true → i ∈ movers H ps
  | [], _, _, _, h, _, _ => by cases h
  | (c0, i0) :: r, c, i, b, h, hl, hb => by
    unfold movers
    rcases List.mem_cons.1 h with e | h'
    · cases e
      rw [hl]
      simp [hb]
    · have := movers_in h' hl hb
      split
      · split
        · exact List.mem_cons_of_mem _ this
        · exact this
      · exact this
theorem lk_restH {g : Nat → Nat} : ∀ {l : List (Nat × Blk)} {j : Nat} {b : Blk}, lk (restH g k l) j = some b → ∃ i b0, j = i + k ∧ lk l i = some b0 ∧ small i = true ∧ b = renGB g b0
  | [], _, _, h => by cases h
  | (i0, b') :: r, j, b, h => by
    simp only [restH] at h
    split at h
    · rename_i hs
      simp only [lk, beq_iff_eq] at h
      split at h
      · rename_i e
        cases h
        exact ⟨i0, b', e, by simp [lk], hs, rfl⟩
      · rename_i e
        obtain ⟨i, b0, rfl, h1, h2, h3⟩ := lk_restH h
        refine ⟨i, b0, rfl, ?_, h2, h3⟩
        simp only [lk, beq_iff_eq]
        rw [if_neg (fun e' => e (by rw [e']))]
        exact h1
    · rename_i hs
      obtain ⟨i, b0, rfl, h1, h2, h3⟩ := lk_restH h
      refine ⟨i, b0, rfl, ?_, h2, h3⟩
      simp only [lk, beq_iff_eq]
      rw [if_neg (fun e' => hs (by rw [← e']; exact h2))]
      exact h1
theorem lk_restH_of {g : Nat → Nat} : ∀ {l : List (Nat × Blk)} {i : Nat} {b : Blk}, lk l i = some b → small i = true → lk (restH g k l) (i + k) = some (renGB g b)
  | [], _, _, h, _ => by cases h
  | (j, b') :: r, i, b, h, hs => by
    simp only [lk, beq_iff_eq] at h
    simp only [restH]
    split at h
    · rename_i e
      cases h
      subst e
      rw [if_pos hs]
      simp [lk]
    · rename_i e
      split
      · simp only [lk, beq_iff_eq]
        rw [if_neg (by omega)]
        exact lk_restH_of h hs
      · exact lk_restH_of h hs
theorem restOk_get : ∀ {l : List (Nat × Blk)} {i : Nat} {b : Blk}, restOk ps l = true → lk l i = some b → small i = true → blkIn (okO ps) b = true
  | [], _, _, _, h, _ => by cases h
  | (j, b') :: r, i, b, hr, h, hs => by
    simp only [restOk, Bool.and_eq_true, Bool.or_eq_true, Bool.not_eq_true'] at hr
    simp only [lk, beq_iff_eq] at h
    split at h
    · rename_i e
      cases h
      subst e
      rcases hr.1 with h1 | h1
      · rw [hs] at h1
        cases h1
      · exact h1
    · exact restOk_get hr.2 h hs
end
section
variable {I I' : Nat → Prop} {w w' : World} {φ φ' : Phi}
theorem BlkRel.onlyTo {ok : Nat → Bool} {s : Slot} {b : Blk} (h : BlkRel I w φ s b) (hi : blkIn ok b = true) (φ2 : Phi) (hk : ∀ id, ok id = true → φ id ≠ .none → φ2 id = φ id) : BlkRel I w φ2 s b := by
  cases s with
  | none => trivial
  | nil => exact h
  | «at» bb c =>
    obtain ⟨us, el, h1, h2, h3⟩ := h
    refine ⟨us, el, h1, ?_, h3⟩
    cases hf : b.flat with
    | true =>
      rw [hf] at h2
      exact h2
    | false =>
      rw [hf] at h2
      simp only [blkIn, hf, Bool.false_or] at hi
      exact ⟨h2.1, fun i hl => (h2.2.1 i hl).only (inIdsL_get hi i hl) φ2 hk, h2.2.2⟩
theorem ownArgs_ok {I I' : Nat → Prop} {ps : List (Nat × Nat)} {φ φc : Phi} (im : ∀ b, I b → I' b ∧ w.heap[b]? = w.heap[b]?) (hφ : ∀ id, okP ps id = true → φ id ≠ .none → φc (gIn ps id) = φ id) : ∀ {xs ys : List V} {us : List Value}, ownArgs ps xs = some ys → Rels I w φ xs us → Rels I' w φc ys us
  | [], ys, us, h, hr => by
    cases h
    cases hr
    exact .nil
  | x :: xs, ys, us, h, hr => by
    unfold ownArgs at h
    split at h
    · rename_i ys' hy hys
      cases h
      cases hr with
      | cons h1 h2 =>
        exact .cons (Rel.mono im (h1.renG hy φc hφ) _ (fun _ _ _ h => h) (fun _ h => h)) (ownArgs_ok im hφ hys h2)
    · cases h
end
theorem evCallO_tm {P : Program} {tm : List (Nat × T)} {H : List (Nat × Blk)} {d : Nat} {f : FuncId} {xs : List V} {sym : Option V} {c : CR} {os : List Prop} {s2 : St} {v : V} (h : evCallO P tm H d f xs sym c = some (os, s2, v)) {t : Nat} {x : T} (hx : lk s2.tm t = some x) : x = .plain .top ∨ lk tm t = some x := by
  simp only [evCallO] at h
  split at h
  case h_2 => cases h
  split at h
  case isFalse => cases h
  split at h
  case h_2 => cases h
  cases h
  rcases lk_killTs hx with h | ⟨h, _⟩
  · exact .inl h
  · exact .inr h
section
variable {C : Cx} {G : Gl} {P : Program} {φ φ' : Phi} {a : Act} {w w' : World} {s s' : St}
theorem evCallO_ok (hI : Inv C G s φ a w) {d : Nat} {f : FuncId} {xs : List V} {sym : Option V} {c : CR} {os : List Prop} {s2 : St} {v : V} (h : evCallO P s.tm s.H d f xs sym c = some (os, s2, v)) (ho : AllP os) {us : List Value} (hx : Rels (Imm φ G.X w) w φ xs us) :
    FnOk P f ∧ Calls P f us.toArray w fun e w' => ∃ u φ2, e = .returned u ∧ Inv C G s2 φ2 a w' ∧ Rel (Imm φ2 G.X w') w' φ2 v u := by
  simp only [evCallO] at h
  generalize pairsOf sym = ps at h
  split at h
  case h_2 => cases h
  rename_i Hin ys H1 hin hargs hset
  split at h
  case isFalse => cases h
  rename_i hc
  split at h
  case h_2 => cases h
  rename_i H2 hins
  cases h
  simp only [Bool.and_eq_true] at hc
  obtain ⟨⟨hd1, hd2⟩, ⟨hro, hri⟩, hot⟩ := hc
  obtain ⟨hcon, _⟩ := ho
  refine ⟨hcon.1, ?_⟩
  have m1 : ∀ {c i}, (c, i) ∈ ps → lk ps c = some i := distinct_1 hd1
  have m2 : ∀ {c c' i}, (c, i) ∈ ps → (c', i) ∈ ps → c = c' := distinct_2 hd2
  have mc : ∀ {c i}, (c, i) ∈ ps → cOf ps i = some c := fun {c i} hm => by
    obtain ⟨c', hc'⟩ := Option.isSome_iff_exists.1 (cOf_some hm)
    rw [hc', m2 (cOf_mem hc') hm]
  let φc : Phi := fun c => match lk ps c with | some i => φ i | none => .none
  have hφc : ∀ c i, (c, i) ∈ ps → φc c = φ i := fun c i hm => by simp only [φc, m1 hm]
  have hφc' : ∀ c b cc, φc c = .at b cc → ∃ i, (c, i) ∈ ps ∧ φ i = .at b cc := fun c b cc hs => by
    simp only [φc] at hs
    cases hl : lk ps c with
    | none => rw [hl] at hs; cases hs
    | some i => rw [hl] at hs; exact ⟨i, lk_mem hl, hs⟩
  have hgin : ∀ id, okP ps id = true → φ id ≠ .none → φc (gIn ps id) = φ id := fun id hid _ => by
    obtain ⟨cc, hcc⟩ := okP_iff.1 hid
    simp only [gIn, mc hcc, Option.getD_some]
    exact hφc cc id hcc
  let X' : Nat → Prop := fun b => G.X b ∨ ∃ i cc, φ i = .at b cc ∧ ∀ c, (c, i) ∉ ps
  have hXw : ∀ b, G.X b → b < w.heap.size := fun b hb => Nat.lt_of_lt_of_le (hI.x b hb) hI.frm.size
  have im0 : ∀ b, Imm φ G.X w b → Imm φc X' w b ∧ w.heap[b]? = w.heap[b]? := fun b hb => by
    refine ⟨⟨hb.1, fun c cc hs => ?_, fun hx => ?_⟩, rfl⟩
    · obtain ⟨i, _, hi⟩ := hφc' c b cc hs
      exact hb.2.1 _ _ hi
    · rcases hx with hx | ⟨i, cc, hi, _⟩
      · exact hb.2.2 hx
      · exact hb.2.1 _ _ hi
  have hokc : Phi.ok φc X' w Hin := by
    refine ⟨fun i j b cc cc' hi hj => ?_, fun i b cc hi => ?_, fun i b cc hi => ?_, fun i hi => ?_⟩
    · obtain ⟨i1, h1, h2⟩ := hφc' _ _ _ hi
      obtain ⟨j1, h3, h4⟩ := hφc' _ _ _ hj
      have := hI.ok.inj _ _ _ _ _ h2 h4
      subst this
      exact m2 h1 h3
    · obtain ⟨i1, _, h2⟩ := hφc' _ _ _ hi
      exact hI.ok.lt _ _ _ h2
    · obtain ⟨i1, h1, h2⟩ := hφc' _ _ _ hi
      rintro (hx | ⟨j, cj, hj, hno⟩)
      · exact hI.ok.free _ _ _ h2 hx
      · have := hI.ok.inj _ _ _ _ _ h2 hj
        subst this
        exact hno _ h1
    · show φc i = .none
      have := (ownIn_lk hin i).2 hi
      simp only [φc, this]
  have hX' : ∀ b, X' b → b < w.heap.size := fun b hb => by
    rcases hb with hb | ⟨i, cc, hi, _⟩
    · exact hXw b hb
    · exact hI.ok.lt _ _ _ hi
  have hHin : HR (Imm φc X' w) w φc Hin := fun i blk hl => by
    obtain ⟨j, b, hp, hb, hok, rfl⟩ := (ownIn_lk hin i).1 blk hl
    rw [hφc i j (lk_mem hp)]
    exact ((hI.hr j b hb).renG hok φc hgin).mono im0 (fun _ _ _ => rfl) (fun _ _ _ h => h) (fun _ h => h)
  refine (hcon.2 X' φc w us hokc hX' hHin (ownArgs_ok im0 hgin hargs hx) (hI.gok.mono im0)).mono ?_
  rintro e w' ⟨u, φ', rfl, hfr, hok', hown', hHo, hru, hfix⟩
  let k := base d
  let R := restH (gOut ps k) k c.Hout
  let φ2 : Phi := fun j => if lk R j = none then (match cOf ps j with | some c => φ' c | none => φ j) else φ' (j - k)
  have hold : ∀ j, lk R j = none → (∀ c, (c, j) ∉ ps) → φ2 j = φ j := fun j hj hno => by
    have hn : cOf ps j = none := by
      cases hcj : cOf ps j with
      | none => rfl
      | some c => exact absurd (cOf_mem hcj) (hno c)
    simp only [φ2, hn]
    rw [if_pos hj]
  have hnw : ∀ j, lk R j ≠ none → φ2 j = φ' (j - k) ∧ ∃ j0 b0, j = j0 + k ∧ lk c.Hout j0 = some b0 ∧ small j0 = true := fun j hj => by
    refine ⟨by simp only [φ2]; rw [if_neg hj], ?_⟩
    obtain ⟨b0, hb0⟩ := Option.ne_none_iff_exists'.1 hj
    obtain ⟨j0, b1, rfl, h1, h2, _⟩ := lk_restH hb0
    exact ⟨j0, b1, rfl, h1, h2⟩
  have hlentR : ∀ {cc i}, (cc, i) ∈ ps → lk R i = none := fun {cc i} hm => by
    cases hn : lk R i with
    | none => rfl
    | some b0 =>
      exfalso
      have h1 := insAll_fresh hins i (by rw [show lk (restH (gOut ps (base d)) (base d) c.Hout) i = some b0 from hn]; simp)
      rcases setOwn_lk hset i with ⟨_, _, _, _, _, _, _, h2⟩ | ⟨h2, _⟩
      · rw [h1] at h2
        cases h2
      · exact h2 _ hm
  have hlent : ∀ {cc i}, (cc, i) ∈ ps → φ2 i = φ' cc := fun {cc i} hm => by
    simp only [φ2, mc hm]
    rw [if_pos (hlentR hm)]
  have hsmall : ∀ {j0}, small j0 = true → j0 < BIG := fun {j0} h => by
    unfold small at h
    rwa [Nat.blt_eq] at h
  -- a block that is no slice's lies where it lay
  have hstay : ∀ {cc i b q}, (cc, i) ∈ ps → i ∉ movers s.H ps → φ i = .at b q → q = none ∧ φ' cc = .at b none := fun {cc i b q} hm hmv hs => by
    obtain ⟨b0, b1, hb0, hb1, hbb, _, hbig⟩ := setOwn_in hset hm
    have hbn : b0.bld = none := by
      cases hb : b0.bld with
      | none => rfl
      | some z => exact absurd (movers_in hm hb0 (by rw [hb]; rfl)) hmv
    have hk := hI.hr i b0 hb0
    rw [hs] at hk
    obtain ⟨us0, el, _, _, k3⟩ := hk
    rw [hbn] at k3
    obtain ⟨_, _, rfl⟩ := k3
    refine ⟨rfl, ?_⟩
    rcases hfix cc b hbig (by rw [hφc cc i hm]; exact hs) with h1 | h1
    · exact h1
    · rw [hb1] at h1
      cases h1
  have hnilm : ∀ {cc i}, (cc, i) ∈ ps → i ∉ movers s.H ps → φ i ≠ .nil := fun {cc i} hm hmv hs => by
    obtain ⟨b0, b1, hb0, _⟩ := setOwn_in hset hm
    have hk := hI.hr i b0 hb0
    rw [hs] at hk
    exact hmv (movers_in hm hb0 hk.2)
  -- what the callee leaves was lent, or is new
  have hwhere : ∀ {j0 b q}, φ' j0 = .at b q → (∃ c1 i1 q1, (c1, i1) ∈ ps ∧ φ i1 = .at b q1) ∨ w.heap.size ≤ b := fun {j0 b q} hj0 => by
    rcases hown' _ _ _ hj0 with ⟨c1, q1, h1⟩ | h1
    · obtain ⟨i1, h2, h3⟩ := hφc' _ _ _ h1
      exact .inl ⟨c1, i1, q1, h2, h3⟩
    · exact .inr h1
  have hdis : ∀ {j b q j0 q0}, φ j = .at b q → (∀ c, (c, j) ∉ ps) → φ' j0 = .at b q0 → False := fun {j b q j0 q0} hj hno hj0 => by
    rcases hwhere hj0 with ⟨c1, i1, q1, h1, h2⟩ | h1
    · have := hI.ok.inj _ _ _ _ _ hj h2
      subst this
      exact hno _ h1
    · have := hI.ok.lt _ _ _ hj
      omega
  have hcase : ∀ {j b q}, φ2 j = .at b q → (lk R j ≠ none ∧ φ' (j - k) = .at b q) ∨ (lk R j = none ∧ ∃ cc, (cc, j) ∈ ps ∧ φ' cc = .at b q) ∨ (lk R j = none ∧ (∀ cc, (cc, j) ∉ ps) ∧ φ j = .at b q) := fun {j b q} hs => by
    by_cases hj : lk R j = none
    · by_cases hm : ∃ cc, (cc, j) ∈ ps
      · obtain ⟨cc, hm⟩ := hm
        rw [hlent hm] at hs
        exact .inr (.inl ⟨hj, cc, hm, hs⟩)
      · have hm' : ∀ cc, (cc, j) ∉ ps := fun cc h => hm ⟨cc, h⟩
        rw [hold j hj hm'] at hs
        exact .inr (.inr ⟨hj, hm', hs⟩)
    · rw [(hnw j hj).1] at hs
      exact .inl ⟨hj, hs⟩
  have im1 : ∀ b, Imm φ G.X w b → Imm φ2 G.X w' b ∧ w'.heap[b]? = w.heap[b]? := fun b hb => by
    have hno : ∀ {j0 q}, φ' j0 = .at b q → False := fun {j0 q} hj0 => by
      rcases hwhere hj0 with ⟨c1, i1, q1, _, h2⟩ | h1
      · exact hb.2.1 _ _ h2
      · have := hb.1
        omega
    refine ⟨⟨Nat.lt_of_lt_of_le hb.1 hfr.size, fun j q hs => ?_, hb.2.2⟩, hfr.block b hb.1 (fun c q hs => ?_)⟩
    · rcases hcase hs with ⟨_, h1⟩ | ⟨_, cc, _, h1⟩ | ⟨_, _, h1⟩
      · exact hno h1
      · exact hno h1
      · exact hb.2.1 _ _ h1
    · obtain ⟨i1, _, h3⟩ := hφc' _ _ _ hs
      exact hb.2.1 _ _ h3
  have im2 : ∀ b, Imm φ' X' w' b → Imm φ2 G.X w' b ∧ w'.heap[b]? = w'.heap[b]? := fun b hb => by
    refine ⟨⟨hb.1, fun j q hs => ?_, fun hx => hb.2.2 (.inl hx)⟩, rfl⟩
    rcases hcase hs with ⟨_, h1⟩ | ⟨_, cc, _, h1⟩ | ⟨_, hno, h1⟩
    · exact hb.2.1 _ _ h1
    · exact hb.2.1 _ _ h1
    · exact hb.2.2 (.inr ⟨j, q, h1, hno⟩)
  have hfree : ∀ j, φ j ≠ .none → lk R j = none := fun j hj => by
    cases hn : lk R j with
    | none => rfl
    | some b0 =>
      exfalso
      have h1 := insAll_fresh hins j (by rw [show lk (restH (gOut ps (base d)) (base d) c.Hout) j = some b0 from hn]; simp)
      refine hj (hI.ok.dom j ?_)
      rcases setOwn_lk hset j with ⟨_, _, _, _, _, _, _, h2⟩ | ⟨_, h2⟩
      · rw [h1] at h2
        cases h2
      · rw [← h2]
        exact h1
  -- what is not moved
  have hk1 : ∀ id, notIn (movers s.H ps) id = true → φ id ≠ .none → φ2 id = φ id := fun id hid hne => by
    have hmv : id ∉ movers s.H ps := by simpa [notIn] using hid
    by_cases hm : ∃ cc, (cc, id) ∈ ps
    · obtain ⟨cc, hm⟩ := hm
      rw [hlent hm]
      cases hs : φ id with
      | none => exact absurd hs hne
      | nil => exact absurd hs (hnilm hm hmv)
      | «at» b q =>
        obtain ⟨rfl, h2⟩ := hstay hm hmv hs
        exact h2
    · exact hold id (hfree id hne) (fun cc h => hm ⟨cc, h⟩)
  -- what the callee leaves, by the caller's numbers
  have hk2 : ∀ id, okO ps id = true → φ' id ≠ .none → φ2 (gOut ps k id) = φ' id := fun id hid hne => by
    unfold gOut
    cases hp : lk ps id with
    | some i => exact hlent (lk_mem hp)
    | none =>
      have hs : small id = true := by simpa [okO, hp] using hid
      have hl : lk c.Hout id ≠ none := fun e => hne (hok'.dom id e)
      obtain ⟨b0, hb0⟩ := Option.ne_none_iff_exists'.1 hl
      have h1 : lk R (id + k) = some _ := lk_restH_of (g := gOut ps k) (k := k) hb0 hs
      have := (hnw (id + k) (by rw [h1]; simp)).1
      rw [Nat.add_sub_cancel] at this
      exact this
  refine ⟨u, φ2, rfl, ⟨hI.size, hI.defers, fun t x hx => ?_, fun j blk hl => ?_, ⟨fun i j b q q' hi hj => ?_, fun i b q hi => ?_, fun i b q hi => ?_, fun i hi => ?_⟩, hI.x, ?_, fun j b q hs => ?_, fun j b hbig h0 => ?_⟩, ?_⟩
  · rcases lk_killTs hx with rfl | ⟨hx, hin⟩
    · exact Rel.top
    have := hI.tm t x hx
    cases x with
    | plain y => exact Rel.mono im1 (Rel.only this hin φ2 hk1) _ (fun _ _ _ h => h) (fun _ h => h)
    | gd dd want y => exact ⟨fun e => Rel.mono im1 (Rel.only (this.1 e) hin φ2 hk1) _ (fun _ _ _ h => h) (fun _ h => h), this.2⟩
  · have hl : lk H2 j = some blk := hl
    rw [lk_insAll hins] at hl
    split at hl
    · rename_i b1 hb1
      cases hl
      have hne : lk R j ≠ none := by rw [show lk R j = some blk from hb1]; simp
      rw [(hnw j hne).1]
      obtain ⟨j0, b0, rfl, h1, h2, rfl⟩ := lk_restH hb1
      rw [Nat.add_sub_cancel]
      exact ((hHo j0 b0 h1).renG (restOk_get hro h1 h2) φ2 hk2).mono im2 (fun _ _ _ => rfl) (fun _ _ _ h => h) (fun _ h => h)
    · rename_i hb1
      have hb1 : lk R j = none := hb1
      rcases setOwn_lk hset j with ⟨cc, b0, b0', hm, g1, g2, ⟨g3, g4, g5⟩, g8⟩ | ⟨hno, g1⟩
      · rw [g8] at hl
        cases hl
        rw [hlent hm]
        exact ((hHo cc b0' g1).renG g4 φ2 hk2).mono im2 (fun _ _ _ => rfl) (fun _ _ _ h => h) (fun _ h => h)
      · rw [g1] at hl
        rw [hold j hb1 hno]
        have hokj : okP ps j = false := by
          cases hh : okP ps j with
          | false => rfl
          | true =>
            obtain ⟨cc, hcc⟩ := okP_iff.1 hh
            exact absurd hcc (hno cc)
        refine ((hI.hr j blk hl).onlyTo (othersOk_get hot hl hokj) φ2 hk1).mono im1 (fun b q hs => hfr.block b (hI.ok.lt _ _ _ hs) (fun c1 q1 hs1 => ?_)) (fun _ _ _ h => h) (fun _ h => h)
        obtain ⟨i1, h2, h3⟩ := hφc' _ _ _ hs1
        have := hI.ok.inj _ _ _ _ _ hs h3
        subst this
        exact hno _ h2
  · rcases hcase hi with ⟨h1, h2⟩ | ⟨h1, ci, h2, h3⟩ | ⟨h1, h2, h3⟩ <;> rcases hcase hj with ⟨g1, g2⟩ | ⟨g1, cj, g2, g3⟩ | ⟨g1, g2, g3⟩
    · have := hok'.inj _ _ _ _ _ h2 g2
      obtain ⟨_, i0, _, rfl, _⟩ := hnw i h1
      obtain ⟨_, j0, _, rfl, _⟩ := hnw j g1
      omega
    · have := hok'.inj _ _ _ _ _ h2 g3
      obtain ⟨_, i0, _, rfl, _, hs⟩ := hnw i h1
      obtain ⟨_, _, _, _, _, _, hbig⟩ := setOwn_in hset g2
      have := hsmall hs
      omega
    · exact (hdis g3 g2 h2).elim
    · have := hok'.inj _ _ _ _ _ h3 g2
      obtain ⟨_, j0, _, rfl, _, hs⟩ := hnw j g1
      obtain ⟨_, _, _, _, _, _, hbig⟩ := setOwn_in hset h2
      have := hsmall hs
      omega
    · have := hok'.inj _ _ _ _ _ h3 g3
      subst this
      have e1 := m1 h2
      rw [m1 g2] at e1
      exact (Option.some.inj e1).symm
    · exact (hdis g3 g2 h3).elim
    · exact (hdis h3 h2 g2).elim
    · exact (hdis h3 h2 g3).elim
    · exact hI.ok.inj _ _ _ _ _ h3 g3
  · rcases hcase hi with ⟨_, h1⟩ | ⟨_, cc, _, h1⟩ | ⟨_, _, h1⟩
    · exact hok'.lt _ _ _ h1
    · exact hok'.lt _ _ _ h1
    · exact Nat.lt_of_lt_of_le (hI.ok.lt _ _ _ h1) hfr.size
  · rcases hcase hi with ⟨_, h1⟩ | ⟨_, cc, _, h1⟩ | ⟨_, _, h1⟩
    · exact fun hx => hok'.free _ _ _ h1 (.inl hx)
    · exact fun hx => hok'.free _ _ _ h1 (.inl hx)
    · exact hI.ok.free _ _ _ h1
  · have hi : lk H2 i = none := hi
    rw [lk_insAll hins] at hi
    split at hi
    · cases hi
    · rename_i h1
      rcases setOwn_lk hset i with ⟨_, _, _, _, _, _, _, h2⟩ | ⟨hno, h2⟩
      · rw [hi] at h2
        cases h2
      · rw [hold i h1 hno]
        refine hI.ok.dom i ?_
        rw [← h2]
        exact hi
  · refine ⟨hfr.os.trans hI.frm.os, hfr.tape.trans hI.frm.tape, hfr.output.trans hI.frm.output, Nat.le_trans hI.frm.size hfr.size, fun b hb h0 => ?_⟩
    rw [hfr.block b (Nat.lt_of_lt_of_le hb hI.frm.size) (fun c1 q1 hs1 => ?_)]
    · exact hI.frm.block b hb h0
    · obtain ⟨i1, _, h3⟩ := hφc' _ _ _ hs1
      rcases hI.own _ _ _ h3 with ⟨id0, c0, h⟩ | h
      · exact h0 id0 c0 h
      · omega
  · have hh : ∀ {j0}, φ' j0 = .at b q → (∃ id0 c0, G.φ0 id0 = .at b c0) ∨ G.w0.heap.size ≤ b := fun {j0} hj0 => by
      rcases hwhere hj0 with ⟨c1, i1, q1, _, h2⟩ | h1
      · exact hI.own _ _ _ h2
      · exact .inr (Nat.le_trans hI.frm.size h1)
    rcases hcase hs with ⟨_, h1⟩ | ⟨_, cc, _, h1⟩ | ⟨_, _, h1⟩
    · exact hh h1
    · exact hh h1
    · exact hI.own _ _ _ h1
  · have h1 : lk R j = none := insAll_big hins hbig
    show _ ∨ lk H2 j = none
    rcases hI.fix j b hbig h0 with h | h
    · left
      by_cases hm : ∃ cc, (cc, j) ∈ ps
      · obtain ⟨cc, hm⟩ := hm
        rw [hlent hm]
        obtain ⟨b0, b1, hb0, _⟩ := setOwn_in hset hm
        have hmv : b0.bld = none := by
          have hk := hI.hr j b0 hb0
          rw [h] at hk
          obtain ⟨us0, el, _, _, k3⟩ := hk
          cases hb : b0.bld with
          | none => rfl
          | some z =>
            rw [hb] at k3
            obtain ⟨_, _, _, hcn, _⟩ := k3
            cases hcn
        obtain ⟨_, _, hb0', hb1', hbb, _, hbig'⟩ := setOwn_in hset hm
        rcases hfix cc b hbig' (by rw [hφc cc j hm]; exact h) with h2 | h2
        · exact h2
        · rw [hb1'] at h2
          cases h2
      · rw [hold j h1 (fun cc h => hm ⟨cc, h⟩)]
        exact h
    · right
      have h1' : lk (restH (gOut ps (base d)) (base d) c.Hout) j = none := h1
      rw [lk_insAll hins, h1']
      rcases setOwn_lk hset j with ⟨_, _, _, _, _, h2, _⟩ | ⟨_, h2⟩
      · rw [h] at h2
        cases h2
      · show lk H1 j = none
        rw [h2]
        exact h
  · exact Rel.mono im2 (hru.renG hri φ2 hk2) _ (fun _ _ _ h => h) (fun _ h => h)
end
end Go.Ab
