/- To which own blocks a value leads. -/
import Derived.Test.YtmeiemdnhjnpcaaAb15
set_option linter.unusedSimpArgs false
set_option linter.unusedVariables false
namespace Go.Ab
open Go.RowKit

mutual
/-- Does it lead to own blocks of these numbers alone? -/
def inIds (ok : Nat → Bool) : V → Bool
  | .ptr id _ => ok id
  | .sl id _ _ => ok id
  | .agg false cs => inIdsL ok cs
  | .tup cs => inIdsL ok cs
  | .clo _ a b => inIdsL ok a && inIdsL ok b
  | _ => true
  termination_by structural x => x
def inIdsL (ok : Nat → Bool) : List V → Bool
  | [] => true
  | x :: r => inIds ok x && inIdsL ok r
  termination_by structural x => x
end
theorem inIdsL_get {ok : Nat → Bool} : ∀ {l : List V}, inIdsL ok l = true → ∀ i (h : i < l.length), inIds ok l[i] = true
  | [], _, i, h => by simp at h
  | x :: r, hl, i, h => by
    simp only [inIdsL, Bool.and_eq_true] at hl
    cases i with
    | zero => exact hl.1
    | succ i => exact inIdsL_get hl.2 i (by simpa using h)
section
variable {I I' : Nat → Prop} {w w' : World} {φ φ' : Phi} {x : V} {u : Value}
theorem Rel.only {ok : Nat → Bool} (h : Rel I w φ x u) : inIds ok x = true → ∀ φ2 : Phi, (∀ id, ok id = true → φ id ≠ .none → φ2 id = φ id) → Rel I w φ2 x u := by
  induction h with
  | val h => exact fun _ _ _ => .val h
  | ptr h =>
    intro hi φ2 hk
    exact .ptr (by rw [hk _ (by simpa [inIds] using hi) (by rw [h]; simp)]; exact h)
  | sl h a b c =>
    intro hi φ2 hk
    exact .sl (by rw [hk _ (by simpa [inIds] using hi) (by rw [h]; simp)]; exact h) a b c
  | slnil h =>
    intro hi φ2 hk
    exact .slnil (by rw [hk _ (by simpa [inIds] using hi) (by rw [h]; simp)]; exact h)
  | vs a b c d e f g => exact fun _ _ _ => .vs a b c d e f g
  | vp a b c d => exact fun _ _ _ => .vp a b c d
  | @agg φ fl cs us hl hr h1 ih =>
    intro hi φ2 hk
    cases fl with
    | true => exact .agg hl (by simpa using hr) h1
    | false =>
      simp only [inIds] at hi
      exact .agg hl (fun i h => by simpa using ih i h (inIdsL_get hi i h) φ2 (by simpa using hk)) h1
  | @tup φ cs us hl hr ih =>
    intro hi φ2 hk
    simp only [inIds] at hi
    exact .tup hl (fun i h => ih i h (inIdsL_get hi i h) φ2 hk)
  | @clo φ fn fs cap us vs hl hr hl2 hr2 ih ih2 =>
    intro hi φ2 hk
    simp only [inIds, Bool.and_eq_true] at hi
    exact .clo hl (fun i h => ih i h (inIdsL_get hi.1 i h) φ2 hk) hl2 (fun i h => ih2 i h (inIdsL_get hi.2 i h) φ2 hk)
  | bo => exact fun _ _ _ => .bo
  | top => exact fun _ _ _ => .top
end
def blkIn (ok : Nat → Bool) (b : Blk) : Bool := b.flat || inIdsL ok b.cells
def tIn (ok : Nat → Bool) : T → Bool
  | .plain x => inIds ok x
  | .gd _ _ x => inIds ok x
def tmIn (ok : Nat → Bool) : List (Nat × T) → Bool
  | [] => true
  | (_, x) :: r => tIn ok x && tmIn ok r
def HIn (ok : Nat → Bool) : List (Nat × Blk) → Bool
  | [] => true
  | (_, b) :: r => blkIn ok b && HIn ok r
theorem tmIn_get {ok : Nat → Bool} : ∀ {tm : List (Nat × T)} {t : Nat} {x : T}, tmIn ok tm = true → lk tm t = some x → tIn ok x = true
  | [], _, _, _, h => by cases h
  | (k, y) :: r, t, x, hi, h => by
    simp only [tmIn, Bool.and_eq_true] at hi
    simp only [lk] at h
    split at h
    · cases h; exact hi.1
    · exact tmIn_get hi.2 h
theorem HIn_get {ok : Nat → Bool} : ∀ {H : List (Nat × Blk)} {t : Nat} {x : Blk}, HIn ok H = true → lk H t = some x → blkIn ok x = true
  | [], _, _, _, h => by cases h
  | (k, y) :: r, t, x, hi, h => by
    simp only [HIn, Bool.and_eq_true] at hi
    simp only [lk] at h
    split at h
    · cases h; exact hi.1
    · exact HIn_get hi.2 h
/-- The blocks of these numbers alone. -/
def onlyH (ok : Nat → Bool) : List (Nat × Blk) → List (Nat × Blk)
  | [] => []
  | (id, b) :: r => if ok id then (id, b) :: onlyH ok r else onlyH ok r
theorem lk_onlyH {ok : Nat → Bool} : ∀ {H : List (Nat × Blk)} (id : Nat), lk (onlyH ok H) id = if ok id then lk H id else none
  | [], id => by simp [onlyH, lk]
  | (k, b) :: r, id => by
    simp only [onlyH]
    split
    · rename_i hk
      simp only [lk]
      by_cases e : id = k
      · subst e; simp [hk]
      · have e' : (id == k) = false := by simpa using e
        simp only [e', Bool.false_eq_true, if_false]
        exact lk_onlyH id
    · rename_i hk
      rw [lk_onlyH id]
      simp only [lk]
      by_cases e : id = k
      · subst e; simp [hk]
      · have e' : (id == k) = false := by simpa using e
        simp [e']
def Phi.only (φ : Phi) (ok : Nat → Bool) : Phi := fun id => if ok id then φ id else .none
theorem only_imm {φ : Phi} {ok : Nat → Bool} {X : Nat → Prop} {w : World} {b : Nat} (h : Imm φ X w b) : Imm (φ.only ok) X w b :=
  ⟨h.1, ⟨(fun id c hs => by
    unfold Phi.only at hs
    split at hs
    · exact h.2.1 id c hs
    · cases hs), h.2.2⟩⟩
theorem Rel.onlyOk {φ : Phi} {ok : Nat → Bool} {X : Nat → Prop} {w : World} {x : V} {u : Value} (h : Rel (Imm φ X w) w φ x u) (hi : inIds ok x = true) : Rel (Imm (φ.only ok) X w) w (φ.only ok) x u :=
  (h.only hi (φ.only ok) (fun id h _ => by simp [Phi.only, h])).mono (fun _ hb => ⟨only_imm hb, rfl⟩) _ (fun _ _ _ h => h) (fun _ h => h)
theorem BlkRel.onlyOk {φ : Phi} {ok : Nat → Bool} {X : Nat → Prop} {w : World} {s : Slot} {b : Blk} (h : BlkRel (Imm φ X w) w φ s b) (hi : blkIn ok b = true) : BlkRel (Imm (φ.only ok) X w) w (φ.only ok) s b := by
  cases s with
  | none => trivial
  | nil => exact h
  | «at» bb c =>
    obtain ⟨us, el, h1, h2, h3⟩ := h
    refine ⟨us, el, h1, ?_, h3⟩
    cases hf : b.flat with
    | true =>
      rw [hf] at h2
      exact h2.mono (fun _ hb => ⟨only_imm hb, rfl⟩) (fun _ _ _ h => h) (fun _ h => h)
    | false =>
      rw [hf] at h2
      simp only [blkIn, hf, Bool.false_or] at hi
      exact ⟨h2.1, fun i hl => (h2.2.1 i hl).onlyOk (inIdsL_get hi i hl), h2.2.2⟩

end Go.Ab
