/- A drawn region, some of whose operations touch no memory: these first. -/
import Derived.Test.YtcekfepgdfcinaaGreatDoorAb29
set_option linter.unusedSimpArgs false
set_option linter.unusedVariables false
namespace Go.Ab
open Go.RowKit
/-- What ends well ends so in any world, and leaves it. -/
def OKf {α : Type} (P : Program) (m : Sem α) : Prop := ∀ w v w', m.run P w = .ok v w' → w' = w ∧ ∀ w2, m.run P w2 = .ok v w2
section
variable {α β : Type} {P : Program}
theorem OKf.pure (x : α) : OKf P (Pure.pure x : Sem α) := fun w v w' h => by
  rw [Sem.run_pure] at h
  cases h
  exact ⟨rfl, fun w2 => Sem.run_pure ..⟩
theorem OKf.bind {m : Sem α} {f : α → Sem β} (hm : OKf P m) (hf : ∀ x, OKf P (f x)) : OKf P (m >>= f) := fun w v w' h => by
  rw [Sem.run_bind] at h
  cases hr : m.run P w with
  | ok x w1 =>
    rw [hr] at h
    obtain ⟨rfl, h2⟩ := hm _ _ _ hr
    obtain ⟨rfl, h3⟩ := hf x _ _ _ h
    exact ⟨rfl, fun w2 => by rw [Sem.run_bind, h2 w2]; exact h3 w2⟩
  | halt e w1 =>
    rw [hr] at h
    cases h
theorem OKf.stuck (s : String) : OKf P (Go.stuck s : Sem α) := fun w v w' h => by cases h
theorem OKf.unsup (u : Unsupported) : OKf P (Go.unsupported u : Sem α) := fun w v w' h => by cases h
theorem OKf.program : OKf P Go.program := fun w v w' h => by cases h; exact ⟨rfl, fun _ => rfl⟩
theorem OKf.underlying (t : TypeId) : OKf P (Go.underlying t) := by
  unfold Go.underlying
  refine OKf.bind OKf.program fun p => ?_
  split
  · exact OKf.pure _
  · exact OKf.stuck _
theorem OKf.sizeOf (t : TypeId) : OKf P (Go.sizeOf t) := by
  unfold Go.sizeOf Go.typeInfo
  refine OKf.bind (OKf.bind OKf.program fun p => ?_) fun p => OKf.pure _
  split
  · exact OKf.pure _
  · exact OKf.stuck _
theorem OKf.rtp : OKf P (Go.runtimePanic .nilDeref : Sem α) := by
  unfold Go.runtimePanic
  refine OKf.bind OKf.program fun p => ?_
  intro w v w' h
  cases h
theorem OKf.bnd (k : IntKind) (x y : Int) (c : BoundsCode) : OKf P (Go.boundsPanic k x y c : Sem α) := by
  intro w v w' h
  exfalso
  unfold Go.boundsPanic at h
  dsimp only at h
  split at h
  · rw [Sem.run_bind] at h
    generalize Sem.run P _ w = r at h
    cases r with
    | ok b w1 => cases h
    | halt e w1 => cases h
  · rw [Sem.run_bind, Sem.run_pure] at h
    cases h
theorem OKf.asInt (x : Value) : OKf P (Go.asIntOf x) := by
  unfold Go.asIntOf
  split
  · exact OKf.pure _
  · exact OKf.unsup _
  · exact OKf.stuck _
theorem OKf.asAddr (x : Value) : OKf P (Go.asAddr x) := by
  unfold Go.asAddr
  split
  · exact OKf.pure _
  · exact OKf.rtp
  · exact OKf.stuck _
theorem OKf.sureAddr (x : Value) : OKf P (Instr.sureAddr x) := by
  unfold Instr.sureAddr
  split
  · exact OKf.pure _
  · exact OKf.stuck _
theorem OKf.sb (x : Value) (y : Nat) (c : BoundsCode) : OKf P (Instr.sliceBound x y c) := by
  unfold Instr.sliceBound
  refine OKf.bind (OKf.asInt x) fun p => ?_
  split
  split
  · exact OKf.pure _
  · exact OKf.bnd _ _ _ _
theorem OKf.sbs (b : Bool) (n c : Nat) (lo hi mx : Option Value) : OKf P (Instr.sliceBounds b n c lo hi mx) := by
  unfold Instr.sliceBounds
  dsimp only
  repeat' (first | with_reducible exact OKf.pure _ | with_reducible exact OKf.stuck _ | with_reducible refine OKf.bind (OKf.sb _ _ _) fun _ => ?_ | with_reducible refine OKf.bind (OKf.pure _) fun _ => ?_ | with_reducible refine OKf.bind (OKf.stuck _) fun _ => ?_ | split)
theorem OKf.slice (t : TypeId) (x : Value) (lo hi mx : Option Value) : OKf P (Instr.slice t x lo hi mx) := by
  unfold Instr.slice
  refine OKf.bind (OKf.underlying t) fun d => ?_
  dsimp only
  repeat' (first | with_reducible exact OKf.pure _ | with_reducible exact OKf.stuck _ | with_reducible refine OKf.bind (OKf.sbs _ _ _ _ _ _) fun _ => ?_ | with_reducible refine OKf.bind (OKf.sizeOf _) fun _ => ?_ | with_reducible refine OKf.bind (OKf.asAddr _) fun _ => ?_ | with_reducible refine OKf.bind (OKf.underlying _) fun _ => ?_ | with_reducible refine OKf.bind (OKf.stuck _) fun _ => ?_ | with_reducible refine OKf.bind (OKf.pure _) fun _ => ?_ | split)
theorem OKf.sliceAt (t : TypeId) (x : Value) (lo hi mx : Option Value) : OKf P (Instr.sliceAt t x lo hi mx) := by
  unfold Instr.sliceAt
  refine OKf.bind (OKf.underlying t) fun d => ?_
  dsimp only
  repeat' (first | with_reducible exact OKf.pure _ | with_reducible exact OKf.stuck _ | with_reducible exact OKf.slice _ _ _ _ _ | with_reducible refine OKf.bind (OKf.sbs _ _ _ _ _ _) fun _ => ?_ | with_reducible refine OKf.bind (OKf.sizeOf _) fun _ => ?_ | with_reducible refine OKf.bind (OKf.sureAddr _) fun _ => ?_ | split)
end
section
variable {C : Cx} {G : Gl} {ops : List Oper} {hs : List (Nat × Hint)} {φ : Phi} {a a' : Act} {w : World} {s s' sf : St} {os : List Prop}
end
structure Ct (m : Nat) (ops : List Oper) : Prop where
  le : m ≤ ops.length
  gd : ∀ (i : Nat) (o : Oper), m ≤ i → ops[i]? = some o → o.guard = none
  ed : ∀ (i : Nat) (o : Oper), ops[i]? = some o → ∀ e ∈ o.after, e.on < ops.length
section
variable {m : Nat} {ops : List Oper}
end
section
variable {C : Cx} {G : Gl} {ops : List Oper} {hs : List (Nat × Hint)} {φ : Phi} {a : Act} {w : World} {s sf : St} {os : List Prop} {Q : Exit → Act → World → Prop}
end
end Go.Ab
