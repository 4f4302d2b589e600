/- What the package's read-only variables hold. -/
import Derived.Test.YtlfjnkobnkfioaaAb1
namespace Go.Ab
def gTab : List (Nat × List V) := []
def GOk (I : Nat → Prop) (w : World) : Prop := ∀ g xs, lk gTab g = some xs → Rel I w Phi.emp (.vp xs) (.pointer (some ⟨g, 0, none⟩))
theorem GOk.mono {I I' : Nat → Prop} {w w' : World} (h : GOk I w) (im : ∀ b, I b → I' b ∧ w'.heap[b]? = w.heap[b]?) : GOk I' w' := fun g xs hl => (h g xs hl).mono im _ (fun _ _ _ h => by cases h) (fun _ h => by cases h)
end Go.Ab
