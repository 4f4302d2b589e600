/- What the package's read-only variables hold; of some, no more than their kind. -/
import Derived.Test.YtcekfepgdfcinaaGreatDoorAb1
namespace Go.Ab
/-- What is known of a variable that the reader does not read: that it holds a whole number, an error, just these numbers. -/
inductive GK where
  | int (k : IntKind)
  | ifc
  | tab (k : IntKind) (zs : List Int)
def gkAt (w : World) (g : Nat) : GK → Prop
  | .int k => ∃ m, w.cell? ⟨g, 0, none⟩ = some (.int k m)
  | .ifc => ∃ t p, w.cell? ⟨g, 0, none⟩ = some (.iface t p)
  | .tab k zs => ∃ t f, w.heap[g]? = some (.cells (zs.map fun z => Value.int k z).toArray t f)
theorem gkAt_mono {w w' : World} {g : Nat} {k : GK} (h : gkAt w g k) (hh : w'.heap[g]? = w.heap[g]?) : gkAt w' g k := by
  have hc : w'.cell? ⟨g, 0, none⟩ = w.cell? ⟨g, 0, none⟩ := cell_of_heap hh
  cases k with
  | int k =>
    obtain ⟨m, h⟩ := h
    exact ⟨m, hc.trans h⟩
  | ifc =>
    obtain ⟨t, p, h⟩ := h
    exact ⟨t, p, hc.trans h⟩
  | tab k zs =>
    obtain ⟨t, f, h⟩ := h
    exact ⟨t, f, hh.trans h⟩
def gz_deBruijn32tab : List Int := [0, 1, 28, 2, 29, 14, 24, 3, 30, 22, 20, 15, 25, 17, 4, 8, 31, 27, 13, 23, 21, 19, 16, 7, 26, 12, 18, 6, 11, 5, 10, 9]
def gt_deBruijn32tab : List V := gz_deBruijn32tab.map fun n => .val (.int .u8 n)
def gTab : List (Nat × List V) := [(0, gt_deBruijn32tab)]
def gKin : List (Nat × GK) := []
def GOk (I : Nat → Prop) (w : World) : Prop := (∀ g xs, lk gTab g = some xs → Rel I w Phi.emp (.vp xs) (.pointer (some ⟨g, 0, none⟩))) ∧
  ∀ g k, lk gKin g = some k → I g ∧ gkAt w g k
theorem GOk.mono {I I' : Nat → Prop} {w w' : World} (h : GOk I w) (im : ∀ b, I b → I' b ∧ w'.heap[b]? = w.heap[b]?) : GOk I' w' := ⟨fun g xs hl => (h.1 g xs hl).mono im _ (fun _ _ _ h => by cases h) (fun _ h => by cases h),
  fun g k hl => by
    obtain ⟨h1, h2⟩ := h.2 g k hl
    exact ⟨(im g h1).1, gkAt_mono h2 (im g h1).2⟩⟩
end Go.Ab
