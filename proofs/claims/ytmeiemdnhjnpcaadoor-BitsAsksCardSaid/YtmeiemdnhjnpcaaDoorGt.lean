/- What the package's read-only variables hold. -/
import Derived.Test.YtmeiemdnhjnpcaaDoorAb1
namespace Go.Ab
def gz_deBruijn32tab : List Int := [0, 1, 28, 2, 29, 14, 24, 3, 30, 22, 20, 15, 25, 17, 4, 8, 31, 27, 13, 23, 21, 19, 16, 7, 26, 12, 18, 6, 11, 5, 10, 9]
def gt_deBruijn32tab : List V := gz_deBruijn32tab.map fun n => .val (.int .u8 n)
def gz_deBruijn64tab : List Int := [0, 1, 56, 2, 57, 49, 28, 3, 61, 58, 42, 50, 38, 29, 17, 4, 62, 47, 59, 36, 45, 43, 51, 22, 53, 39, 33, 30, 24, 18, 12, 5, 63, 55, 48, 27, 60, 41, 37, 16, 46, 35, 44, 21, 52, 32, 23, 11, 54, 26, 40, 15, 34, 20, 31, 10, 25, 14, 19, 9, 13, 8, 7, 6]
def gt_deBruijn64tab : List V := gz_deBruijn64tab.map fun n => .val (.int .u8 n)
def gz_uint64pow10 : List Int := [1, 10, 100, 1000, 10000, 100000, 1000000, 10000000, 100000000, 1000000000, 10000000000, 100000000000, 1000000000000, 10000000000000, 100000000000000, 1000000000000000, 10000000000000000, 100000000000000000, 1000000000000000000, 10000000000000000000]
def gt_uint64pow10 : List V := gz_uint64pow10.map fun n => .val (.int .u64 n)
def gTab : List (Nat × List V) := [(0, gt_deBruijn32tab), (3, gt_deBruijn64tab), (1, gt_uint64pow10)]
def GOk (I : Nat → Prop) (w : World) : Prop := ∀ g xs, lk gTab g = some xs → Rel I w Phi.emp (.vp xs) (.pointer (some ⟨g, 0, none⟩))
theorem GOk.mono {I I' : Nat → Prop} {w w' : World} (h : GOk I w) (im : ∀ b, I b → I' b ∧ w'.heap[b]? = w.heap[b]?) : GOk I' w' := fun g xs hl => (h g xs hl).mono im _ (fun _ _ _ h => by cases h) (fun _ h => by cases h)
end Go.Ab
