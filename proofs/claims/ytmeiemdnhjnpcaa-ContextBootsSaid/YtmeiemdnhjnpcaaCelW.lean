/- Small contracts in the form that walks ask for. -/
import Derived.Test.YtmeiemdnhjnpcaaCelP
namespace Go.Proofs.Ytmeiemdnhjnpcaa
open Go.Ab
set_option linter.unusedSimpArgs false
set_option linter.unusedVariables false
theorem con_samen (l k : List Int) (n m : Nat) (hn : l.length = n) (hm : k.length = m) (hl : n ≤ 9223372036854775807) (hk : m ≤ 9223372036854775807) : Con Try.prog 23 [] [.vs (u8s l) n, .vs (u8s k) m] [] (vb (decide (l = k))) := by
  subst hn hm
  exact con_same l k hl hk
end Go.Proofs.Ytmeiemdnhjnpcaa
