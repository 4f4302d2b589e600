/- A region's step whose state behind it is not written out: it is what the reader reckons. -/
import Derived.Test.YtcekfepgdfcinaaGreatDoorAb24
set_option linter.unusedSimpArgs false
set_option linter.unusedVariables false
namespace Go.Ab
open Go.RowKit
def nxOf (r : Option (List Prop × St)) (s : St) : St := match r with
  | some (_, s') => s'
  | none => s
def osOf (r : Option (List Prop × St)) : Option (List Prop) := match r with
  | some (os, _) => some os
  | none => none
theorem nxOf_some {r : Option (List Prop × St)} {s : St} {os : List Prop} (h : osOf r = some os) : r = some (os, nxOf r s) := by
  unfold osOf at h
  split at h
  · cases h
    rfl
  · cases h
theorem AWP.regionN {C : Cx} {s : St} {y : Code} {K : Exit → St → Prop} {os : List Prop} (hT : TCok C.P C.tc) (hm : C.P.follows .mixedOrders = true) {id : Nat} {ops : List Oper} {draw : Bool} (hs : List (Nat × Hint)) (l : List Tmp) (ids : List Nat)
    (hr : osOf (regK C ops draw hs l ids s) = some os) (ho : AllP os) (hk : AWP C y (nxOf (regK C ops draw hs l ids s) s) K) : AWP C (.region id ops.toArray draw) s (thenK C y K) :=
  AWP.regionT hT hm hs l ids (nxOf_some hr) ho hk
theorem AWP.condF {C : Cx} {o : Operand} {x y : Code} {s : St} {K : Exit → St → Prop} (h : rdA s.tm [] o = some (vb false)) (hk : AWP C y s K) : AWP C (.cond o x y) s K :=
  AWP.cond h (fun h => by cases h) (fun _ => hk)
theorem AWP.condT {C : Cx} {o : Operand} {x y : Code} {s : St} {K : Exit → St → Prop} (h : rdA s.tm [] o = some (vb true)) (hk : AWP C x s K) : AWP C (.cond o x y) s K :=
  AWP.cond h (fun _ => hk) (fun h => by cases h)
theorem AllP.c {p : Prop} {l : List Prop} (h : p) (k : AllP l) : AllP (p :: l) := ⟨h, k⟩
theorem AllP.n : AllP [] := trivial
end Go.Ab
