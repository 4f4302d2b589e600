/- Steps of this seat's program, in short. -/
import Derived.Test.YtcekfepgdfcinaaGreatDoorTc
import Derived.Test.YtcekfepgdfcinaaGreatDoorAb28
namespace Go.Proofs.YtcekfepgdfcinaaGreatDoor
open Go.Ab
section
variable {n : Nat} {s : St} {y : Code} {K : Exit → St → Prop} {os : List Prop} {id : Nat} {ops : List Oper} {draw : Bool}
theorem g0 (l : List Tmp) (ids : List Nat) (hr : osOf (regK ⟨Tryz.prog, tc, n⟩ ops draw [] l ids s) = some []) (hk : AWP ⟨Tryz.prog, tc, n⟩ y (nxOf (regK ⟨Tryz.prog, tc, n⟩ ops draw [] l ids s) s) K) : AWP ⟨Tryz.prog, tc, n⟩ (.region id ops.toArray draw) s (thenK ⟨Tryz.prog, tc, n⟩ y K) :=
  AWP.regionN tcok hmix [] l ids hr trivial hk
theorem e0 (l : List Tmp) (ids : List Nat) (hr : osOf (regK ⟨Tryz.prog, tc, n⟩ ops draw [] l ids s) = some []) (hk : AWP ⟨Tryz.prog, tc, n⟩ y (nxOf (regK ⟨Tryz.prog, tc, n⟩ ops draw [] l ids s) s) K) : AWP ⟨Tryz.prog, tc, n⟩ (.seq (.region id ops.toArray draw) y) s K :=
  AWP.seq (g0 l ids hr hk)
theorem g1 (hs : List (Nat × Hint)) (l : List Tmp) (ids : List Nat) (hr : osOf (regK ⟨Tryz.prog, tc, n⟩ ops draw hs l ids s) = some os) (ho : AllP os) (hk : AWP ⟨Tryz.prog, tc, n⟩ y (nxOf (regK ⟨Tryz.prog, tc, n⟩ ops draw hs l ids s) s) K) : AWP ⟨Tryz.prog, tc, n⟩ (.region id ops.toArray draw) s (thenK ⟨Tryz.prog, tc, n⟩ y K) :=
  AWP.regionN tcok hmix hs l ids hr ho hk
theorem e1 (hs : List (Nat × Hint)) (l : List Tmp) (ids : List Nat) (hr : osOf (regK ⟨Tryz.prog, tc, n⟩ ops draw hs l ids s) = some os) (ho : AllP os) (hk : AWP ⟨Tryz.prog, tc, n⟩ y (nxOf (regK ⟨Tryz.prog, tc, n⟩ ops draw hs l ids s) s) K) : AWP ⟨Tryz.prog, tc, n⟩ (.seq (.region id ops.toArray draw) y) s K :=
  AWP.seq (g1 hs l ids hr ho hk)
theorem xg0 (l : List Tmp) (ids : List Nat) (hr : osOf (regK ⟨Tryz.prog, tc, n⟩ ops draw [] l ids s) = some []) (hk : AWP ⟨Tryz.prog, tc, n⟩ y (nxOf (regK ⟨Tryz.prog, tc, n⟩ ops draw [] l ids s) s) K) : AWP ⟨Tryz.prog, tc, n⟩ (.region id ops.toArray draw) s (thenK ⟨Tryz.prog, tc, n⟩ y K) :=
  AWP.regionN tcok hmix [] l ids hr trivial hk
theorem xe0 (l : List Tmp) (ids : List Nat) (hr : osOf (regK ⟨Tryz.prog, tc, n⟩ ops draw [] l ids s) = some []) (hk : AWP ⟨Tryz.prog, tc, n⟩ y (nxOf (regK ⟨Tryz.prog, tc, n⟩ ops draw [] l ids s) s) K) : AWP ⟨Tryz.prog, tc, n⟩ (.seq (.region id ops.toArray draw) y) s K :=
  AWP.seq (xg0 l ids hr hk)
theorem xg1 (hs : List (Nat × Hint)) (l : List Tmp) (ids : List Nat) (hr : osOf (regK ⟨Tryz.prog, tc, n⟩ ops draw hs l ids s) = some os) (ho : AllP os) (hk : AWP ⟨Tryz.prog, tc, n⟩ y (nxOf (regK ⟨Tryz.prog, tc, n⟩ ops draw hs l ids s) s) K) : AWP ⟨Tryz.prog, tc, n⟩ (.region id ops.toArray draw) s (thenK ⟨Tryz.prog, tc, n⟩ y K) :=
  AWP.regionN tcok hmix hs l ids hr ho hk
theorem xe1 (hs : List (Nat × Hint)) (l : List Tmp) (ids : List Nat) (hr : osOf (regK ⟨Tryz.prog, tc, n⟩ ops draw hs l ids s) = some os) (ho : AllP os) (hk : AWP ⟨Tryz.prog, tc, n⟩ y (nxOf (regK ⟨Tryz.prog, tc, n⟩ ops draw hs l ids s) s) K) : AWP ⟨Tryz.prog, tc, n⟩ (.seq (.region id ops.toArray draw) y) s K :=
  AWP.seq (xg1 hs l ids hr ho hk)
end
end Go.Proofs.YtcekfepgdfcinaaGreatDoor
