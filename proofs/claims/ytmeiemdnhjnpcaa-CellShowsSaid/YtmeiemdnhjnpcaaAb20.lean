/- Numbers that need not wrap; what a region's end is asked. -/
import Derived.Test.YtmeiemdnhjnpcaaAb19
import Derived.IntWalk
set_option linter.unusedSimpArgs false
set_option linter.unusedVariables false
namespace Go.Ab
open Go.RowKit
section
variable {e : Int}
theorem wr_u8 (h0 : 0 ≤ e) (h1 : e < 256) : V.val (.int .u8 (IntKind.wrap .u8 e)) = V.val (.int .u8 e) := by rw [IntWalk.u8_in e ⟨h0, by omega⟩]
theorem wr_u16 (h0 : 0 ≤ e) (h1 : e < 65536) : V.val (.int .u16 (IntKind.wrap .u16 e)) = V.val (.int .u16 e) := by rw [IntWalk.u16_in e ⟨h0, by omega⟩]
theorem wr_u32 (h0 : 0 ≤ e) (h1 : e < 4294967296) : V.val (.int .u32 (IntKind.wrap .u32 e)) = V.val (.int .u32 e) := by rw [IntWalk.u32_in e ⟨h0, by omega⟩]
theorem wr_u64 (h0 : 0 ≤ e) (h1 : e < 18446744073709551616) : V.val (.int .u64 (IntKind.wrap .u64 e)) = V.val (.int .u64 e) := by rw [IntWalk.u64_in e ⟨h0, by omega⟩]
theorem wr_i8 (h0 : -128 ≤ e) (h1 : e < 128) : V.val (.int .i8 (IntKind.wrap .i8 e)) = V.val (.int .i8 e) := by rw [IntWalk.i8_in e ⟨h0, by omega⟩]
theorem wr_i16 (h0 : -32768 ≤ e) (h1 : e < 32768) : V.val (.int .i16 (IntKind.wrap .i16 e)) = V.val (.int .i16 e) := by rw [IntWalk.i16_in e ⟨h0, by omega⟩]
theorem wr_i32 (h0 : -2147483648 ≤ e) (h1 : e < 2147483648) : V.val (.int .i32 (IntKind.wrap .i32 e)) = V.val (.int .i32 e) := by rw [IntWalk.i32_in e ⟨h0, by omega⟩]
theorem wr_i64 (h0 : -9223372036854775808 ≤ e) (h1 : e < 9223372036854775808) : V.val (.int .i64 (IntKind.wrap .i64 e)) = V.val (.int .i64 e) := by rw [IntWalk.i64_in e ⟨h0, by omega⟩]
theorem wr_eq {k : IntKind} {n n' : Int} (h : e = n) (h' : IntKind.wrap k n = n') : V.val (.int k (IntKind.wrap k e)) = V.val (.int k n') := by rw [h, h']
theorem in_eq {k : IntKind} {n : Int} (h : e = n) : V.val (.int k e) = V.val (.int k n) := by rw [h]
end
/-- A loop of so many rounds at most, round by round. -/
def Unr (C : Cx) (c : Code) (K : Exit → St → Prop) : Nat → St → Prop
  | 0, _ => False
  | n + 1, s => AWP C c s (fun e s' => match e with | .normal => Unr C c K n s' | e => K e s')
theorem AWP.unroll {C : Cx} {c : Code} {s : St} {K : Exit → St → Prop} (n : Nat) (h : Unr C c K n s) : AWP C (.loop c) s K := by
  refine AWP.loop (fun n s => Unr C c K n s) n h (fun n s hs => ?_)
  cases n with
  | zero => exact hs.elim
  | succ n =>
    refine AWP.mono (show AWP C c s _ from hs) (fun e s' he => ?_)
    cases e <;> first | exact ⟨n, by omega, he⟩ | exact he
/-- A region, and what is kept behind it. -/
def regK (C : Cx) (ops : List Oper) (draw : Bool) (hs : List (Nat × Hint)) (l : List Tmp) (ids : List Nat) (s : St) : Option (List Prop × St) :=
  match runR C ops draw hs s with
  | some (os, sf) => (match keepS l ids sf with | some s' => some (os, s') | none => none)
  | none => none
theorem AWP.regionT {C : Cx} {s s' : St} {y : Code} {K : Exit → St → Prop} {os : List Prop} (hT : TCok C.P C.tc) (hm : C.P.follows .mixedOrders = true) {id : Nat} {ops : List Oper} {draw : Bool} (hs : List (Nat × Hint)) (l : List Tmp) (ids : List Nat)
    (hr : regK C ops draw hs l ids s = some (os, s')) (ho : AllP os) (hk : AWP C y s' K) : AWP C (.region id ops.toArray draw) s (thenK C y K) := by
  unfold regK at hr
  split at hr
  · rename_i os1 sf h1
    split at hr
    · rename_i s1 h2
      cases hr
      exact AWP.region hT hm hs h1 ho (AWP.keep' l ids h2 hk)
    · cases hr
  · cases hr
def regKP (C : Cx) (ops : List Oper) (π σ : List Nat) (hs : List (Nat × Hint)) (l : List Tmp) (ids : List Nat) (s : St) : Option (List Prop × St) :=
  regK C (permOps π σ ops) true hs l ids s
theorem AWP.regionTP {C : Cx} {s s' : St} {y : Code} {K : Exit → St → Prop} {os : List Prop} (hT : TCok C.P C.tc) (hm : C.P.follows .mixedOrders = true) {id : Nat} {ops : List Oper} (π σ : List Nat) (hp : permOk π σ ops = true) (hs : List (Nat × Hint)) (l : List Tmp) (ids : List Nat)
    (hr : regKP C ops π σ hs l ids s = some (os, s')) (ho : AllP os) (hk : AWP C y s' K) : AWP C (.region id ops.toArray true) s (thenK C y K) := by
  unfold regKP regK at hr
  split at hr
  · rename_i os1 sf h1
    split at hr
    · rename_i s1 h2
      cases hr
      exact AWP.regionP hT hm π σ hp hs h1 ho (AWP.keep' l ids h2 hk)
    · cases hr
  · cases hr
/-- What a round leaves: so much is kept, and it holds again, with less to go. -/
def Nxt (l : List Tmp) (ids : List Nat) (I : Nat → St → Prop) (n : Nat) (s : St) : Prop := ∃ s', keepS l ids s = some s' ∧ ∃ m, m < n ∧ I m s'
def loopK (l : List Tmp) (ids : List Nat) (I : Nat → St → Prop) (n : Nat) (K : Exit → St → Prop) : Exit → St → Prop
  | .normal, s => Nxt l ids I n s
  | e, s => K e s
theorem AWP.loopI {C : Cx} {c : Code} {s s0 : St} {K : Exit → St → Prop} (l : List Tmp) (ids : List Nat) (I : Nat → St → Prop) (n : Nat) (hk : keepS l ids s = some s0) (h : I n s0)
    (hs : ∀ n s, I n s → AWP C c s (loopK l ids I n K)) : AWP C (.loop c) s K := by
  refine AWP.loop (fun n s => ∃ s', keepS l ids s = some s' ∧ I n s') n ⟨s0, hk, h⟩ (fun n s ⟨s', h1, h2⟩ => ?_)
  refine AWP.mono (AWP.keep' l ids h1 (hs n s' h2)) (fun e s' he => ?_)
  cases e with
  | normal =>
    obtain ⟨s2, k1, m, hm, k2⟩ := (he : Nxt l ids I n s')
    exact ⟨m, hm, s2, k1, k2⟩
  | exit j => exact he
  | goto j => exact he
  | ret => exact he
  | panic c => exact he
  | outgrown => exact he
end Go.Ab
