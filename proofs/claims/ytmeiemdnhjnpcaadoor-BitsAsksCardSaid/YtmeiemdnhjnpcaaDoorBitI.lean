/- Sets of units: the walk over a set's units. -/
import Derived.Test.YtmeiemdnhjnpcaaDoorBitB
import Derived.Test.YtmeiemdnhjnpcaaDoorAb29
import Derived.RangeFuncBox
import Derived.RangeFuncLeaves
import Derived.RangeFuncNested
import Derived.Shelf.Abstract
import Derived.OwnWalkIn
import Derived.TacticsInMore
import Derived.LoopNIn
import Derived.LoopIn
import Derived.Maps.AppendAt
namespace Go.Proofs.YtmeiemdnhjnpcaaDoor
open Go Go.Ab Go.RowKit Go.Shelf
set_option linter.unusedSimpArgs false
set_option linter.unusedVariables false
attribute [local go_sem] Oper.semAt_some
theorem grown_of_below {w w' : World} (h : Below w.heap.size w w') : w.grownBy w' none := ⟨h.os, h.tape, h.output, h.size, fun k hk _ => h.block k hk⟩
theorem gok_below {w w' : World} (hg : GOk (OldB w) w) (h : Below w.heap.size w w') : GOk (OldB w') w' := hg.mono fun b hb => ⟨Nat.lt_of_lt_of_le hb h.size, h.block b hb⟩
theorem next_calls (s i : Int) (hs : 0 ≤ s ∧ s < 65536) (w : World) (hg : GOk (OldB w) w) :
    Calls Tryd.prog 16 #[.int .u16 s, .int .i64 i] w fun e w' => e = .returned (.int .i64 (nxt s i.toNat)) ∧ Below w.heap.size w w' :=
  (con_next s i hs).calls (us := [.int .u16 s, .int .i64 i]) (.cons (.val rfl) (.cons (.val rfl) .nil)) hg
theorem first_calls (s : Int) (hs : 0 ≤ s ∧ s < 65536) (w : World) (hg : GOk (OldB w) w) :
    Calls Tryd.prog 17 #[.int .u16 s] w fun e w' => e = .returned (.int .i64 (nxt s 0)) ∧ Below w.heap.size w w' :=
  (con_first s hs).calls (us := [.int .u16 s]) (.cons (.val rfl) .nil) hg
def upsF (s : Int) (n : Nat) : List (Fin 16) := (ups s n).filterMap fun k => if h : k < 16 then some ⟨k, h⟩ else none
theorem upsF_nil {s : Int} {n : Nat} (h : ups s n = []) : upsF s n = [] := by unfold upsF; rw [h]; rfl
theorem upsF_cons {s : Int} {n k : Nat} {r : List Nat} (h : ups s n = k :: r) (hk : k < 16) : upsF s n = ⟨k, hk⟩ :: upsF s (k + 1) := by
  unfold upsF
  rw [h, List.filterMap_cons, (ups_cons h).2.1, dif_pos hk]
theorem upsF_val (s : Int) : ∀ d n : Nat, n + d = 16 → (upsF s n).map (·.val) = ups s n
  | 0, n, h => by rw [upsF_nil (ups_end (by omega)), ups_end (by omega)]; rfl
  | d + 1, n, h => by
    cases hb : bitB s n with
    | true =>
      have e := ups_in (by omega) hb
      rw [upsF_cons e (by omega), e, List.map_cons, upsF_val s d (n + 1) (by omega)]
    | false =>
      have e := ups_out (n := n) (by omega) hb
      have e2 : upsF s n = upsF s (n + 1) := by unfold upsF; rw [e]
      rw [e2, e, upsF_val s d (n + 1) (by omega)]
def bmeas : Value → Nat
  | .int _ n => if n < 0 then 0 else 17 - n.toNat
  | _ => 0
theorem bmeas_next (s : Int) (k : Nat) (hk : k < 16) : bmeas (.int .i64 (nxt s (k + 1))) < bmeas (.int .i64 (k : Int)) := by
  have e : bmeas (.int .i64 (k : Int)) = 17 - k := by simp [bmeas]; omega
  rw [e]
  unfold nxt
  rcases hu : ups s (k + 1) with _ | ⟨q, r⟩
  · simp [bmeas]; omega
  · have := ups_cons hu
    have e2 : bmeas (.int .i64 (q : Int)) = 17 - q := by simp [bmeas]; omega
    show bmeas (.int .i64 (q : Int)) < 17 - k
    rw [e2]
    omega
/-- What a round keeps: old memory, and the set's box. -/
def KpB (n₀ Bn : Nat) (A B : World) : Prop := Below n₀ A B ∧ B.heap[Bn]? = A.heap[Bn]?
theorem kpB_t {n₀ Bn : Nat} {A B C : World} (h : KpB n₀ Bn A B) (k : KpB n₀ Bn B C) : KpB n₀ Bn A C := ⟨h.1.trans k.1, k.2.trans h.2⟩
theorem kpB_b {n₀ Bn : Nat} {w : World} (hn : n₀ ≤ w.heap.size) (hB : Bn < w.heap.size) (W : World) (l : Nat) (o o' : Obj) (hl : w.heap.size ≤ l) (h : W.heap[l]? = some o) (h1 : o.isCells = false) (h2 : o.isWalk = false) : KpB n₀ Bn W (W.putObj l o') :=
  ⟨belowK_b hn W l o o' hl h h1 h2, World.putObj_heap_other (by omega)⟩
theorem boxed_own' (B : Nat) (t : TypeId) (v : Value) : Own (fun (_ : List (Fin 16)) W => Boxed W B t v) := by
  intro s X Y row hv hg hrow
  refine hv.kept hg (fun e' => ?_)
  obtain ⟨o, ho, hc⟩ := hrow B e'.symm
  rw [show X.heap[B]? = _ from hv] at ho; cases ho; cases hc
set_option maxRecDepth 100000 in
set_option maxHeartbeats 4000000 in
theorem all1_in (n : Nat) (hn : 1 ≤ n) (l Bn : Nat) (s : Int) (hs : 0 ≤ s ∧ s < 65536) (w0 : World) (hG : GOk (OldB w0) w0) (J Jx : List (Fin 16) → World → Prop) (W : World) (hJ : AbidesFrom W.heap.size J)
    (hY : ∀ pre x W1, J pre W1 → pre.length < (upsF s 0).length → YieldAt Fence.wide (n - 1) Tryd.prog l #[.int .i64 (x.val : Nat)] W1 fun e W' =>
      (e = .returned (.bool true) ∧ J (pre ++ [x]) W' ∧ KpB w0.heap.size Bn W1 W') ∨ (e = .returned (.bool false) ∧ Jx (pre ++ [x]) W'))
    (hB : Below w0.heap.size w0 W) (hBx : Boxed W Bn 23 (.int .u16 s)) (h0 : J [] W) :
    CallsIn Fence.wide n Tryd.prog 33 #[.func (.yield l) #[] #[], .pointer (some ⟨Bn, 0, none⟩)] W fun e W' => (∃ v, e = .returned v) ∧
      ((∃ ys, ys = upsF s 0 ∧ J ys W') ∨ (∃ pre, pre <+: upsF s 0 ∧ Jx pre W')) := by
  refine callsIn_of_wp Tryd.func33 rfl trivial ?_ rfl
  simp only [Tryd.ntmps33, List.size_toArray, List.length_cons, List.length_nil, Nat.reduceAdd, Nat.reduceSub, Array.replicate_succ, Array.replicate_zero, List.push_toArray, List.append_toArray, List.nil_append, List.cons_append]
  have hc := hBx.cell
  have hGW : GOk (OldB W) W := gok_below hG hB
  gi_wp2_with (refine ⟨trivial, ?_⟩; gi_at_call 17; refine (callsIn_wide.2 (first_calls s hs _ hGW)).mono ?_; rintro e w1 ⟨rfl, hw1⟩)
  have hB1 : Below w0.heap.size w0 w1 := hB.trans (hw1.mono hB.size)
  have hBx1 : Boxed w1 Bn 23 (.int .u16 s) := hBx.kept (grown_of_below hw1) (by simp)
  have hJ1 : J [] w1 := hJ _ _ _ _ h0 (grown_of_below hw1) (fun r e => by cases e)
  gi_loopw [3] (fun p wr => ∃ (pre : List (Fin 16)) (a : Nat), p = .int .i64 (nxt s a) ∧ pre ++ upsF s a = upsF s 0 ∧ J pre wr ∧ Boxed wr Bn 23 (.int .u16 s) ∧ Below w0.heap.size w0 wr ∧ W.heap.size ≤ wr.heap.size)
    (fun p wr => bmeas p)
  case atStart =>
    exact ⟨[], 0, rfl, rfl, hJ1, hBx1, hB1, hw1.size⟩
  case round =>
    obtain ⟨pre, a, rfl, hx, hJs, hBr, hBl, hsz⟩ := hrel
    rcases hu : ups s a with _ | ⟨k, rest⟩
    · have hk : nxt s a = -1 := by unfold nxt; rw [hu]
      rw [hk]
      gi_wp2
      go_end0
      exact ⟨⟨_, rfl⟩, .inl ⟨pre, by rw [upsF_nil hu] at hx; simpa using hx, hJs⟩⟩
    · have hk : nxt s a = (k : Int) := by unfold nxt; rw [hu]
      obtain ⟨hk16, hrest, hak⟩ := ups_cons hu
      have huF := upsF_cons hu hk16
      rw [hk]
      have hne : ¬ ((k : Int) = -1) := by omega
      obtain ⟨fn, tmps, assign, body, hy, hR⟩ := hY pre ⟨k, hk16⟩ wr hJs (by rw [← hx, huF]; simp)
      dsimp only at hy
      gi_wp2
      refine hR.mono ?_
      rintro e W3 (⟨rfl, hJ3, hk3⟩ | ⟨rfl, hJx3⟩)
      · have hB3 : Boxed W3 Bn 23 (.int .u16 s) := hk3.2.trans hBr
        have hc3 := hB3.cell
        have hBl3 : Below w0.heap.size w0 W3 := hBl.trans hk3.1
        have hG3 : GOk (OldB W3) W3 := gok_below hG hBl3
        gi_wp2_with (refine ⟨trivial, ?_⟩; gi_at_call 16; refine (callsIn_wide.2 (next_calls s (k + 1) hs _ hG3)).mono ?_; rintro e w4 ⟨rfl, hw4⟩)
        go_roundw
        case rel => exact ⟨pre ++ [⟨k, hk16⟩], k + 1, rfl, by rw [← hx, huF]; simp, hJ _ _ _ _ hJ3 (grown_of_below hw4) (fun r e => by cases e), hB3.kept (grown_of_below hw4) (by simp), hBl3.trans (hw4.mono hBl3.size), by have := hw4.size; have := hk3.1.size; omega⟩
        case measure => exact bmeas_next s k hk16
      · gi_wp2
        refine bodyPost_ret (results_none rfl _ _ _) rfl ?_
        exact ⟨⟨_, rfl⟩, .inr ⟨pre ++ [⟨k, hk16⟩], ⟨upsF s (k + 1), by rw [← hx, huF]; simp⟩, hJx3⟩⟩
set_option maxHeartbeats 1000000 in
theorem all_in (n : Nat) (s : Int) (w : World) :
    CallsIn Fence.wide n Tryd.prog 29 #[.int .u16 s] w fun e w' => e = .returned (.func (.func 33) #[] #[.pointer (some ⟨w.heap.size, 0, none⟩)]) ∧ w' = w.alloc (.cells #[.int .u16 s] 23) := by
  refine callsIn_of_wp Tryd.func29 rfl trivial ?_ rfl
  simp only [Tryd.ntmps29, List.size_toArray, List.length_cons, List.length_nil, Nat.reduceAdd, Nat.reduceSub, Array.replicate_succ, Array.replicate_zero, List.push_toArray, List.append_toArray, List.nil_append, List.cons_append]
  gi_wp2
  go_ret
  exact ⟨rfl, rfl⟩
theorem all_stops (n : Nat) (hn : 1 ≤ n) (Bn : Nat) (s : Int) (hs : 0 ≤ s ∧ s < 65536) (w0 w : World) (hG : GOk (OldB w0) w0) (hB : Below w0.heap.size w0 w) (hBx : Boxed w Bn 23 (.int .u16 s)) :
    SeqStopsK Fence.wide n Tryd.prog 33 #[.pointer (some ⟨Bn, 0, none⟩)] (fun x : Fin 16 => #[Value.int .i64 (x.val : Nat)]) (KpB w0.heap.size Bn) (fun ys => ys = upsF s 0) (fun pre => pre <+: upsF s 0) (upsF s 0).length w := fun l J Jx W hW hJ _ hY h0 =>
  all1_in n hn l Bn s hs w0 hG J Jx W hJ hY (hB.trans (hW.mono hB.size)) (hBx.kept (grown_of_below hW) (by simp)) h0
end Go.Proofs.YtmeiemdnhjnpcaaDoor
