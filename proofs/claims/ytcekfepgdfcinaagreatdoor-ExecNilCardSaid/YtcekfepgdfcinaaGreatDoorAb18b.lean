/- A drawn region, its operations read in another order. -/
import Derived.Test.YtcekfepgdfcinaaGreatDoorAb15d
import Derived.OrdersIn
import Derived.RangeFuncLeaves
import Derived.RangeFuncNested
set_option linter.unusedSimpArgs false
set_option linter.unusedVariables false
namespace Go.Ab
open Go.RowKit

/-! What another block holds of a place that moves is let go. -/
def killV (ok : Nat → Bool) (x : V) : V := match inIds ok x with | true => x | false => .top
def killB (ok : Nat → Bool) (b : Blk) : Blk := if b.flat then b else { b with cells := b.cells.map (killV ok) }
def killHo (skip ok : Nat → Bool) : List (Nat × Blk) → List (Nat × Blk)
  | [] => []
  | (j, b) :: r => (j, if skip j then b else killB ok b) :: killHo skip ok r
theorem lk_killHo {skip ok : Nat → Bool} : ∀ {H : List (Nat × Blk)} (j : Nat), lk (killHo skip ok H) j = (lk H j).map fun b => if skip j then b else killB ok b
  | [], j => rfl
  | (k, b) :: r, j => by
    simp only [killHo, lk, beq_iff_eq]
    split
    · rename_i e
      subst e
      rfl
    · exact lk_killHo j
theorem BlkRel.kill {I : Nat → Prop} {w : World} {φ : Phi} {s : Slot} {b : Blk} (ok : Nat → Bool) (h : BlkRel I w φ s b) : BlkRel I w φ s (killB ok b) := by
  unfold killB
  split
  · exact h
  · refine h.imp (killV ok) b.flat (fun _ _ _ => rfl) (fun x _ u hu => ?_)
    unfold killV
    split
    · exact hu
    · exact .top
theorem Inv.kill {C : Cx} {G : Gl} {s : St} {φ : Phi} {a : Act} {w : World} (hI : Inv C G s φ a w) (skip ok : Nat → Bool) : Inv C G ⟨s.tm, killHo skip ok s.H⟩ φ a w := by
  have hn : ∀ i, lk (killHo skip ok s.H) i = none ↔ lk s.H i = none := fun i => by rw [lk_killHo]; cases lk s.H i <;> simp
  refine ⟨hI.size, hI.defers, hI.tm, fun id blk hl => ?_, ⟨hI.ok.inj, hI.ok.lt, hI.ok.free, fun i hi => hI.ok.dom i ((hn i).1 hi)⟩, hI.x, hI.frm, hI.own, fun i hb h0 => ?_⟩
  · have hl : lk (killHo skip ok s.H) id = some blk := hl
    rw [lk_killHo, Option.map_eq_some_iff] at hl
    obtain ⟨b, hb, rfl⟩ := hl
    split
    · exact hI.hr id b hb
    · exact (hI.hr id b hb).kill ok
  · rcases hI.fix i hb h0 with h | h
    · exact .inl h
    · exact .inr ((hn i).2 h)
def prepA (vx : V) (H : List (Nat × Blk)) : List (Nat × Blk) := match vx with
  | .sl id _ _ => match restIn id H with
    | true => H
    | false => killHo (fun j => Nat.beq j id) (neId id) H
  | _ => H
theorem Inv.prepA {C : Cx} {G : Gl} {s : St} {φ : Phi} {a : Act} {w : World} (hI : Inv C G s φ a w) (vx : V) : Inv C G ⟨s.tm, Ab.prepA vx s.H⟩ φ a w := by
  unfold Ab.prepA
  split
  · split
    · exact hI
    · exact hI.kill _ _
  · exact hI
def prepO (ps : List (Nat × Nat)) (H : List (Nat × Blk)) : List (Nat × Blk) := match othersOk ps (movers H ps) H with
  | true => H
  | false => killHo (okP ps) (notIn (movers H ps)) H
theorem Inv.prepO {C : Cx} {G : Gl} {s : St} {φ : Phi} {a : Act} {w : World} (hI : Inv C G s φ a w) (ps : List (Nat × Nat)) : Inv C G ⟨s.tm, Ab.prepO ps s.H⟩ φ a w := by
  unfold Ab.prepO
  split
  · exact hI
  · exact hI.kill _ _
/-- What is called: a function, what is bound to it, what it captures. -/
def evClo : V → Option (FuncId × List V × List V)
  | .val (.func (.func f) ⟨[]⟩ ⟨[]⟩) => some (f, [], [])
  | .clo (.func f) fs cap => some (f, fs, cap)
  | _ => none
theorem Rels.append {I : Nat → Prop} {w : World} {φ : Phi} : ∀ {xs ys : List V} {us vs : List Value}, Rels I w φ xs us → Rels I w φ ys vs → Rels I w φ (xs ++ ys) (us ++ vs)
  | _, _, _, _, .nil, h => h
  | _, _, _, _, .cons h1 h2, h => .cons h1 (h2.append h)
theorem rels_of {I : Nat → Prop} {w : World} {φ : Phi} : ∀ {xs : List V} {us : List Value}, us.length = xs.length → (∀ i (h : i < xs.length), Rel I w φ xs[i] (us.getD i undef)) → Rels I w φ xs us
  | [], [], _, _ => .nil
  | [], _ :: _, h, _ => by simp at h
  | _ :: _, [], h, _ => by simp at h
  | x :: xs, u :: us, h, hr => .cons (hr 0 (Nat.succ_pos _)) (rels_of (by simpa using h) (fun i hi => hr (i + 1) (Nat.succ_lt_succ hi)))
theorem evClo_ok {I : Nat → Prop} {w : World} {φ : Phi} {g : V} {f : FuncId} {fs cap : List V} {u : Value} (h : evClo g = some (f, fs, cap)) (hr : Rel I w φ g u) : ∃ us vs : Array Value, u = .func (.func f) us vs ∧ Rels I w φ fs us.toList ∧ Rels I w φ cap vs.toList := by
  unfold evClo at h
  split at h
  · cases h
    exact ⟨#[], #[], hr.val_inv, .nil, .nil⟩
  · cases h
    cases hr with
    | clo h1 h2 h3 h4 => exact ⟨_, _, rfl, rels_of (by simpa using h1) h2, rels_of (by simpa using h3) h4⟩
  · cases h
/-- An operation that writes. -/
def stepB0 (C : Cx) (hs : List (Nat × Hint)) (i : Nat) (s : St) (o : Oper) : Option (List Prop × St) :=
  match o.guard, o.dst, o.op with
  | none, none, .store t x y => match rdA s.tm [] x, rdA s.tm [] y with
    | some vx, some vy => match evStoreA C.tc s.H (symOf hs i) t vx vy with
      | some (os, H') => some (os, ⟨s.tm, H'⟩)
      | none => none
    | _, _ => none
  | none, dst, .call { callee := .builtin .append, args := xs, argTypes := ts } => match xs.toList, ts.toList with
    | [x, y], [tx, ty] => match rdA s.tm [] x, rdA s.tm [] y with
      | some vx, some vy => match evAppend C.tc (prepA vx s.H) (symOf hs i) tx ty vx vy with
        | some (os, id, m, blk) => match restIn id (prepA vx s.H) && blkIn (neId id) blk with
          | true => match put1 C.n dst (.plain (.sl id 0 m)) [] ⟨killT id s.tm, ins id blk (prepA vx s.H)⟩ with
            | some s' => some (os, s')
            | none => none
          | false => none
        | none => none
      | _, _ => none
    | _, _ => none
  | none, dst, .call { callee := .builtin .copy, args := xs, argTypes := ts } => match xs.toList, ts.toList with
    | [x, y], [tx, ty] => match rdA s.tm [] x, rdA s.tm [] y with
      | some vx, some vy => match evCopy C.tc s.H (symOf hs i) tx ty vx vy with
        | some (os, H', k) => match put1 C.n dst (.plain (.val (goInt k))) [] ⟨s.tm, H'⟩ with
          | some s' => some (os, s')
          | none => none
        | none => none
      | _, _ => none
    | _, _ => none
  | none, none, .mapUpdate t x k y => match rdA s.tm [] x, rdA s.tm [] k, rdA s.tm [] y with
    | some vx, some vk, some vy => match evMapUpd C.tc s.H (symOf hs i) t vx vk vy with
      | some (os, H') => some (os, ⟨s.tm, H'⟩)
      | none => none
    | _, _, _ => none
  | none, none, .insert t x k y => match rdA s.tm [] x, rdA s.tm [] k, rdA s.tm [] y with
    | some vx, some vk, some vy => match evMapUpd C.tc s.H (symOf hs i) t vx vk vy with
      | some (os, H') => some (os, ⟨s.tm, H'⟩)
      | none => none
    | _, _, _ => none
  | none, dst, .call { callee := .builtin .delete, args := xs, argTypes := ts } => match xs.toList, ts[0]? with
    | [x, k], some t => match rdA s.tm [] x, rdA s.tm [] k with
      | some vx, some vk => match evMapDel C.tc s.H (symOf hs i) t vx vk with
        | some (os, H') => match put1 C.n dst (.plain .top) [] ⟨s.tm, H'⟩ with
          | some s' => some (os, s')
          | none => none
        | none => none
      | _, _ => none
    | _, _ => none
  | none, dst, .call { callee := .builtin .clear, args := xs, argTypes := ts } => match xs.toList, ts[0]? with
    | [x], some t => match rdA s.tm [] x with
      | some vx => match evClear C.tc s.H (symOf hs i) t vx with
        | some (os, H') => match put1 C.n dst (.plain .top) [] ⟨s.tm, H'⟩ with
          | some s' => some (os, s')
          | none => none
        | none => none
      | none => none
    | _, _ => none
  | none, dst, .convert t t' x => match Nat.beq t t', rdA s.tm [] x with
    | true, some (.sl id 0 n) => match evMark C.tc (prepA (.sl id 0 n) s.H) t id n with
      | some (os, blk) => match restIn id (prepA (.sl id 0 n) s.H) with
        | true => match put1 C.n dst (.plain (.vs blk.cells n)) [] ⟨killT id s.tm, ins id blk (prepA (.sl id 0 n) s.H)⟩ with
          | some s' => some (os, s')
          | none => none
        | false => none
      | none => none
    | _, _ => none
  | none, dst, .call { callee := .value y, args := xs, .. } => match crOf hs i, (rdA s.tm [] y).bind evClo, rds (rdA s.tm []) xs.toList with
    | some c, some (f, fs, cap), some vs => match evCallO C.P s.tm (prepO (pairsOf (symOf hs i)) s.H) (dst.getD 0) f (fs ++ (vs ++ cap)) (symOf hs i) c with
      | some (os, s2, v) => match put1 C.n dst (.plain v) [] s2 with
        | some s' => some (os, s')
        | none => none
      | none => none
    | _, _, _ => none
  | _, _, _ => none
/-- The test of a test. -/
def gdd (ops : List Oper) (j : Nat) : Option (Tmp × Bool) := match (ops[j]?).bind (·.guard) with
  | some (k, v) => (dstAt ops k).map fun d => (d, v)
  | none => none
/-- Is it wanted? -/
def gdOf (ops : List Oper) (s : St) (o : Oper) : Option Bool :=
  match o.guard with
  | none => some true
  | some (j, w) => match isSto o.op, dstAt ops j with
    | false, some d => match lk s.tm d with
      | some (.plain (.val (.bool b))) => some (b == w)
      | some (.gd d' w' x) => match gdd ops j with
        | some (d2, _) => match Nat.beq d2 d', lk s.tm d2 with
          | true, some (.plain (.val (.bool b'))) => match b' == w' with
            | true => match x with
              | .val (.bool b) => some (b == w)
              | _ => none
            | false => some false
          | _, _ => none
        | none => none
      | _ => none
    | _, _ => none
theorem gdd_rs {ops : List Oper} {o : Oper} {j : Nat} {w v : Bool} {d : Tmp} (hg : o.guard = some (j, w)) (hd : gdd ops j = some (d, v)) : d ∈ rs ops o := by
  unfold gdd at hd
  split at hd
  · rename_i k v' hk
    simp only [Option.map_eq_some_iff, Prod.mk.injEq] at hd
    obtain ⟨d1, h1, rfl, rfl⟩ := hd
    unfold rs
    refine List.mem_append.2 (.inr ?_)
    rw [hg]
    show d1 ∈ gch ops 20 j
    cases hj : ops[j]? with
    | none => rw [hj] at hk; cases hk
    | some q =>
      rw [hj] at hk
      have hk : q.guard = some (k, v') := hk
      unfold gch
      simp only [hj, hk]
      refine List.mem_append.2 (.inr ?_)
      unfold dstAt at h1
      cases hk2 : ops[k]? with
      | none => rw [hk2] at h1; cases h1
      | some r =>
        rw [hk2] at h1
        have h1 : r.dst = some d1 := h1
        unfold gch
        simp only [hk2, h1]
        simp
  · cases hd
theorem wanted_inv {ops : List Oper} {o : Oper} {a : Act} {j : Nat} {w : Bool} {d : Tmp} (h : Region.wanted o (yielded ops.toArray a.tmps) = true) (hg : o.guard = some (j, w)) (hd : dstAt ops j = some d) : a.tmps.getD d undef = .bool w := by
  unfold Region.wanted at h
  rw [hg] at h
  simp only at h
  have h : yielded ops.toArray a.tmps j = some w := by simpa using h
  unfold yielded at h
  unfold dstAt at hd
  have e1 : (ops.toArray[j]?).bind (·.dst) = some d := by simpa using hd
  rw [e1] at h
  simp only [Option.bind_some] at h
  cases hx : a.tmps[d]? with
  | none => rw [hx] at h; cases h
  | some u =>
    rw [hx] at h
    rw [Array.getD_eq_getD_getElem?, hx]
    cases u <;> simp_all
/-- What hangs on it, it being so. -/
def resT (d : Nat) (b : Bool) : List (Nat × T) → List (Nat × T)
  | [] => []
  | (t, .gd d' w x) :: r => (t, if Nat.beq d' d then (if w == b then .plain x else .plain .top) else .gd d' w x) :: resT d b r
  | (t, .plain x) :: r => (t, .plain x) :: resT d b r
def resG (ops : List Oper) (s : St) (o : Oper) : List (Nat × T) :=
  match o.guard with
  | none => s.tm
  | some (j, w) => match dstAt ops j with
    | some d => resT d w s.tm
    | none => s.tm
def stepB (C : Cx) (ops : List Oper) (hs : List (Nat × Hint)) (i : Nat) (s : St) (o : Oper) : Option (List Prop × St) :=
  match gdOf ops s o with
  | some true => stepB0 C hs i ⟨resG ops s o, s.H⟩ { o with guard := none }
  | some false => match put1 C.n o.dst (.plain .top) [] s with
    | some s' => some ([], s')
    | none => none
  | none => none
def runL (C : Cx) (ops : List Oper) (hs : List (Nat × Hint)) : Nat → St → List Oper → Option (List Prop × St)
  | _, s, [] => some ([], s)
  | i, s, o :: r => match isBar o.op with
    | true => match stepB C ops hs i s o with
      | some (o1, s') => match runL C ops hs (i + 1) s' r with
        | some (o2, sf) => some (o1 ++ o2, sf)
        | none => none
      | none => none
    | false => match stepD C ops hs i s o with
      | some (o1, _, s') => match runL C ops hs (i + 1) s' r with
        | some (o2, sf) => some (o1 ++ o2, sf)
        | none => none
      | none => none
def clSt (s : St) : St := ⟨clAll s.tm, s.H⟩
/-- What comes up late does not lead to what an append moves. -/
def lateApp (ops : List Oper) (i : Nat) (s : St) (o : Oper) : Bool :=
  match o.op with
  | .call { callee := .builtin .append, args := xs, .. } => match xs.toList with
    | [x, _] => match rdA s.tm [] x with
      | some (.sl id _ _) => restIn id s.H && ((List.range i).all fun k => match ops[k]? with
        | some p => !(floats ops k && !(ordered (befs ops) k i)) || ((p.dst.toList ++ rs ops p).all fun t => match lk s.tm t with
          | some (.plain v) => inIds (neId id) v
          | _ => true)
        | none => true)
      | _ => false
    | _ => false
  | _ => false
/-- What comes up late does not lead to what a call is lent. -/
def lateCal (ops : List Oper) (hs : List (Nat × Hint)) (i : Nat) (s : St) : Bool :=
  let ps := pairsOf (symOf hs i)
  (List.range i).all fun k => match ops[k]? with
    | some p => !(floats ops k && !(ordered (befs ops) k i)) || (((p.dst.toList ++ rs ops p).all fun t => match lk s.tm t with
      | some (.plain v) => inIds (notIn (movers s.H ps)) v
      | _ => true) && ((lateSl p).all fun t => match lk s.tm t with
      | some (.plain v) => (match leadTo v with
        | some j => !(okP ps j) && (match lk s.H j with | some b => blkIn (notIn (movers s.H ps)) b | none => true)
        | none => true)
      | _ => true))
    | none => true
/-- What is loaded late is not what is written here. -/
def lateOk (ops : List Oper) (hs : List (Nat × Hint)) (i : Nat) (s : St) (o : Oper) : Bool :=
  match isSto o.op with
  | false => !(lateAny ops i) || (match isApp o.op, isCal o.op with | true, _ => lateApp ops i s o | false, true => lateCal ops hs i s | false, false => false)
  | true => match lateLds ops i with
    | [] => true
    | ts => match o.op with
      | .store _ (.tmp q) _ => match lk s.tm q with
        | some (.plain (.ptr id _)) => ts.all fun t => match lk s.tm t with
          | some (.plain v) => match leadTo v with
            | some j => !(Nat.beq j id)
            | none => true
          | _ => false
        | _ => false
      | _ => false
def lateAll (C : Cx) (ops : List Oper) (hs : List (Nat × Hint)) : Nat → St → List Oper → Bool
  | _, _, [] => true
  | i, s, o :: r => match isBar o.op with
    | true => match lateOk ops hs i s o, stepB C ops hs i s o with
      | true, some (_, s') => lateAll C ops hs (i + 1) s' r
      | _, _ => false
    | false => match !(lateG ops i) || (resO hs i ops s.tm o).guard.isNone, stepD C ops hs i s o with
      | true, some (_, _, s') => lateAll C ops hs (i + 1) s' r
      | _, _ => false
def runR (C : Cx) (ops : List Oper) (draw : Bool) (hs : List (Nat × Hint)) (s : St) : Option (List Prop × St) :=
  match !draw || (drawOk ops && (noLate ops || lateAll C ops hs 0 (clSt s) ops)) with
  | true => runL C ops hs 0 (clSt s) ops
  | false => none

section
variable {C : Cx} {G : Gl} {ops : List Oper} {hs : List (Nat × Hint)} {φ φ' : Phi} {a : Act} {w w' : World} {s s' sf : St} {Q : Exit → Act → World → Prop} {K : Act → World → Prop} {os : List Prop}

theorem Inv.tm0 (hI : Inv C G s φ a w) : TmRel (Imm φ G.X w) w φ s.tm a := hI.tm
theorem Inv.xx (hI : Inv C G s φ a w) : ∀ b, G.X b → b < w.heap.size := hI.x.lt

theorem toList_two {α : Type} {xs : Array α} {x y : α} (h : xs.toList = [x, y]) : xs = #[x, y] := by
  cases xs
  simp_all
theorem put_plain {v : V} {dst : Option Tmp} {u : Value} (hI : Inv C G s φ a w) (h : put1 C.n dst (.plain v) [] s = some s') (hv : Rel (Imm φ G.X w) w φ v u) : Inv C G s' φ (a.put dst u) w :=
  hI.put h (Gr.refl φ w) (fun tmps _ k e => by
    show Rel _ _ _ _ _
    rw [e]
    exact hv) (fun id blk hb => by cases hb)
theorem stepB0_ok (hT : TCok C.P C.tc) (hI : Inv C G s φ a w) {i : Nat} {o : Oper} (h : stepB0 C hs i s o = some (os, s')) (hos : AllP os) (hK : ∀ a' w' φ', Inv C G s' φ' a' w' → K a' w') :
    o.wp C.P a w K Q := by
  unfold stepB0 at h
  split at h
  · rename_i t x y hg hd hop
    split at h
    · rename_i vx vy hvx hvy
      split at h
      · rename_i os' H' hst
        cases h
        have hx := rdA_ok hI.gok hI.tm0 (fun p hp => by simp at hp) _ _ hvx
        have hy := rdA_ok hI.gok hI.tm0 (fun p hp => by simp at hp) _ _ hvy
        obtain ⟨w', h1, h2⟩ := evStoreA_ok hT hI hst hos hx hy
        unfold Oper.wp
        have hrun : (execOp a.eval o).run C.P w = .ok .skip w' := by
          simp only [execOp, hop, Sem.run_bind, h1, Result.andThen_ok, Sem.run_pure]
        rw [hrun]
        simp only [Oper.upon, hd]
        exact hK _ _ φ h2
      · cases h
    · cases h
  · rename_i xs ts hg hop
    split at h
    case h_2 => cases h
    rename_i x y tx ty hxs hts
    split at h
    case h_2 => cases h
    rename_i vx vy hvx hvy
    split at h
    case h_2 => cases h
    rename_i os' id m blk hap
    split at h
    case h_2 => cases h
    rename_i hin
    split at h
    case h_2 => cases h
    rename_i s1 hput
    cases h
    simp only [Bool.and_eq_true] at hin
    have hx := rdA_ok hI.gok hI.tm0 (fun p hp => by simp at hp) _ _ hvx
    have hy := rdA_ok hI.gok hI.tm0 (fun p hp => by simp at hp) _ _ hvy
    obtain ⟨v', w', φ', h1, h2, h3, _⟩ := evAppend_ok (t := o.type) hT (hI.prepA vx) hap hos hin.1 hin.2 hx hy
    have exs := toList_two hxs
    have ets := toList_two hts
    subst exs ets
    unfold Oper.wp
    have hrun : (execOp a.eval o).run C.P w = .ok (.value v') w' := by
      simp only [execOp, hop, resolve, invoke, builtin, Sem.run_bind, Sem.run_pure, Result.andThen_ok, List.map_toArray, List.map_cons, List.map_nil, h1]
    rw [hrun]
    exact hK _ _ φ' (put_plain h2 hput h3)
  · rename_i xs ts hg hop
    split at h
    case h_2 => cases h
    rename_i x y tx ty hxs hts
    split at h
    case h_2 => cases h
    rename_i vx vy hvx hvy
    split at h
    case h_2 => cases h
    rename_i os' H' k hap
    split at h
    case h_2 => cases h
    rename_i s1 hput
    cases h
    have hx := rdA_ok hI.gok hI.tm0 (fun p hp => by simp at hp) _ _ hvx
    have hy := rdA_ok hI.gok hI.tm0 (fun p hp => by simp at hp) _ _ hvy
    obtain ⟨w', h1, h2⟩ := evCopy_ok (t := o.type) hT hI hap hos hx hy
    have exs := toList_two hxs
    have ets := toList_two hts
    subst exs ets
    unfold Oper.wp
    have hrun : (execOp a.eval o).run C.P w = .ok (.value (goInt k)) w' := by
      simp only [execOp, hop, resolve, invoke, builtin, Sem.run_bind, Sem.run_pure, Result.andThen_ok, List.map_toArray, List.map_cons, List.map_nil, h1]
    rw [hrun]
    exact hK _ _ φ (put_plain h2 hput (.val rfl))
  · rename_i t x k y hg hd hop
    split at h
    case h_2 => cases h
    rename_i vx vk vy hvx hvk hvy
    split at h
    case h_2 => cases h
    rename_i os' H' hst
    cases h
    have hx := rdA_ok hI.gok hI.tm0 (fun p hp => by simp at hp) _ _ hvx
    have hk := rdA_ok hI.gok hI.tm0 (fun p hp => by simp at hp) _ _ hvk
    have hy := rdA_ok hI.gok hI.tm0 (fun p hp => by simp at hp) _ _ hvy
    obtain ⟨w', h1, h2⟩ := evMapUpd_ok hT hI hst hos hx hk hy
    unfold Oper.wp
    have hrun : (execOp a.eval o).run C.P w = .ok .skip w' := by
      simp only [execOp, hop, Sem.run_bind, h1, Result.andThen_ok, Sem.run_pure]
    rw [hrun]
    simp only [Oper.upon, hd]
    exact hK _ _ φ h2
  · rename_i t x k y hg hd hop
    split at h
    case h_2 => cases h
    rename_i vx vk vy hvx hvk hvy
    split at h
    case h_2 => cases h
    rename_i os' H' hst
    cases h
    have hx := rdA_ok hI.gok hI.tm0 (fun p hp => by simp at hp) _ _ hvx
    have hk := rdA_ok hI.gok hI.tm0 (fun p hp => by simp at hp) _ _ hvk
    have hy := rdA_ok hI.gok hI.tm0 (fun p hp => by simp at hp) _ _ hvy
    obtain ⟨w', h1, h2⟩ := evMapUpd_ok hT hI hst hos hx hk hy
    unfold Oper.wp
    have hrun : (execOp a.eval o).run C.P w = .ok .skip w' := by
      simp only [execOp, hop, Sem.run_bind, h1, Result.andThen_ok, Sem.run_pure]
    rw [hrun]
    simp only [Oper.upon, hd]
    exact hK _ _ φ h2
  · rename_i xs ts hg hop
    split at h
    case h_2 => cases h
    rename_i x k t hxs hts
    split at h
    case h_2 => cases h
    rename_i vx vk hvx hvk
    split at h
    case h_2 => cases h
    rename_i os' H' hap
    split at h
    case h_2 => cases h
    rename_i s1 hput
    cases h
    have hx := rdA_ok hI.gok hI.tm0 (fun p hp => by simp at hp) _ _ hvx
    have hk := rdA_ok hI.gok hI.tm0 (fun p hp => by simp at hp) _ _ hvk
    obtain ⟨w', h1, h2⟩ := evMapDel_ok (ty := o.type) hT hI hap hos hts hx hk
    have exs := toList_two hxs
    subst exs
    unfold Oper.wp
    have hrun : (execOp a.eval o).run C.P w = .ok (.value (.tuple #[])) w' := by
      simp only [execOp, hop, resolve, invoke, builtin, Sem.run_bind, Sem.run_pure, Result.andThen_ok, List.map_toArray, List.map_cons, List.map_nil, h1]
    rw [hrun]
    exact hK _ _ φ (put_plain h2 hput .top)
  · rename_i xs ts hg hop
    split at h
    case h_2 => cases h
    rename_i x t hxs hts
    split at h
    case h_2 => cases h
    rename_i vx hvx
    split at h
    case h_2 => cases h
    rename_i os' H' hap
    split at h
    case h_2 => cases h
    rename_i s1 hput
    cases h
    have hx := rdA_ok hI.gok hI.tm0 (fun p hp => by simp at hp) _ _ hvx
    obtain ⟨w', h1, h2⟩ := evClear_ok (ty := o.type) hT hI hap hos hts hx
    have exs : xs = #[x] := by cases xs; simp_all
    subst exs
    unfold Oper.wp
    have hrun : (execOp a.eval o).run C.P w = .ok (.value (.tuple #[])) w' := by
      simp only [execOp, hop, resolve, invoke, builtin, Sem.run_bind, Sem.run_pure, Result.andThen_ok, List.map_toArray, List.map_cons, List.map_nil, h1]
    rw [hrun]
    exact hK _ _ φ (put_plain h2 hput .top)
  · rename_i t t' x hg hop
    split at h
    case h_2 => cases h
    rename_i id n htt hvx
    split at h
    case h_2 => cases h
    rename_i os' blk hmk
    split at h
    case h_2 => cases h
    rename_i hrest
    split at h
    case h_2 => cases h
    rename_i s1 hput
    cases h
    have htt := Nat.eq_of_beq_eq_true htt
    subst htt
    have hx := rdA_ok hI.gok hI.tm0 (fun p hp => by simp at hp) _ _ hvx
    obtain ⟨w', h1, h2, h3⟩ := evMark_ok hT (hI.prepA (.sl id 0 n)) hmk hrest hx
    unfold Oper.wp
    have hrun : (execOp a.eval o).run C.P w = .ok (.value (a.eval x)) w' := by
      simp only [execOp, hop, Sem.run_bind, h1, Result.andThen_ok, Sem.run_pure]
    rw [hrun]
    exact hK _ _ _ (put_plain h2 hput h3)
  · rename_i y xs ts hg hop
    split at h
    case h_2 => cases h
    rename_i c f fs cap vs hcr hcl hvs
    split at h
    case h_2 => cases h
    rename_i os' s2 v hev
    split at h
    case h_2 => cases h
    rename_i s1 hput
    cases h
    obtain ⟨gv, hgv, hcl⟩ := Option.bind_eq_some_iff.1 hcl
    obtain ⟨ua, ub, hgf, hra, hrb⟩ := evClo_ok hcl (rdA_ok hI.gok hI.tm0 (fun p hp => by simp at hp) y gv hgv)
    have hr := hra.append ((rds_ok (a := a) (fun y x hy => rdA_ok hI.gok hI.tm0 (fun p hp => by simp at hp) y x hy) hvs).append hrb)
    obtain ⟨⟨fn, hf1, hf2, hf3⟩, hcall⟩ := evCallO_ok (hI.prepO (pairsOf (symOf hs i))) hev hos hr
    unfold Oper.wp
    have hrun : (execOp a.eval o).run C.P w = (callFunc f (ua.toList ++ (xs.toList.map a.eval ++ ub.toList)).toArray).run C.P w := by
      have e2 : ua ++ xs.map a.eval ++ ub = (ua.toList ++ (xs.toList.map a.eval ++ ub.toList)).toArray := by
        apply Array.ext'
        simp
      simp only [execOp, hop, resolve, Sem.run_bind, Sem.run_pure, Result.andThen_ok, Deferred.ofValue, hgf, invoke, e2]
    have hcf : (callFunc f (ua.toList ++ (xs.toList.map a.eval ++ ub.toList)).toArray).run C.P w = .ok (.enter f (ua.toList ++ (xs.toList.map a.eval ++ ub.toList)).toArray) w := by
      simp only [callFunc, Sem.run_bind, run_program, Result.andThen_ok, hf1, hf2, hf3, Bool.false_eq_true, if_false, Sem.run_pure]
    rw [hrun, hcf, Oper.upon_enter]
    refine hcall.mono ?_
    rintro e' w' ⟨u, φ2, rfl, hI2, hu, _⟩
    exact hK _ _ _ (put_plain hI2 hput hu)
  · cases h

theorem lk_resT {d : Nat} {b : Bool} {t : Nat} {x : T} : ∀ {tm : List (Nat × T)}, lk (resT d b tm) t = some x → lk tm t = some x ∨ (∃ w y, lk tm t = some (.gd d w y) ∧ ((w = b ∧ x = .plain y) ∨ x = .plain .top))
  | [], h => by cases h
  | (q, .plain z) :: r, h => by
    simp only [resT, lk] at h ⊢
    split at h
    · rename_i e
      rw [if_pos e]
      exact .inl h
    · rename_i e
      rw [if_neg e]
      exact lk_resT h
  | (q, .gd d' w z) :: r, h => by
    simp only [resT, lk] at h ⊢
    split at h
    · rename_i e
      rw [if_pos e]
      split at h
      · rename_i e2
        have e2 := Nat.eq_of_beq_eq_true e2
        subst e2
        refine .inr ⟨w, z, rfl, ?_⟩
        split at h
        · rename_i e3
          cases h
          exact .inl ⟨by simpa using e3, rfl⟩
        · cases h
          exact .inr rfl
      · exact .inl h
    · rename_i e
      rw [if_neg e]
      exact lk_resT h
theorem gdOf_ok (hI : Inv C G s φ a w) {i : Nat} {o : Oper} (ho : ops[i]? = some o) {b : Bool} (h : gdOf ops s o = some b) : Region.wanted o (yielded ops.toArray a.tmps) = b := by
  have key : ∀ {j : Nat} {w : Bool} {d : Tmp} {b0 : Bool}, o.guard = some (j, w) → dstAt ops j = some d → a.tmps.getD d undef = .bool b0 → Region.wanted o (yielded ops.toArray a.tmps) = (b0 == w) := fun {j w d b0} hg hd hv => by
    unfold Region.wanted
    rw [hg]
    simp only
    have hlt : d < a.tmps.size := by
      refine Classical.byContradiction fun hc => ?_
      rw [Array.getD_eq_getD_getElem?, Array.getElem?_eq_none (Nat.not_lt.1 hc)] at hv
      cases hv
    have hy : yielded ops.toArray a.tmps j = some b0 := by
      unfold yielded
      unfold dstAt at hd
      have e1 : (ops.toArray[j]?).bind (·.dst) = some d := by simpa using hd
      rw [e1]
      simp only [Option.bind_some]
      rw [Array.getD_eq_getD_getElem?, Array.getElem?_eq_getElem hlt] at hv
      rw [Array.getElem?_eq_getElem hlt]
      have hv : a.tmps[d] = .bool b0 := hv
      rw [hv]
    rw [hy]
    cases b0 <;> cases w <;> rfl
  unfold gdOf at h
  cases hg : o.guard with
  | none =>
    rw [hg] at h
    cases h
    unfold Region.wanted
    rw [hg]
  | some p =>
    obtain ⟨j, w⟩ := p
    rw [hg] at h
    simp only at h
    split at h
    · rename_i d hns hd
      split at h
      · rename_i b0 hl
        cases h
        have hv : Rel (Imm φ G.X _) _ φ (.val (.bool b0)) (a.tmps.getD d undef) := hI.tm d _ hl
        exact key hg hd hv.val_inv
      · rename_i d' w' x hl
        have ht := hI.tm d _ hl
        split at h
        · rename_i d2 v2 hgd
          split at h
          · rename_i b' hbe hl2
            have hbe := Nat.eq_of_beq_eq_true hbe
            subst hbe
            have hv : Rel (Imm φ G.X _) _ φ (.val (.bool b')) (a.tmps.getD d2 undef) := hI.tm d2 _ hl2
            have hv := hv.val_inv
            split at h
            · rename_i hbw
              have hbw : b' = w' := by simpa using hbw
              subst hbw
              split at h
              · rename_i b1
                cases h
                have h3 : Rel (Imm φ G.X _) _ φ (.val (.bool b1)) (a.tmps.getD d undef) := ht.1 hv
                exact key hg hd h3.val_inv
              · cases h
            · rename_i hbw
              cases h
              have hne : a.tmps.getD d2 undef ≠ .bool w' := by
                rw [hv]
                intro e
                cases e
                simp at hbw
              have hu : a.tmps.getD d undef = undef := ht.2 hne
              cases hw : Region.wanted o (yielded ops.toArray a.tmps) with
              | false => rfl
              | true =>
                have := wanted_inv hw hg hd
                rw [hu] at this
                cases this
          · cases h
        · cases h
      · cases h
    · cases h
theorem resG_ok (hI : Inv C G s φ a w) {i : Nat} {o : Oper} (ho : ops[i]? = some o) (hg : gdOf ops s o = some true) : Inv C G ⟨resG ops s o, s.H⟩ φ a w := by
  have hw := gdOf_ok hI ho hg
  refine ⟨hI.size, hI.defers, fun t x hx => ?_, hI.hr, hI.ok, hI.x, hI.frm, hI.own, hI.fix⟩
  have hx : lk (resG ops s o) t = some x := hx
  unfold resG at hx
  split at hx
  · exact hI.tm t x hx
  · rename_i j w0 hgd
    split at hx
    · rename_i d hd
      have hv := wanted_inv hw hgd hd
      rcases lk_resT hx with h1 | ⟨w1, y, h1, h2⟩
      · exact hI.tm t x h1
      · have h3 := hI.tm t _ h1
        rcases h2 with ⟨rfl, rfl⟩ | rfl
        · exact h3.1 hv
        · exact Rel.top
    · exact hI.tm t x hx
theorem stepB_ok (hT : TCok C.P C.tc) (hI : Inv C G s φ a w) {i : Nat} {o : Oper} (ho : ops[i]? = some o) (h : stepB C ops hs i s o = some (os, s')) (hos : AllP os) (hK : ∀ a' w' φ', Inv C G s' φ' a' w' → K a' w') :
    wpOp C.P ops.toArray Q i K a w := by
  have e : ops.toArray[i]? = some o := by simpa using ho
  unfold stepB at h
  unfold wpOp
  simp only [e]
  split at h
  · rename_i hg
    rw [gdOf_ok hI ho hg, if_pos rfl]
    exact .inl (stepB0_ok (o := { o with guard := none }) hT (resG_ok (i := i) hI ho hg) h hos hK)
  · rename_i hg
    rw [gdOf_ok hI ho hg, if_neg (by simp)]
    split at h
    · rename_i s1 hput
      cases h
      exact hK _ _ φ (put_plain hI hput .top)
    · cases h
  · cases h

theorem lateOk_ne {i : Nat} {o : Oper} {ty : TypeId} {x z : Operand} {id off t j : Nat} {v : V} (h : lateOk ops hs i s o = true) (ht : t ∈ lateLds ops i) (hop : o.op = .store ty x z) (hx : rdA s.tm [] x = some (.ptr id off)) (hl : lk s.tm t = some (.plain v)) (hv : leadTo v = some j) : j ≠ id := by
  unfold lateOk at h
  rw [show isSto o.op = true by rw [hop]; rfl] at h
  simp only at h
  split at h
  · rename_i e
    rw [e] at ht
    cases ht
  · rw [hop] at h
    cases x with
    | tmp q =>
      simp only [rdA, rdT] at hx
      split at hx
      · rename_i v hv
        cases hx
        simp only [hv, List.all_eq_true] at h
        have := h t ht
        rw [hl] at this
        simp only [‹leadTo _ = some j›] at this
        intro e
        subst e
        simp at this
      · simp [hasP] at hx
      · cases hx
    | const v => cases h
    | func f => cases h
    | global g => cases h

/-! An append, and what comes up behind it. -/
theorem clean_pt {d : Tmp} {t : Nat} : ∀ {tm tm' : List (Nat × T)}, lk tm t = lk tm' t → lk (clean d tm) t = lk (clean d tm') t := by
  have key : ∀ tm : List (Nat × T), lk (clean d tm) t = (lk tm t).map fun x => match x with
      | .gd d' w x => if d' == d then .plain .top else .gd d' w x
      | .plain x => .plain x := fun tm => by
    induction tm with
    | nil => rfl
    | cons p r ih =>
      obtain ⟨k, y⟩ := p
      cases y with
      | plain y =>
        simp only [clean, lk]
        split
        · rfl
        · exact ih
      | gd d' w y =>
        simp only [clean, lk]
        split
        · rfl
        · exact ih
  intro tm tm' h
  rw [key, key, h]
theorem killT_pt {id t : Nat} : ∀ {tm tm' : List (Nat × T)}, lk tm t = lk tm' t → lk (killT id tm) t = lk (killT id tm') t := by
  have key : ∀ tm : List (Nat × T), lk (killT id tm) t = (lk tm t).map fun x => match tIn (neId id) x with
      | true => x
      | false => .plain .top := fun tm => by
    induction tm with
    | nil => rfl
    | cons p r ih =>
      obtain ⟨k, y⟩ := p
      simp only [killT, lk]
      split
      · rfl
      · exact ih
  intro tm tm' h
  rw [key, key, h]
theorem killT_plain {id t : Nat} {v : V} (hv : inIds (neId id) v = true) : ∀ {tm : List (Nat × T)}, lk tm t = some (.plain v) → lk (killT id tm) t = some (.plain v)
  | [], h => by cases h
  | (k, y) :: r, h => by
    simp only [killT, lk] at h ⊢
    split at h
    · rename_i e
      rw [if_pos e]
      cases h
      simp [tIn, hv]
    · rename_i e
      rw [if_neg e]
      exact killT_plain hv h
theorem put1_pt {n : Nat} {dst : Option Tmp} {x : T} {tm tm' : List (Nat × T)} {H : List (Nat × Blk)} (h : put1 n dst x [] ⟨tm, H⟩ = some s') :
    ∃ tm2, put1 n dst x [] ⟨tm', H⟩ = some ⟨tm2, s'.H⟩ ∧ ∀ t, lk tm t = lk tm' t → lk s'.tm t = lk tm2 t := by
  unfold put1 at h
  split at h
  case h_2 => cases h
  rename_i tm1 H1 htm hH
  cases h
  cases dst with
  | none =>
    simp only [putT, Option.some.injEq] at htm
    subst htm
    refine ⟨tm', ?_, fun t ht => ht⟩
    unfold put1
    rw [hH]
    rfl
  | some d =>
    simp only [putT] at htm
    split at htm
    · rename_i hc
      cases htm
      refine ⟨ins d x (clean d tm'), ?_, fun t ht => ?_⟩
      · unfold put1
        rw [hH]
        simp only [putT, hc, if_true]
      · show lk (ins d x (clean d tm)) t = _
        rw [lk_ins, lk_ins, clean_pt ht]
    · cases htm
theorem isApp_inv {o : Op} (h : isApp o = true) : ∃ args tys, o = .call { callee := .builtin .append, args := args, argTypes := tys } := by
  unfold isApp at h
  split at h
  · exact ⟨_, _, rfl⟩
  · cases h
theorem stepB0_app {i : Nat} {dst : Option Tmp} {args : Array Operand} {tys : Array TypeId} {type : TypeId} {pos} {after : Array Edge} (s : St) : stepB0 C hs i s ⟨dst, .call { callee := .builtin .append, args := args, argTypes := tys }, type, pos, after, none⟩ = (match args.toList, tys.toList with
    | [x, y], [tx, ty] => match rdA s.tm [] x, rdA s.tm [] y with
      | some vx, some vy => match evAppend C.tc (prepA vx s.H) (symOf hs i) tx ty vx vy with
        | some (os, id, m, blk) => match restIn id (prepA vx s.H) && blkIn (neId id) blk with
          | true => match put1 C.n dst (.plain (.sl id 0 m)) [] ⟨killT id s.tm, ins id blk (prepA vx s.H)⟩ with
            | some s' => some (os, s')
            | none => none
          | false => none
        | none => none
      | _, _ => none
    | _, _ => none) := by
  cases dst <;> rfl
theorem killV_id {ok : Nat → Bool} : ∀ {l : List V}, inIdsL ok l = true → l.map (killV ok) = l
  | [], _ => rfl
  | x :: r, h => by
    simp only [inIdsL, Bool.and_eq_true] at h
    rw [List.map_cons, killV_id h.2]
    unfold killV
    rw [h.1]
theorem killB_id {ok : Nat → Bool} {b : Blk} (h : blkIn ok b = true) : killB ok b = b := by
  unfold killB
  cases hf : b.flat with
  | true => rfl
  | false =>
    unfold blkIn at h
    rw [hf, Bool.false_or] at h
    obtain ⟨c, f, sz, bl⟩ := b
    have hf : f = false := hf
    subst hf
    simp only [Bool.false_eq_true, if_false]
    rw [killV_id h]
theorem stepB0_cal {i : Nat} {dst : Option Tmp} {y : Operand} {args : Array Operand} {tys : Array TypeId} {type : TypeId} {pos} {after : Array Edge} (s : St) : stepB0 C hs i s ⟨dst, .call { callee := .value y, args := args, argTypes := tys }, type, pos, after, none⟩ = (match crOf hs i, (rdA s.tm [] y).bind evClo, rds (rdA s.tm []) args.toList with
    | some c, some (f, fs, cap), some vs => match evCallO C.P s.tm (prepO (pairsOf (symOf hs i)) s.H) (dst.getD 0) f (fs ++ (vs ++ cap)) (symOf hs i) c with
      | some (os, s2, v) => match put1 C.n dst (.plain v) [] s2 with
        | some s' => some (os, s')
        | none => none
      | none => none
    | _, _, _ => none) := by
  cases dst <;> rfl
theorem isCal_inv {o : Op} (h : isCal o = true) : ∃ y args tys, o = .call { callee := .value y, args := args, argTypes := tys } := by
  unfold isCal at h
  split at h
  · exact ⟨_, _, _, rfl⟩
  · cases h
theorem isSto_inv {o : Op} (h : isSto o = true) : ∃ t x y, o = .store t x y := by
  unfold isSto at h
  split at h
  · exact ⟨_, _, _, rfl⟩
  · cases h
theorem killTs_pt {l : List Nat} {t : Nat} : ∀ {tm tm' : List (Nat × T)}, lk tm t = lk tm' t → lk (killTs l tm) t = lk (killTs l tm') t := by
  have key : ∀ tm : List (Nat × T), lk (killTs l tm) t = (lk tm t).map fun x => match tIn (notIn l) x with
      | true => x
      | false => .plain .top := fun tm => by
    induction tm with
    | nil => rfl
    | cons p r ih =>
      obtain ⟨k, y⟩ := p
      simp only [killTs, lk]
      split
      · rfl
      · exact ih
  intro tm tm' h
  rw [key, key, h]
theorem killTs_plain {l : List Nat} {t : Nat} {v : V} (hv : inIds (notIn l) v = true) : ∀ {tm : List (Nat × T)}, lk tm t = some (.plain v) → lk (killTs l tm) t = some (.plain v)
  | [], h => by cases h
  | (k, y) :: r, h => by
    simp only [killTs, lk] at h ⊢
    split at h
    · rename_i e
      rw [if_pos e]
      cases h
      simp [tIn, hv]
    · rename_i e
      rw [if_neg e]
      exact killTs_plain hv h
theorem resT_pt {d : Nat} {b : Bool} {t : Nat} : ∀ {tm tm' : List (Nat × T)}, lk tm t = lk tm' t → lk (resT d b tm) t = lk (resT d b tm') t := by
  have key : ∀ tm : List (Nat × T), lk (resT d b tm) t = (lk tm t).map fun x => match x with
      | .gd d' w x => if Nat.beq d' d then (if w == b then .plain x else .plain .top) else .gd d' w x
      | .plain x => .plain x := fun tm => by
    induction tm with
    | nil => rfl
    | cons p r ih =>
      obtain ⟨k, y⟩ := p
      cases y with
      | plain y =>
        simp only [resT, lk]
        split
        · rfl
        · exact ih
      | gd d' w y =>
        simp only [resT, lk]
        split
        · rfl
        · exact ih
  intro tm tm' h
  rw [key, key, h]
theorem resT_plain {d : Nat} {b : Bool} {t : Nat} {v : V} : ∀ {tm : List (Nat × T)}, lk tm t = some (.plain v) → lk (resT d b tm) t = some (.plain v)
  | [], h => by cases h
  | (k, .plain y) :: r, h => by
    simp only [resT, lk] at h ⊢
    split at h
    · rename_i e; rw [if_pos e]; exact h
    · rename_i e; rw [if_neg e]; exact resT_plain h
  | (k, .gd d' w y) :: r, h => by
    simp only [resT, lk] at h ⊢
    split at h
    · cases h
    · rename_i e; rw [if_neg e]; exact resT_plain h
theorem resG_pt {o : Oper} {t : Nat} {tm tm' : List (Nat × T)} {H : List (Nat × Blk)} (h : lk tm t = lk tm' t) : lk (resG ops ⟨tm, H⟩ o) t = lk (resG ops ⟨tm', H⟩ o) t := by
  unfold resG
  split
  · exact h
  · split
    · exact resT_pt h
    · exact h
theorem resG_plain {o : Oper} {t : Nat} {v : V} (h : lk s.tm t = some (.plain v)) : lk (resG ops s o) t = some (.plain v) := by
  unfold resG
  split
  · exact h
  · split
    · exact resT_plain h
    · exact h
theorem rdA_resG {o : Oper} {x : Operand} {v : V} (h : rdA s.tm [] x = some v) : rdA (resG ops s o) [] x = some v := by
  cases x with
  | tmp t =>
    simp only [rdA, rdT] at h ⊢
    split at h
    · rename_i z hz
      cases h
      rw [resG_plain hz]
    · simp [hasP] at h
    · cases h
  | const z => exact h
  | func f => exact h
  | global g => exact h
theorem rdA_eq {tm tm' : List (Nat × T)} {y : Operand} (hs : ∀ t, t ∈ tmpsOf [y] → lk tm' t = lk tm t) : rdA tm' [] y = rdA tm [] y := by
  cases y with
  | tmp t =>
    simp only [rdA, rdT]
    rw [hs t (by simp [tmpsOf])]
  | const z => rfl
  | func f => rfl
  | global g => rfl
theorem evAppend_id {tc : List (Nat × TI)} {H : List (Nat × Blk)} {sym : Option V} {tx ty : TypeId} {vx vy : V} {os : List Prop} {id m : Nat} {blk : Blk} (hap : evAppend tc H sym tx ty vx vy = some (os, id, m, blk)) : ∃ off n, vx = .sl id off n := by
  unfold evAppend at hap
  split at hap
  case h_2 => cases hap
  split at hap
  case h_2 => cases hap
  split at hap
  case h_2 => cases hap
  split at hap
  case h_2 => cases hap
  split at hap
  · split at hap
    case h_2 => cases hap
    split at hap
    · cases hap
      exact ⟨_, _, rfl⟩
    · cases hap
  · split at hap
    case h_2 => cases hap
    cases hap
    exact ⟨_, _, rfl⟩
  · cases hap
theorem tmps_sub {z : Operand} {l : List Operand} (hz : z ∈ l) {t : Tmp} (ht : t ∈ tmpsOf [z]) : t ∈ tmpsOf l := by
  cases z with
  | tmp q =>
    simp only [tmpsOf, List.mem_singleton] at ht
    subst ht
    exact tmpsOf_mem hz
  | const _ => simp [tmpsOf] at ht
  | func _ => simp [tmpsOf] at ht
  | global _ => simp [tmpsOf] at ht
theorem op_guard {o : Oper} (h : o.guard = none) : o = ⟨o.dst, o.op, o.type, o.pos, o.after, none⟩ := by
  obtain ⟨dst, op, type, pos, after, guard⟩ := o
  cases h
  rfl
/-- The same, of less that is known. -/
theorem stepB0_fl {i : Nat} {o : Oper} {tm : List (Nat × T)} (hg : o.guard = none) (hfl : isFl o = true) (h : stepB0 C hs i s o = some (os, s')) (hsub : ∀ t, t ∈ tmpsOf o.op.operands.toList → lk tm t = lk s.tm t) :
    ∃ tm', stepB0 C hs i ⟨tm, s.H⟩ o = some (os, ⟨tm', s'.H⟩) ∧ ∀ t, lk s.tm t = lk tm t → lk s'.tm t = lk tm' t := by
  have hrd : ∀ z, z ∈ o.op.operands.toList → rdA tm [] z = rdA s.tm [] z := fun z hz => rdA_eq (fun t ht => hsub t (tmps_sub hz ht))
  unfold isFl at hfl
  simp only [Bool.or_eq_true] at hfl
  rcases hfl with hsto | happ | hcal
  · obtain ⟨t, x, y, hop⟩ := isSto_inv hsto
    rw [hop] at hrd
    unfold stepB0 at h
    split at h
    · rename_i t x y hg hd hop2
      rw [hop] at hop2
      cases hop2
      have e1 := hrd x (by simp [Op.operands])
      have e2 := hrd y (by simp [Op.operands])
      split at h
      · rename_i vx vy hvx hvy
        split at h
        · rename_i os' H' hst
          cases h
          refine ⟨tm, ?_, fun t ht => ht⟩
          unfold stepB0
          simp only [hg, hd, hop, e1, e2, hvx, hvy, hst]
        · cases h
      · cases h
    all_goals first
      | (rename_i hop2; rw [hop] at hop2; cases hop2; done)
      | cases h
  · obtain ⟨args, tys, hop⟩ := isApp_inv happ
    rw [op_guard hg] at h ⊢
    rw [hop] at hrd
    simp only [hop] at h ⊢
    rw [stepB0_app] at h
    rw [stepB0_app]
    split at h
    case h_2 => cases h
    rename_i x y tx ty hxs hts
    have hops : (Op.call { callee := .builtin .append, args := args, argTypes := tys }).operands.toList = [x, y] := by
      simp [Op.operands, Go.Call.operands, hxs]
    rw [hops] at hrd
    have e1 := hrd x (by simp)
    have e2 := hrd y (by simp)
    split at h
    case h_2 => cases h
    rename_i vx vy hvx hvy
    split at h
    case h_2 => cases h
    rename_i os' id m blk hap
    split at h
    case h_2 => cases h
    rename_i hin
    split at h
    case h_2 => cases h
    rename_i s1 hput
    cases h
    obtain ⟨tm2, q1, q2⟩ := put1_pt (tm' := killT id tm) hput
    refine ⟨tm2, ?_, fun t ht => q2 t (killT_pt ht)⟩
    simp only [hxs, hts, e1, e2, hvx, hvy, hap, hin, q1]
  · obtain ⟨y, args, tys, hop⟩ := isCal_inv hcal
    rw [op_guard hg] at h ⊢
    rw [hop] at hrd
    simp only [hop] at h ⊢
    rw [stepB0_cal] at h
    rw [stepB0_cal]
    have hops : (Op.call { callee := .value y, args := args, argTypes := tys }).operands.toList = y :: args.toList := by
      simp [Op.operands, Go.Call.operands]
    rw [hops] at hrd
    have e1 := hrd y (by simp)
    have e2 : rds (rdA tm []) args.toList = rds (rdA s.tm []) args.toList := rds_congr (fun z hz => hrd z (List.mem_cons_of_mem _ hz))
    split at h
    case h_2 => cases h
    rename_i c f fs cap vs hcr hcl hvs
    split at h
    case h_2 => cases h
    rename_i os' s2 v hev
    split at h
    case h_2 => cases h
    rename_i s1 hput
    cases h
    have hev0 := hev
    simp only [evCallO] at hev
    split at hev
    case h_2 => cases hev
    rename_i Hin ys H1 hin hargs hset
    split at hev
    case isFalse => cases hev
    rename_i hc
    split at hev
    case h_2 => cases hev
    rename_i H2 hins
    cases hev
    obtain ⟨tm2, q1, q2⟩ := put1_pt (tm' := killTs (movers (prepO (pairsOf (symOf hs i)) s.H) (pairsOf (symOf hs i))) tm) hput
    refine ⟨tm2, ?_, fun t ht => q2 t (killTs_pt ht)⟩
    have hev2 : evCallO C.P tm (prepO (pairsOf (symOf hs i)) s.H) (o.dst.getD 0) f (fs ++ (vs ++ cap)) (symOf hs i) c = some ([Con C.P f Hin ys c.Hout c.r], ⟨killTs (movers (prepO (pairsOf (symOf hs i)) s.H) (pairsOf (symOf hs i))) tm, H2⟩, renG (gOut (pairsOf (symOf hs i)) (base (o.dst.getD 0))) c.r) := by
      simp only [evCallO, hin, hargs, hset, hins, if_pos hc]
    simp only [hcr, e1, hcl, e2, hvs, hev2, q1]
theorem rs_ops {o : Oper} {t : Tmp} (h : t ∈ tmpsOf o.op.operands.toList) : t ∈ rs ops o := by
  unfold rs
  exact List.mem_append.2 (.inl h)
theorem gdOf_eq {o : Oper} {tm : List (Nat × T)} (hsub : ∀ t, t ∈ rs ops o → lk tm t = lk s.tm t) : gdOf ops ⟨tm, s.H⟩ o = gdOf ops s o := by
  unfold gdOf
  cases hg : o.guard with
  | none => rfl
  | some p =>
    obtain ⟨j, w⟩ := p
    simp only
    cases isSto o.op with
    | true => rfl
    | false =>
      cases hd : dstAt ops j with
      | none => rfl
      | some d =>
        simp only
        rw [hsub d (gd_rs hg hd)]
        cases hq : gdd ops j with
        | none => rfl
        | some p =>
          obtain ⟨d2, v2⟩ := p
          simp only
          rw [hsub d2 (gdd_rs hg hq)]
theorem stepB_fl {i : Nat} {o : Oper} {tm : List (Nat × T)} (hfl : isFl o = true) (h : stepB C ops hs i s o = some (os, s')) (hsub : ∀ t, t ∈ rs ops o → lk tm t = lk s.tm t) :
    ∃ tm', stepB C ops hs i ⟨tm, s.H⟩ o = some (os, ⟨tm', s'.H⟩) ∧ ∀ t, lk s.tm t = lk tm t → lk s'.tm t = lk tm' t := by
  unfold stepB at h ⊢
  rw [gdOf_eq hsub]
  split at h
  · rename_i hg
    obtain ⟨tm', h1, h2⟩ := stepB0_fl (o := { o with guard := none }) (s := ⟨resG ops s o, s.H⟩) (tm := resG ops ⟨tm, s.H⟩ o) rfl hfl h (fun t ht => resG_pt (hsub t (rs_ops ht)))
    exact ⟨tm', h1, fun t ht => h2 t (resG_pt ht)⟩
  · split at h
    · rename_i s1 hput
      cases h
      obtain ⟨tm2, q1, q2⟩ := put1_pt (tm' := tm) hput
      refine ⟨tm2, ?_, q2⟩
      simp only [q1]
    · cases h
  · cases h
/-- What has not come up may come up as it was. -/
theorem mv_kill (ok : Nat → Bool) (b : Blk) : mv (killB ok b) = mv b := by
  unfold killB
  split
  · rfl
  · rfl
theorem movers_prepO (ps : List (Nat × Nat)) {H : List (Nat × Blk)} : movers (prepO ps H) ps = movers H ps := by
  unfold prepO
  split
  · rfl
  · have key : ∀ l : List (Nat × Nat), movers (killHo (okP ps) (notIn (movers H ps)) H) l = movers H l := fun l => by
      induction l with
      | nil => rfl
      | cons p r ih =>
        obtain ⟨c, i⟩ := p
        simp only [movers]
        rw [lk_killHo, ih]
        cases lk H i with
        | none => rfl
        | some b =>
          simp only [Option.map_some]
          have : mv (if okP ps i = true then b else killB (notIn (movers H ps)) b) = mv b := by
            split
            · rfl
            · exact mv_kill _ _
          rw [this]
    exact key ps
theorem pend_keep {i j : Nat} {o o3 : Oper} {d3 : Tmp} {r3 : Out1} (hfl : isFl o = true) (ho : ops[i]? = some o) (h : stepB C ops hs i s o = some (os, s')) (hbar : isBar o.op = true) (hok : noLate ops = true ∨ lateOk ops hs i s o = true) (hp : Pend C ops hs s j o3 d3 r3)
    (hji : j < i) (hnor : ordered (befs ops) j i = false) (hf : floats ops j = true) (hd : ∀ d, o.dst = some d → d ≠ d3) : Pend C ops hs s' j o3 d3 r3 := by
  have hilt : i < ops.length := (List.getElem?_eq_some_iff.1 ho).1
  obtain ⟨tm3, H3, q1, q2, q3⟩ := hp.one
  obtain ⟨v3, hv3⟩ := hp.pl
  -- what is asked of the step
  suffices hs : (∀ t v, t ∈ d3 :: rs ops o3 → lk s.tm t = some (.plain v) → lk s'.tm t = some (.plain v)) ∧ (∀ t v k b, t ∈ lateSl o3 → lk s.tm t = some (.plain v) → leadTo v = some k → lk s.H k = some b → lk s'.H k = some b) by
    obtain ⟨keep, hH⟩ := hs
    refine ⟨hp.flt, hp.ne, hp.lt, fun jg w hg => ?_, ⟨tm3, H3, fun t x hx => ?_, fun k b hl3 => ?_, q3⟩, hp.obl, hp.new.imp (fun h => h) ?_, hp.pl, ?_⟩
    · obtain ⟨dg, z1, z2⟩ := hp.gd jg w hg
      exact ⟨dg, z1, keep dg _ (List.mem_cons_of_mem _ (gd_rs hg z1)) z2⟩
    · obtain ⟨z1, z2, v, rfl⟩ := q1 t x hx
      exact ⟨z1, keep t v (List.mem_cons_of_mem _ z1) z2, v, rfl⟩
    · obtain ⟨z1, t3, v3, z2, z3, z4, z5⟩ := q2 k b hl3
      exact ⟨hH t3 v3 k b (by unfold lateSl; rw [z2]; simp) z4 z5 z1, t3, v3, z2, z3, keep t3 _ (List.mem_cons_of_mem _ z3) z4, z5⟩
    · rintro ⟨blk, n, y1, y2, y3, y4, y5⟩
      have hval := hp.val
      rw [y2.1] at hval
      exact ⟨blk, n, y1, y2, hH d3 _ d3 blk y5 hval y2.2 y3, y4, y5⟩
    · have hval := hp.val
      rw [hv3] at hval ⊢
      exact keep d3 v3 (List.mem_cons_self ..) hval
  have hdn : ∀ t, t ∈ d3 :: rs ops o3 → o.dst ≠ some t := fun t ht e => by
    rcases List.mem_cons.1 ht with rfl | ht
    · exact hd t e rfl
    · exact hp.flt.last i o hji ho t ht e
  have hslot : ∀ t, t ∈ lateSl o3 → t ∈ d3 :: rs ops o3 := fun t ht => by
    unfold lateSl at ht
    rcases List.mem_append.1 ht with h1 | h1
    · split at h1
      · rename_i q hq
        simp at h1
        subst h1
        refine List.mem_cons_of_mem _ (rs_ops (tmpsOf_mem ?_))
        unfold looks at hq
        split at hq
        · rename_i e
          cases hq
          rw [e]
          simp [Op.operands]
        · rename_i e
          cases hq
          rw [e]
          simp [Op.operands]
        · cases hq
      · cases h1
    · split at h1
      · rw [hp.flt.dst] at h1
        simp at h1
        subst h1
        exact List.mem_cons_self ..
      · rw [hp.flt.dst] at h1
        simp at h1
        subst h1
        exact List.mem_cons_self ..
      · cases h1
  unfold stepB at h
  split at h
  rotate_left
  · split at h
    · rename_i s1 hput
      cases h
      refine ⟨fun t v ht hl => put1_plain hput (hdn t ht) hl, fun t v k b _ _ _ hb => ?_⟩
      rw [lk_insAll (put1_H hput) k]
      exact hb
    · cases h
  · cases h
  rename_i hg
  have hla := lateAny_true hji hf hnor
  have hno : isSto o.op = false → lateOk ops hs i s o = true := fun hsto => by
    rcases hok with h | h
    · unfold noLate at h
      simp only [List.all_eq_true, List.mem_range, Bool.and_eq_true] at h
      have := (h i hilt).2
      simp only [ho, hbar, hsto, Bool.not_true, Bool.false_or, hla] at this
      cases this
    · exact h
  have kp : ∀ t v, lk s.tm t = some (.plain v) → lk (resG ops s o) t = some (.plain v) := fun t v h => resG_plain h
  cases hsto : isSto o.op with
  | true =>
    have hgn : o.guard = none := by
      cases hgo : o.guard with
      | none => rfl
      | some p =>
        unfold gdOf at hg
        rw [hgo, hsto] at hg
        simp only at hg
        cases hg
    have hrg : resG ops s o = s.tm := by unfold resG; rw [hgn]
    have hok' : lateOk ops hs i s o = true := by
      rcases hok with h | h
      · unfold noLate at h
        simp only [List.all_eq_true, List.mem_range, Bool.and_eq_true] at h
        have := (h i hilt).2
        simp only [ho, hbar, hsto, Bool.not_true, Bool.false_or, List.isEmpty_iff] at this
        unfold lateOk
        rw [hsto]
        simp only [this]
      · exact h
    obtain ⟨ty, x, y, hop⟩ := isSto_inv hsto
    unfold stepB0 at h
    split at h
    · rename_i t0 x0 y0 hg0 hd0 hop0
      have hop0 : o.op = .store t0 x0 y0 := hop0
      split at h
      · rename_i vx vy hvx hvy
        split at h
        · rename_i os' H' hst
          cases h
          obtain ⟨id, off, rfl, h2⟩ := evStoreA_inv hst
          refine ⟨fun t v _ hl => by show lk (resG ops s o) t = _; exact kp t v hl, fun t v k b ht hl hv hb => ?_⟩
          show lk H' k = some b
          rw [hrg] at hvx
          rw [h2 k (lateOk_ne hok' (lateLds_mem hji hp.flt.at_ ht hf hnor) hop0 hvx hl hv)]
          exact hb
        · cases h
      · cases h
    all_goals first
      | (rename_i hop2; rw [show (Oper.op { o with guard := none }) = o.op from rfl, hop] at hop2; cases hop2; done)
      | cases h
  | false =>
    have hok' := hno hsto
    unfold lateOk at hok'
    rw [hsto] at hok'
    simp only [hla, Bool.not_true, Bool.false_or] at hok'
    unfold isFl at hfl
    rw [hsto] at hfl
    simp only [Bool.false_or, Bool.or_eq_true] at hfl
    cases happ : isApp o.op with
    | true =>
      rw [happ] at hok'
      simp only at hok'
      obtain ⟨args, tys, hop⟩ := isApp_inv happ
      rw [op_guard (o := { o with guard := none }) rfl] at h
      simp only [hop] at h
      rw [stepB0_app] at h
      unfold lateApp at hok'
      rw [hop] at hok'
      simp only at hok'
      split at h
      case h_2 => cases h
      rename_i x y tx ty hxs hts
      simp only [hxs] at hok'
      split at h
      case h_2 => cases h
      rename_i vx vy hvx hvy
      split at h
      case h_2 => cases h
      rename_i os' id m blk hap
      split at h
      case h_2 => cases h
      rename_i hin
      split at h
      case h_2 => cases h
      rename_i s1 hput
      cases h
      obtain ⟨off, n, rfl⟩ := evAppend_id hap
      split at hok'
      case h_2 => cases hok'
      rename_i id2 off2 n2 hx2
      have := rdA_resG (ops := ops) (o := o) hx2
      rw [hvx] at this
      cases this
      simp only [Bool.and_eq_true, List.all_eq_true, List.mem_range] at hok'
      obtain ⟨hrest, hall⟩ := hok'
      have hall := hall j hji
      simp only [hp.flt.at_, hf, hnor, Bool.not_false, Bool.and_self, Bool.not_true, Bool.false_or, List.all_eq_true] at hall
      have hprep : prepA (.sl id off n) s.H = s.H := by
        unfold prepA
        simp only [hrest]
      have hput : put1 C.n o.dst (.plain (.sl id 0 m)) [] ⟨killT id (resG ops s o), ins id blk (prepA (.sl id off n) s.H)⟩ = some s' := hput
      rw [hprep] at hput
      refine ⟨fun t v ht hl => ?_, fun t v k b ht hl hv hb => ?_⟩
      · have hin : inIds (neId id) v = true := by
          have := hall t (by rw [hp.flt.dst]; simpa using ht)
          rw [hl] at this
          exact this
        exact put1_plain hput (hdn t ht) (killT_plain hin (kp t v hl))
      · have hk : k ≠ id := by
          have := hall t (by rw [hp.flt.dst]; simpa using hslot t ht)
          rw [hl] at this
          cases v with
          | ptr a b => cases hv; exact neId_ne (by simpa [inIds] using this)
          | sl a b c => cases hv; exact neId_ne (by simpa [inIds] using this)
          | _ => cases hv
        rw [lk_insAll (put1_H hput) k]
        show (match lk [] k with | some b => some b | none => lk (ins id blk s.H) k) = _
        simp only [lk]
        rw [lk_ins, if_neg hk]
        exact hb
    | false =>
      rw [happ] at hfl hok'
      have hcal : isCal o.op = true := by simpa using hfl
      rw [hcal] at hok'
      simp only at hok'
      obtain ⟨y, args, tys, hop⟩ := isCal_inv hcal
      rw [op_guard (o := { o with guard := none }) rfl] at h
      simp only [hop] at h
      rw [stepB0_cal] at h
      split at h
      case h_2 => cases h
      rename_i c f fs cap vs hcr hcl hvs
      split at h
      case h_2 => cases h
      rename_i os' s2 v2 hev
      split at h
      case h_2 => cases h
      rename_i s1 hput
      cases h
      unfold lateCal at hok'
      generalize hps : pairsOf (symOf hs i) = ps at hok' hev
      simp only [List.all_eq_true, List.mem_range] at hok'
      have hall := hok' j hji
      simp only [hp.flt.at_, hf, hnor, Bool.not_false, Bool.and_self, Bool.not_true, Bool.false_or, List.all_eq_true, Bool.and_eq_true] at hall
      obtain ⟨hall, hlook⟩ := hall
      have hmv : movers (prepO ps s.H) ps = movers s.H ps := movers_prepO ps
      simp only [evCallO] at hev
      rw [hps] at hev
      split at hev
      case h_2 => cases hev
      rename_i Hin ys H1 hin hargs hset
      split at hev
      case isFalse => cases hev
      rename_i hc
      split at hev
      case h_2 => cases hev
      rename_i H2 hins
      cases hev
      refine ⟨fun t v ht hl => ?_, fun t v k b ht hl hv hb => ?_⟩
      · have hin : inIds (notIn (movers s.H ps)) v = true := by
          have := hall t (by rw [hp.flt.dst]; simpa using ht)
          rw [hl] at this
          exact this
        rw [← hmv] at hin
        exact put1_plain hput (hdn t ht) (killTs_plain hin (kp t v hl))
      · have hk : ∀ cc, (cc, k) ∉ ps := fun cc hm => by
          have := hlook t ht
          rw [hl] at this
          simp only [hv, Bool.and_eq_true, Bool.not_eq_true'] at this
          rw [okP_iff.2 ⟨cc, hm⟩] at this
          cases this.1
        rw [lk_insAll (put1_H hput) k]
        show (match lk [] k with | some b => some b | none => lk H2 k) = _
        simp only [lk]
        have hb2 : lk (prepO ps s.H) k = some b := by
          unfold prepO
          split
          · exact hb
          · rw [lk_killHo, hb]
            have hnok : okP ps k = false := by
              cases hc : okP ps k with
              | false => rfl
              | true =>
                obtain ⟨cc, hcc⟩ := okP_iff.1 hc
                exact absurd hcc (hk cc)
            have hbi : blkIn (notIn (movers s.H ps)) b = true := by
              have := hlook t ht
              rw [hl] at this
              simp only [hv, hb, Bool.and_eq_true] at this
              exact this.2
            simp only [Option.map_some, hnok, Bool.false_eq_true, if_false]
            rw [killB_id hbi]
        have h1 : lk H1 k = some b := by
          rcases setOwn_lk hset k with ⟨cc, _, _, h2, _⟩ | ⟨_, h2⟩
          · exact absurd h2 (hk cc)
          · rw [h2]; exact hb2
        rw [lk_insAll hins k]
        cases hr : lk (restH (gOut ps (base (o.dst.getD 0))) (base (o.dst.getD 0)) c.Hout) k with
        | none => exact h1
        | some b2 =>
          have := insAll_fresh hins k (by rw [hr]; simp)
          rw [h1] at this
          cases this
theorem pend_cal {i j : Nat} {o o3 : Oper} {d3 : Tmp} {r3 : Out1} (hcal : isCal o.op = true) (ho : ops[i]? = some o) (hbar : isBar o.op = true) (hok : noLate ops = true ∨ lateOk ops hs i s o = true) (hp : Pend C ops hs s j o3 d3 r3)
    (hji : j < i) (hnor : ordered (befs ops) j i = false) (hf : floats ops j = true) (hn : r3.new ≠ []) : lk s.H d3 ≠ none ∧ ∀ c, (c, d3) ∉ pairsOf (symOf hs i) := by
  have hilt : i < ops.length := (List.getElem?_eq_some_iff.1 ho).1
  have hla := lateAny_true hji hf hnor
  obtain ⟨y, args, tys, hop⟩ := isCal_inv hcal
  have hsto : isSto o.op = false := by rw [hop]; rfl
  have happ : isApp o.op = false := by rw [hop]; rfl
  have hok' : lateOk ops hs i s o = true := by
    rcases hok with h | h
    · unfold noLate at h
      simp only [List.all_eq_true, List.mem_range, Bool.and_eq_true] at h
      have := (h i hilt).2
      simp only [ho, hbar, hsto, Bool.not_true, Bool.false_or, hla] at this
      cases this
    · exact h
  unfold lateOk at hok'
  rw [hsto] at hok'
  simp only [hla, Bool.not_true, Bool.false_or, happ, hcal] at hok'
  unfold lateCal at hok'
  generalize hps : pairsOf (symOf hs i) = ps at hok' ⊢
  simp only [List.all_eq_true, List.mem_range] at hok'
  have hall := hok' j hji
  simp only [hp.flt.at_, hf, hnor, Bool.not_false, Bool.and_self, Bool.not_true, Bool.false_or, List.all_eq_true, Bool.and_eq_true] at hall
  have hall := hall.2
  rcases hp.new with h | ⟨blk, n, y1, y2, y3, y4, y5⟩
  · exact absurd h hn
  · refine ⟨by rw [y3]; simp, fun c hm => ?_⟩
    have hval := hp.val
    rw [y2.1] at hval
    have := hall d3 y5
    rw [hval] at this
    simp only [y2.2, Bool.and_eq_true, Bool.not_eq_true'] at this
    rw [okP_iff.2 ⟨c, hm⟩] at this
    cases this.1
/-- As stepB_ok; what is nowhere stays nowhere. -/
theorem stepB_fl_ok (hT : TCok C.P C.tc) (hI : Inv C G s φ a w) {i : Nat} {o : Oper} (ho : ops[i]? = some o) (hfl : isFl o = true) (h : stepB C ops hs i s o = some (os, s')) (hos : AllP os)
    (hK : ∀ a' w' φ', Inv C G s' φ' a' w' → (∀ k, φ k = .none → (isCal o.op = true → lk s.H k ≠ none ∧ ∀ c, (c, k) ∉ pairsOf (symOf hs i)) → φ' k = .none) → K a' w') :
    wpOp C.P ops.toArray Q i K a w := by
  have e : ops.toArray[i]? = some o := by simpa using ho
  unfold stepB at h
  unfold wpOp
  simp only [e]
  split at h
  rotate_left
  · rename_i hg
    rw [gdOf_ok hI ho hg, if_neg (by simp)]
    split at h
    · rename_i s1 hput
      cases h
      exact hK _ _ φ (put_plain hI hput .top) (fun _ h _ => h)
    · cases h
  · cases h
  rename_i hg
  rw [gdOf_ok hI ho hg, if_pos rfl]
  refine .inl ?_
  have hI := resG_ok (i := i) hI ho hg
  show Oper.wp C.P { o with guard := none } a w K Q
  unfold isFl at hfl
  simp only [Bool.or_eq_true] at hfl
  rcases hfl with hsto | happ | hcal
  · obtain ⟨ty, x, y, hop⟩ := isSto_inv hsto
    unfold stepB0 at h
    split at h
    · rename_i t0 x0 y0 hg0 hd0 hop0
      have hop0 : o.op = .store t0 x0 y0 := hop0
      split at h
      · rename_i vx vy hvx hvy
        split at h
        · rename_i os' H' hst
          cases h
          have hx := rdA_ok hI.gok hI.tm0 (fun p hp => by simp at hp) _ _ hvx
          have hy := rdA_ok hI.gok hI.tm0 (fun p hp => by simp at hp) _ _ hvy
          obtain ⟨w', h1, h2⟩ := evStoreA_ok hT hI hst hos hx hy
          unfold Oper.wp
          have hrun : (execOp a.eval { o with guard := none }).run C.P w = .ok .skip w' := by
            simp only [execOp, hop0, Sem.run_bind, h1, Result.andThen_ok, Sem.run_pure]
          rw [hrun]
          have hd0 : o.dst = none := hd0
          simp only [Oper.upon, hd0]
          exact hK _ _ φ h2 (fun _ h _ => h)
        · cases h
      · cases h
    all_goals first
      | (rename_i hop2; rw [show (Oper.op { o with guard := none }) = o.op from rfl, hop] at hop2; cases hop2; done)
      | cases h
  · obtain ⟨args, tys, hop⟩ := isApp_inv happ
    have ee : ({ o with guard := none } : Oper) = ⟨o.dst, .call { callee := .builtin .append, args := args, argTypes := tys }, o.type, o.pos, o.after, none⟩ := by rw [← hop]
    rw [ee] at h ⊢
    rw [stepB0_app] at h
    split at h
    case h_2 => cases h
    rename_i x y tx ty hxs hts
    split at h
    case h_2 => cases h
    rename_i vx vy hvx hvy
    split at h
    case h_2 => cases h
    rename_i os' id m blk hap
    split at h
    case h_2 => cases h
    rename_i hin
    split at h
    case h_2 => cases h
    rename_i s1 hput
    cases h
    simp only [Bool.and_eq_true] at hin
    have hx := rdA_ok hI.gok hI.tm0 (fun p hp => by simp at hp) _ _ hvx
    have hy := rdA_ok hI.gok hI.tm0 (fun p hp => by simp at hp) _ _ hvy
    obtain ⟨v', w', φ', h1, h2, h3, h4⟩ := evAppend_ok (t := o.type) hT (hI.prepA vx) hap hos hin.1 hin.2 hx hy
    have exs := toList_two hxs
    have ets := toList_two hts
    subst exs ets
    unfold Oper.wp
    have hrun : (execOp a.eval ⟨o.dst, .call { callee := .builtin .append, args := #[x, y], argTypes := #[tx, ty] }, o.type, o.pos, o.after, none⟩).run C.P w = .ok (.value v') w' := by
      simp only [execOp, resolve, invoke, builtin, Sem.run_bind, Sem.run_pure, Result.andThen_ok, List.map_toArray, List.map_cons, List.map_nil, h1]
    rw [hrun]
    exact hK _ _ φ' (put_plain h2 hput h3) (fun k hk _ => h4 k hk)
  · obtain ⟨y, xs, ts, hop⟩ := isCal_inv hcal
    have ee : ({ o with guard := none } : Oper) = ⟨o.dst, .call { callee := .value y, args := xs, argTypes := ts }, o.type, o.pos, o.after, none⟩ := by rw [← hop]
    rw [ee] at h ⊢
    rw [stepB0_cal] at h
    split at h
    case h_2 => cases h
    rename_i c f fs cap vs hcr hcl hvs
    split at h
    case h_2 => cases h
    rename_i os' s2 v hev
    split at h
    case h_2 => cases h
    rename_i s1 hput
    cases h
    obtain ⟨gv, hgv, hcl⟩ := Option.bind_eq_some_iff.1 hcl
    obtain ⟨ua, ub, hgf, hra, hrb⟩ := evClo_ok hcl (rdA_ok hI.gok hI.tm0 (fun p hp => by simp at hp) y gv hgv)
    have hr := hra.append ((rds_ok (a := a) (fun y x hy => rdA_ok hI.gok hI.tm0 (fun p hp => by simp at hp) y x hy) hvs).append hrb)
    obtain ⟨⟨fn, hf1, hf2, hf3⟩, hcall⟩ := evCallO_ok (hI.prepO (pairsOf (symOf hs i))) hev hos hr
    unfold Oper.wp
    have hrun : (execOp a.eval ⟨o.dst, .call { callee := .value y, args := xs, argTypes := ts }, o.type, o.pos, o.after, none⟩).run C.P w = (callFunc f (ua.toList ++ (xs.toList.map a.eval ++ ub.toList)).toArray).run C.P w := by
      have e2 : ua ++ xs.map a.eval ++ ub = (ua.toList ++ (xs.toList.map a.eval ++ ub.toList)).toArray := by
        apply Array.ext'
        simp
      simp only [execOp, resolve, Sem.run_bind, Sem.run_pure, Result.andThen_ok, Deferred.ofValue, hgf, invoke, e2]
    have hcf : (callFunc f (ua.toList ++ (xs.toList.map a.eval ++ ub.toList)).toArray).run C.P w = .ok (.enter f (ua.toList ++ (xs.toList.map a.eval ++ ub.toList)).toArray) w := by
      simp only [callFunc, Sem.run_bind, run_program, Result.andThen_ok, hf1, hf2, hf3, Bool.false_eq_true, if_false, Sem.run_pure]
    rw [hrun, hcf, Oper.upon_enter]
    refine hcall.mono ?_
    rintro e' w' ⟨u, φ2, rfl, hI2, hu, hold⟩
    refine hK _ _ _ (put_plain hI2 hput hu) (fun k hk hc => ?_)
    obtain ⟨h1, h2⟩ := hc hcal
    rw [hold k ?_ h2]
    · exact hk
    · intro hn
      unfold prepO at hn
      split at hn
      · exact h1 hn
      · have hn : lk (killHo (okP (pairsOf (symOf hs i))) (notIn (movers s.H (pairsOf (symOf hs i)))) s.H) k = none := hn
        rw [lk_killHo] at hn
        exact h1 (by simpa using hn)
theorem stepD_ok (hT : TCok C.P C.tc) (hI : Inv C G s φ a w) {i : Nat} {o : Oper} {r : Out1} (ho : ops[i]? = some o) (h : stepD C ops hs i s o = some (os, r, s')) (hos : AllP os) (hK : ∀ a' w' φ', Inv C G s' φ' a' w' → K a' w') :
    wpOp C.P ops.toArray Q i K a w := by
  unfold stepD at h
  split at h
  case h_2 => cases h
  rename_i r' hr
  split at h
  case h_2 => cases h
  rename_i s1 hput
  cases h
  have hput' := put1_H hput
  have hmain := step1_ok (a := a) (s := ⟨restr (rs ops o) s.tm, s.H⟩) hT hI.ok hI.xx hI.hr hI.gok (fun t x hx => hI.tm t x (lk_restr hx).2) hr hos (fun id hid => hI.ok.dom id (insAll_fresh hput' id hid)) Q K
    (fun u w' φ' h1 h2 h3 => by rw [(resO_op hs i ops s.tm o).2]; exact hK _ _ φ' (hI.put hput h1 h2 h3))
  unfold wpOp
  have e : ops.toArray[i]? = some o := by simpa using ho
  simp only [e]
  rcases resO_cases hs i ops s.tm o with hr | ⟨hr, jg, wg, dg, hg1, hg2, hg3⟩
  · rw [hr] at hmain
    split
    · rename_i hw
      rw [if_pos hw] at hmain
      exact .inl hmain
    · rename_i hw
      rw [if_neg hw] at hmain
      exact hmain
  · have hv0 := hI.tm dg _ hg3
    have hv : Rel (Imm φ G.X w) w φ (.val (.bool wg)) (a.tmps.getD dg undef) := hv0
    rw [wanted_of hg1 hg2 hv.val_inv, if_pos rfl]
    rw [hr, if_pos (by rfl)] at hmain
    exact .inl hmain

theorem runL_seq (hT : TCok C.P C.tc) : ∀ (l : List Oper) (i : Nat) (s : St) (φ : Phi) (a : Act) (w : World) (os : List Prop), l = ops.drop i → runL C ops hs i s l = some (os, sf) → AllP os → Inv C G s φ a w → (∀ a' w' φ', Inv C G sf φ' a' w' → Q .normal a' w') →
    wpOps C.P ops.toArray Q (List.range' i l.length) a w
  | [], i, s, φ, a, w, os, _, h, _, hI, hQ => by
    cases h
    exact hQ a w φ hI
  | o :: r, i, s, φ, a, w, os, hl, h, hos, hI, hQ => by
    have ho : ops[i]? = some o := by
      have : (ops.drop i)[0]? = some o := by rw [← hl]; rfl
      simpa using this
    have hr : r = ops.drop (i + 1) := by
      have := congrArg (List.drop 1) hl
      simpa using this
    rw [List.length_cons, List.range'_succ, wpOps_cons]
    unfold runL at h
    split at h
    · split at h
      case h_2 => cases h
      rename_i o1 s' hst
      split at h
      case h_2 => cases h
      rename_i o2 sf' hrun
      cases h
      obtain ⟨p1, p2⟩ := AllP.append.1 hos
      exact stepB_ok hT hI ho hst p1 (fun a' w' φ' hI' => runL_seq hT r (i + 1) s' φ' a' w' o2 hr hrun p2 hI' hQ)
    · split at h
      case h_2 => cases h
      rename_i o1 r1 s' hst
      split at h
      case h_2 => cases h
      rename_i o2 sf' hrun
      cases h
      obtain ⟨p1, p2⟩ := AllP.append.1 hos
      exact stepD_ok hT hI ho hst p1 (fun a' w' φ' hI' => runL_seq hT r (i + 1) s' φ' a' w' o2 hr hrun p2 hI' hQ)

/-! ### The order that is drawn -/
def J (ops : List Oper) (i : Nat) (s : St) : Prop := ∀ t d w x, lk s.tm t = some (.gd d w x) → ∃ j, (j < i ∧ dstAt ops j = some d) ∧ ∃ (q : Nat) (oq : Oper) (w' : Bool), ops[q]? = some oq ∧ oq.guard = some (j, w')
theorem lk_clAll {t : Nat} {x : T} : ∀ {tm : List (Nat × T)}, lk (clAll tm) t = some x → x = .plain .top ∨ (lk tm t = some x ∧ ∃ v, x = .plain v)
  | [], h => by cases h
  | (k, .plain y) :: r, h => by
    simp only [clAll, lk] at h ⊢
    split at h
    · rename_i e
      rw [if_pos e]
      cases h
      exact .inr ⟨rfl, _, rfl⟩
    · rename_i e
      rw [if_neg e]
      exact lk_clAll h
  | (k, .gd d w y) :: r, h => by
    simp only [clAll, lk] at h ⊢
    split at h
    · cases h
      exact .inl rfl
    · rename_i e
      rw [if_neg e]
      exact lk_clAll h
theorem Inv.cl (hI : Inv C G s φ a w) : Inv C G (clSt s) φ a w := by
  refine ⟨hI.size, hI.defers, fun t x hx => ?_, hI.hr, hI.ok, hI.x, hI.frm, hI.own, hI.fix⟩
  rcases lk_clAll hx with rfl | ⟨h, _⟩
  · exact Rel.top
  · exact hI.tm t x h
theorem J.cl : J ops 0 (clSt s) := fun t d w x hx => by
  rcases lk_clAll hx with h | ⟨_, _, h⟩ <;> cases h

/-- The operations up to the next one that writes. -/
theorem runL_seg (hdw : Dw ops) : ∀ (l : List Oper) (i : Nat) (s : St) (os : List Prop), l = ops.drop i → runL C ops hs i s l = some (os, sf) → AllP os → J ops i s →
    ∃ m op st out os', st 0 = s ∧ Seg C ops hs i m op st out ∧ (∀ j, j < m → isBar (op j).op = false) ∧ J ops (i + m) (st m) ∧ runL C ops hs (i + m) (st m) (ops.drop (i + m)) = some (os', sf) ∧ AllP os' ∧ i + m ≤ max i ops.length ∧
      (ops.drop (i + m) = [] ∨ ∃ o r, ops.drop (i + m) = o :: r ∧ isBar o.op = true) ∧ (lateAll C ops hs i s l = true → lateAll C ops hs (i + m) (st m) (ops.drop (i + m)) = true ∧ ∀ q, q < m → lateG ops (i + q) = true → (resO hs (i + q) ops (st q).tm (op q)).guard = none)
  | [], i, s, os, hl, h, hos, hJ => by
    refine ⟨0, fun _ => default, fun _ => s, fun _ => ⟨[], .plain .top, []⟩, os, rfl, ⟨fun j hj => by omega, fun j hj => by omega, fun j hj => by omega, fun j hj => by omega, fun t d w x _ j hj => by omega, fun t d w x hx => by obtain ⟨j, ⟨_, hd⟩, q, oq, w', h1, h2⟩ := hJ t d w x hx; exact ⟨j, q, oq, w', hd, h1, h2⟩⟩, fun j hj => by omega, hJ, ?_, hos, by omega, ?_, ?_⟩
    · simp only [Nat.add_zero]
      rw [← hl]
      exact h
    · simp only [Nat.add_zero]
      exact .inl hl.symm
    · simp only [Nat.add_zero]
      rw [← hl]
      exact fun h => ⟨h, fun q hq => by omega⟩
  | o :: r, i, s, os, hl, h, hos, hJ => by
    have ho : ops[i]? = some o := by
      have : (ops.drop i)[0]? = some o := by rw [← hl]; rfl
      simpa using this
    have hlt : i < ops.length := (List.getElem?_eq_some_iff.1 ho).1
    have hr : r = ops.drop (i + 1) := by
      have := congrArg (List.drop 1) hl
      simpa using this
    cases hb : isBar o.op with
    | true =>
      refine ⟨0, fun _ => default, fun _ => s, fun _ => ⟨[], .plain .top, []⟩, os, rfl, ⟨fun j hj => by omega, fun j hj => by omega, fun j hj => by omega, fun j hj => by omega, fun t d w x _ j hj => by omega, fun t d w x hx => by obtain ⟨j, ⟨_, hd⟩, q, oq, w', h1, h2⟩ := hJ t d w x hx; exact ⟨j, q, oq, w', hd, h1, h2⟩⟩, fun j hj => by omega, hJ, ?_, hos, by omega, ?_, ?_⟩
      · simp only [Nat.add_zero]
        rw [← hl]
        exact h
      · simp only [Nat.add_zero]
        exact .inr ⟨o, r, hl.symm, hb⟩
      · simp only [Nat.add_zero]
        rw [← hl]
        exact fun h => ⟨h, fun q hq => by omega⟩
    | false =>
      unfold runL at h
      rw [hb] at h
      simp only at h
      split at h
      case h_2 => cases h
      rename_i o1 r1 s' hst
      split at h
      case h_2 => cases h
      rename_i o2 sf' hrun
      cases h
      obtain ⟨p1, p2⟩ := AllP.append.1 hos
      have hst0 := hst
      unfold stepD at hst
      split at hst
      case h_2 => cases hst
      rename_i r' hr1
      split at hst
      case h_2 => cases hst
      rename_i s1 hput
      cases hst
      have hJ' : J ops (i + 1) s' := fun t d w x hx => by
        rcases put1_tm hput hx with h | ⟨_, h⟩ | ⟨_, h⟩
        · cases h
        · obtain ⟨j, hj0, hd⟩ := step1_gd hr1 h.symm
          have hj : o.guard = some (j, w) := by
            rcases resO_cases hs i ops s.tm o with e | ⟨e, _⟩
            · rw [e] at hj0; exact hj0
            · rw [e] at hj0; cases hj0
          exact ⟨j, ⟨Nat.lt_succ_of_lt (hdw.gd i o j w ho hj), hd⟩, i, o, w, ho, hj⟩
        · obtain ⟨j, ⟨hj, hd⟩, hg⟩ := hJ t d w x h
          exact ⟨j, ⟨by omega, hd⟩, hg⟩
      obtain ⟨m, op, st, out, os', e0, hseg, hnb, hJm, hrn, hos', hle, hnx, hlate⟩ := runL_seg hdw r (i + 1) s' o2 hr hrun p2 hJ'
      have es : i + 1 + m = i + (m + 1) := by omega
      rw [es] at hJm hrn hle hnx hlate
      refine ⟨m + 1, fun j => match j with | 0 => o | j + 1 => op j, fun j => match j with | 0 => s | j + 1 => st j, fun j => match j with | 0 => r1 | j + 1 => out j, os', rfl, ⟨fun j hj => ?_, fun j hj => ?_, fun j hj => ?_, fun j hj => ?_, fun t d w x hx j hj => ?_, fun t d w x hx => by obtain ⟨j, ⟨_, hd⟩, q, oq, w', h1, h2⟩ := hJ t d w x hx; exact ⟨j, q, oq, w', hd, h1, h2⟩⟩, fun j hj => ?_, hJm, hrn, hos', by omega, hnx, fun hla => ?_⟩
      · cases j with
        | zero => exact ho
        | succ j => have := hseg.at_ j (by omega); rwa [show i + (j + 1) = i + 1 + j by omega]
      · cases j with
        | zero => exact hr1
        | succ j => have := hseg.one j (by omega); rwa [show i + (j + 1) = i + 1 + j by omega]
      · cases j with
        | zero => exact p1
        | succ j => exact hseg.obl j (by omega)
      · cases j with
        | zero => show put1 _ _ _ _ s = some (st 0); rw [e0]; exact hput
        | succ j => exact hseg.put j (by omega)
      · obtain ⟨q, ⟨hq, hd⟩, _⟩ := hJ t d w x hx
        unfold dstAt at hd
        cases hq0 : ops[q]? with
        | none => simp [hq0] at hd
        | some oq =>
          have hd' : oq.dst = some d := by simpa [hq0] using hd
          cases j with
          | zero => exact hdw.dst q i oq o hq0 ho (by omega) d hd'
          | succ j => exact hdw.dst q (i + 1 + j) oq (op j) hq0 (hseg.at_ j (by omega)) (by omega) d hd'
      · cases j with
        | zero => exact hb
        | succ j => exact hnb j (by omega)
      · unfold lateAll at hla
        rw [hb] at hla
        simp only [hst0] at hla
        split at hla
        case h_2 => cases hla
        rename_i e1 e2
        cases e2
        obtain ⟨g1, g2⟩ := hlate hla
        refine ⟨g1, fun q hq hlg => ?_⟩
        cases q with
        | zero =>
          simp only [Nat.add_zero] at hlg
          rw [hlg] at e1
          simpa using e1
        | succ q => (have := g2 q (by omega) (by rwa [show i + 1 + q = i + (q + 1) by omega]); rwa [show i + 1 + q = i + (q + 1) by omega] at this)

theorem noLate_G (h : noLate ops = true) {q : Nat} (hl : lateG ops q = true) : False := by
  by_cases hq : q < ops.length
  · unfold noLate at h
    simp only [List.all_eq_true, List.mem_range, Bool.and_eq_true] at h
    have := (h q hq).1
    rw [hl] at this
    cases this
  · unfold lateG at hl
    rw [List.getElem?_eq_none (by omega)] at hl
    cases hl
/-- How many have not come up. -/
def unl (listed : Array Bool) : Nat → Nat
  | 0 => 0
  | n + 1 => unl listed n + if listed.getD n true then 0 else 1
theorem unl_set {listed : Array Bool} {k : Nat} (hk : listed.getD k true = false) : ∀ n, unl (listed.setIfInBounds k true) n + (if k < n then 1 else 0) = unl listed n
  | 0 => by simp [unl]
  | n + 1 => by
    have hks : k < listed.size := by
      refine Classical.byContradiction fun h => ?_
      simp [Array.getD_eq_getD_getElem?, Array.getElem?_eq_none (Nat.not_lt.1 h)] at hk
    have ih := unl_set hk n
    simp only [unl]
    by_cases e : k = n
    · subst e
      have h1 : (listed.setIfInBounds k true).getD k true = true := by simp [Array.getD_eq_getD_getElem?, hks]
      rw [h1, hk]
      simp only [Nat.lt_irrefl, if_false, Nat.lt_succ_self, if_true, Bool.false_eq_true] at ih ⊢
      omega
    · rw [getD_set_ne true e]
      by_cases h2 : k < n
      · rw [if_pos h2] at ih
        have h3 : k < n + 1 := by omega
        rw [if_pos h3]
        omega
      · rw [if_neg h2] at ih
        have h3 : ¬ k < n + 1 := by omega
        rw [if_neg h3]
        omega
theorem unl_zero {listed : Array Bool} : ∀ n, unl listed n = 0 → ∀ j, j < n → listed.getD j true = true
  | 0, _, j, hj => by omega
  | n + 1, h, j, hj => by
    simp only [unl] at h
    by_cases e : j = n
    · subst e
      cases hc : listed.getD j true with
      | true => rfl
      | false => rw [hc] at h; simp at h
    · exact unl_zero n (by omega) j (by omega)
end
end Go.Ab

set_option linter.unusedSimpArgs false
set_option linter.unusedVariables false
namespace Go.Ab
open Go.RowKit
section
variable {C : Cx} {G : Gl} {ops : List Oper} {hs : List (Nat × Hint)} {φ φ' : Phi} {a : Act} {w w' : World} {s s' sf : St} {Q : Exit → Act → World → Prop} {K : Act → World → Prop} {os : List Prop}

theorem blt_true {a b : Nat} (h : a < b) : Nat.blt a b = true := by
  rw [Nat.blt_eq]
  exact h
theorem blt_false {a b : Nat} (h : b ≤ a) : Nat.blt a b = false := by
  cases hc : Nat.blt a b with
  | false => rfl
  | true =>
    rw [Nat.blt_eq] at hc
    omega
theorem J.le {i k : Nat} (hJ : J ops i s) (h : i ≤ k) (hs : ∀ t d w x, lk s'.tm t = some (.gd d w x) → lk s.tm t = some (.gd d w x)) : J ops k s' := fun t d w x hx => by
  obtain ⟨j, ⟨hj, hd⟩, hg⟩ := hJ t d w x (hs t d w x hx)
  exact ⟨j, ⟨by omega, hd⟩, hg⟩
theorem stepB0_J {i : Nat} {o : Oper} (h : stepB0 C hs i s o = some (os, s')) (hJ : J ops i s) : J ops (i + 1) s' := by
  unfold stepB0 at h
  split at h
  · split at h
    · split at h
      · cases h
        exact hJ.le (by omega) (fun _ _ _ _ h => h)
      · cases h
    · cases h
  · split at h
    case h_2 => cases h
    split at h
    case h_2 => cases h
    split at h
    case h_2 => cases h
    split at h
    case h_2 => cases h
    split at h
    case h_2 => cases h
    rename_i hput
    cases h
    refine hJ.le (by omega) (fun t d w x hx => ?_)
    rcases put1_tm hput hx with h | ⟨_, h⟩ | ⟨_, h⟩
    · cases h
    · cases h
    · rcases lk_killT h with h | ⟨h, _⟩
      · cases h
      · exact h
  · split at h
    case h_2 => cases h
    split at h
    case h_2 => cases h
    split at h
    case h_2 => cases h
    split at h
    case h_2 => cases h
    rename_i hput
    cases h
    refine hJ.le (by omega) (fun t d w x hx => ?_)
    rcases put1_tm hput hx with h | ⟨_, h⟩ | ⟨_, h⟩
    · cases h
    · cases h
    · exact h
  · split at h
    case h_2 => cases h
    split at h
    case h_2 => cases h
    cases h
    exact hJ.le (by omega) (fun t d w x hx => hx)
  · split at h
    case h_2 => cases h
    split at h
    case h_2 => cases h
    cases h
    exact hJ.le (by omega) (fun t d w x hx => hx)
  · split at h
    case h_2 => cases h
    split at h
    case h_2 => cases h
    split at h
    case h_2 => cases h
    split at h
    case h_2 => cases h
    rename_i hput
    cases h
    refine hJ.le (by omega) (fun t d w x hx => ?_)
    rcases put1_tm hput hx with h | ⟨_, h⟩ | ⟨_, h⟩
    · cases h
    · cases h
    · exact h
  · split at h
    case h_2 => cases h
    split at h
    case h_2 => cases h
    split at h
    case h_2 => cases h
    split at h
    case h_2 => cases h
    rename_i hput
    cases h
    refine hJ.le (by omega) (fun t d w x hx => ?_)
    rcases put1_tm hput hx with h | ⟨_, h⟩ | ⟨_, h⟩
    · cases h
    · cases h
    · exact h
  · split at h
    case h_2 => cases h
    split at h
    case h_2 => cases h
    split at h
    case h_2 => cases h
    split at h
    case h_2 => cases h
    rename_i hput
    cases h
    refine hJ.le (by omega) (fun t d w x hx => ?_)
    rcases put1_tm hput hx with h | ⟨_, h⟩ | ⟨_, h⟩
    · cases h
    · cases h
    · rcases lk_killT h with h | ⟨h, _⟩
      · cases h
      · exact h
  · split at h
    case h_2 => cases h
    split at h
    case h_2 => cases h
    rename_i hev
    split at h
    case h_2 => cases h
    rename_i hput
    cases h
    refine hJ.le (by omega) (fun t d w x hx => ?_)
    rcases put1_tm hput hx with h | ⟨_, h⟩ | ⟨_, h⟩
    · cases h
    · cases h
    · rcases evCallO_tm hev h with h | h
      · cases h
      · exact h
  · cases h
theorem stepB_J {i : Nat} {o : Oper} (h : stepB C ops hs i s o = some (os, s')) (hJ : J ops i s) : J ops (i + 1) s' := by
  unfold stepB at h
  split at h
  · refine stepB0_J h (hJ.le (Nat.le_refl _) (fun t d w x hx => ?_))
    have hx : lk (resG ops s o) t = some (.gd d w x) := hx
    unfold resG at hx
    split at hx
    · exact hx
    · split at hx
      · rcases lk_resT hx with h1 | ⟨_, _, _, h1 | h1⟩
        · exact h1
        · cases h1.2
        · cases h1
      · exact hx
  · split at h
    · rename_i hput
      cases h
      refine hJ.le (by omega) (fun t d w x hx => ?_)
      rcases put1_tm hput hx with h | ⟨_, h⟩ | ⟨_, h⟩
      · cases h
      · cases h
      · exact h
    · cases h
  · cases h
def Lf (listed : Array Bool) (j : Nat) : Bool := listed.getD j false
theorem getD_tf {listed : Array Bool} {j : Nat} (h : j < listed.size) : listed.getD j true = listed.getD j false := by
  simp [Array.getD_eq_getD_getElem?, h]

theorem SegI.all {k0 m : Nat} {op : Nat → Oper} {st : Nat → St} {out : Nat → Out1} {S pd : Nat → Prop} (h : Seg C ops hs k0 m op st out) (hdw : Dw ops) (hI : SegI C ops hs k0 pd G m op st out S φ a w) (hS : ∀ i, i < m → S i) (hp : ∀ j, ¬pd j) : Inv C G (st m) φ a w := by
  obtain ⟨tm, _, k2, hInv, _⟩ := hI.end_ h hdw (fun i hi => .inl (hS i hi))
  refine ⟨hInv.size, hInv.defers, fun t x hx => hInv.tm t x (k2 t x (fun j hj => ?_) hx), hInv.hr, hInv.ok, hInv.x, hInv.frm, hInv.own, hInv.fix⟩
  rcases hj with hj | ⟨q, hq, _, hno⟩
  · exact absurd hj (hp j)
  · exact absurd (hS q hq) hno
theorem drawn (hT : TCok C.P C.tc) (hdw : Dw ops) (hQ : ∀ φ' a' w', Inv C G sf φ' a' w' → Q .normal a' w') : ∀ (f : Nat) (i m : Nat) (op : Nat → Oper) (st : Nat → St) (out : Nat → Out1) (S pd : Nat → Prop) (φ : Phi) (a : Act) (w : World) (os : List Prop) (listed : Array Bool),
    Seg C ops hs i m op st out → (∀ j, j < m → isBar (op j).op = false) → J ops (i + m) (st m) → runL C ops hs (i + m) (st m) (ops.drop (i + m)) = some (os, sf) → AllP os → i + m ≤ ops.length →
    (ops.drop (i + m) = [] ∨ ∃ o r, ops.drop (i + m) = o :: r ∧ isBar o.op = true) → (noLate ops = true ∨ lateAll C ops hs (i + m) (st m) (ops.drop (i + m)) = true) → (∀ q, q < m → lateG ops (i + q) = true → (resO hs (i + q) ops (st q).tm (op q)).guard = none) → SegI C ops hs i pd G m op st out S φ a w → listed.size = ops.length → DC ops (Lf listed) →
    (∀ j, j < ops.length → (listed.getD j false = true ↔ ((j < i ∧ ¬pd j) ∨ ∃ q, q < m ∧ j = i + q ∧ S q))) → unl listed ops.length ≤ f → wpAny C.P .any ops.toArray Q f listed a w := by
  intro f
  induction f with
  | zero =>
    intro i m op st out S pd φ a w os listed hseg hnb hJ hrun hos hle hnx hla hlg hI hsz hdc hl hf
    have hall : ∀ j, j < ops.length → listed.getD j false = true := fun j hj => by
      rw [← getD_tf (by omega)]
      exact unl_zero _ (by omega) j hj
    have hS : ∀ q, q < m → S q := fun q hq => by
      rcases (hl (i + q) (by omega)).1 (hall _ (by omega)) with h | ⟨q', _, h2, h3⟩
      · omega
      · have : q = q' := by omega
        exact this ▸ h3
    have hend : ops.length = i + m := by
      refine Classical.byContradiction fun hne => ?_
      rcases (hl (i + m) (by omega)).1 (hall _ (by omega)) with h | ⟨q', h1, h2, _⟩ <;> omega
    refine ⟨?_, ?_⟩
    · refine List.eq_nil_iff_forall_not_mem.2 fun j hj => ?_
      obtain ⟨h1, o, ho, _⟩ := mem_ready.1 hj
      have hlt : j < ops.length := by have := (Array.getElem?_eq_some_iff.1 ho).1; simpa using this
      rw [getD_tf (by omega), hall j hlt] at h1
      cases h1
    · have hd : ops.drop (i + m) = [] := List.drop_eq_nil_of_le (by omega)
      rw [hd] at hrun
      cases hrun
      exact hQ φ a w (hI.all hseg hdw hS (fun j hj => by
        have h0 := (hI.pdk j hj).1
        rcases (hl j (by omega)).1 (hall j (by omega)) with h | ⟨q, _, h2, _⟩
        · exact h.2 hj
        · omega))
  | succ f ih =>
    intro i m op st out S pd φ a w os listed hseg hnb hJ hrun hos hle hnx hla hlg hI hsz hdc hl hf
    have hbef := befs_ok ops
    refine ⟨fun hr => ?_, fun k hk => ?_⟩
    · -- none may come up: all have
      have hall : ∀ j, j < ops.length → listed.getD j false = true := fun j => by
        induction j using Nat.strongRecOn with
        | _ j ihj =>
          intro hj
          refine Classical.byContradiction fun hno => ?_
          have : j ∈ Region.ready .any ops.toArray listed := mem_ready.2 ⟨by rw [getD_tf (by omega)]; simpa using hno, ops[j], by simp [hj], fun e he hb => by
            have := hdw.back j ops[j] (List.getElem?_eq_getElem hj) e he hb
            exact ihj e.on this (by omega)⟩
          rw [hr] at this
          simp at this
      have hS : ∀ q, q < m → S q := fun q hq => by
        rcases (hl (i + q) (by omega)).1 (hall _ (by omega)) with h | ⟨q', _, h2, h3⟩
        · omega
        · have : q = q' := by omega
          exact this ▸ h3
      have hend : ops.length = i + m := by
        refine Classical.byContradiction fun hne => ?_
        rcases (hl (i + m) (by omega)).1 (hall _ (by omega)) with h | ⟨q', h1, h2, _⟩ <;> omega
      have hd : ops.drop (i + m) = [] := List.drop_eq_nil_of_le (by omega)
      rw [hd] at hrun
      cases hrun
      exact hQ φ a w (hI.all hseg hdw hS (fun j hj => by
        have h0 := (hI.pdk j hj).1
        rcases (hl j (by omega)).1 (hall j (by omega)) with h | ⟨q, _, h2, _⟩
        · exact h.2 hj
        · omega))
    · obtain ⟨hk0, o, ho, hpre⟩ := mem_ready.1 hk
      have ho' : ops[k]? = some o := by simpa using ho
      have hklt : k < ops.length := (List.getElem?_eq_some_iff.1 ho').1
      have hkl : listed.getD k false = false := by rw [← getD_tf (by omega)]; exact hk0
      have hkn : ¬((k < i ∧ ¬pd k) ∨ ∃ q, q < m ∧ k = i + q ∧ S q) := fun h => by
        rw [(hl k hklt).2 h] at hkl
        cases hkl
      -- what it waits for has come up
      have hrdy : ∀ j, ((befs ops).getD k 0).testBit j = true → listed.getD j false = true := fun j hj => hbef k j hj (Lf listed) hdc ⟨o, ho', fun e he hb => hpre e he hb⟩
      -- what has come up did not wait for it
      have hnot : ∀ j oj, ops[j]? = some oj → listed.getD j false = true → ((befs ops).getD j 0).testBit k = true → False := fun j oj hj hlj hb => by
        have := hbef j k hb (Lf listed) hdc ⟨oj, hj, fun e he hb' => hdc j oj hlj hj e he hb'⟩
        rw [show Lf listed k = listed.getD k false from rfl, hkl] at this
        cases this
      have hdc' : DC ops (Lf (listed.setIfInBounds k true)) := fun j oj hj hoj e he hb => by
        show (listed.setIfInBounds k true).getD e.on false = true
        by_cases e1 : j = k
        · subst e1
          rw [ho'] at hoj
          cases hoj
          exact getD_set_true (hpre e he hb)
        · have : (listed.setIfInBounds k true).getD j false = true := hj
          rw [getD_set_ne false (Ne.symm e1)] at this
          exact getD_set_true (hdc j oj this hoj e he hb)
      have hunl : unl (listed.setIfInBounds k true) ops.length ≤ f := by
        have := unl_set hk0 ops.length
        rw [if_pos hklt] at this
        omega
      have hkself : (listed.setIfInBounds k true).getD k false = true := by
        have : k < listed.size := by omega
        simp [Array.getD_eq_getD_getElem?, this]
      -- those that wait are not looked at
      have hwait : ∀ j, pd j → listed.getD j false = true → False := fun j hj hlj => by
        have h0 := (hI.pdk j hj).1
        rcases (hl j (by omega)).1 hlj with h | ⟨q, _, h2, _⟩
        · exact h.2 hj
        · omega
      have hlook : ∀ t, t ∈ rs ops o → ∀ j, j < k → listed.getD j false = false → dstAt ops j ≠ some t := fun t ht j hjk hlj hd => by
        unfold dstAt at hd
        cases hoj : ops[j]? with
        | none => simp [hoj] at hd
        | some oj =>
          have hd' : oj.dst = some t := by simpa [hoj] using hd
          have hor := hdw.rd k j o oj ho' hoj (by omega) t hd' ht
          unfold ordered at hor
          rw [blt_true hjk] at hor
          simp only [if_true] at hor
          rw [hrdy j hor] at hlj
          cases hlj
      by_cases hpk : pd k
      · have hki := (hI.pdk k hpk).1
        obtain ⟨_, of, df, rf, hpf, _⟩ := hI.pdk k hpk
        refine hI.late hT hseg hdw hpk (fun o1 ho1 t ht j hj hd => ?_) Q _ (fun a' w' φ' hI' => ?_)
        · have e1 : o1 = of := by rw [hpf.flt.at_] at ho1; exact (Option.some.inj ho1).symm
          subst e1
          have e2 : o1 = o := by rw [ho'] at ho1; exact (Option.some.inj ho1).symm
          subst e2
          rcases Nat.lt_trichotomy j k with h1 | h1 | h1
          · refine hlook t ht j h1 ?_ hd
            cases hc : listed.getD j false with
            | false => rfl
            | true => exact (hwait j hj hc).elim
          · subst h1
            unfold dstAt at hd
            rw [ho'] at hd
            exact hdw.self j o1 t ho' hd ht
          · unfold dstAt at hd
            cases hoj : ops[j]? with
            | none => simp [hoj] at hd
            | some oj =>
              have hd' : oj.dst = some t := by simpa [hoj] using hd
              exact hpf.flt.last j oj h1 hoj t ht hd'
        · refine ih i m op st out S _ φ' a' w' os _ hseg hnb hJ hrun hos hle hnx hla hlg hI' (by simp [hsz]) hdc' (fun j hj => ?_) hunl
          by_cases e1 : j = k
          · subst e1
            exact ⟨fun _ => .inl ⟨hki, fun h => h.2 rfl⟩, fun _ => hkself⟩
          · rw [getD_set_ne false (Ne.symm e1), hl j hj]
            constructor
            · rintro (⟨h1, h2⟩ | h)
              · exact .inl ⟨h1, fun h3 => h2 h3.1⟩
              · exact .inr h
            · rintro (⟨h1, h2⟩ | h)
              · exact .inl ⟨h1, fun h3 => h2 ⟨h3, e1⟩⟩
              · exact .inr h
      have hpd0 : ∀ j, pd j → listed.getD j false = false := fun j hj => by
        cases hc : listed.getD j false with
        | false => rfl
        | true => exact (hwait j hj hc).elim
      by_cases hin : ∃ q, q < m ∧ k = i + q
      · obtain ⟨q, hq, rfl⟩ := hin
        have hSq : ¬S q := fun h => hkn (.inr ⟨q, hq, rfl, h⟩)
        have hoq : op q = o := by have := hseg.at_ q hq; rw [ho'] at this; cases this; rfl
        refine hI.step hT hseg hdw hq hSq (fun j g w' hj hSj hg p hp hgp => ?_) (fun t ht j hj hd => ?_) (fun t ht j hj => hlook t (hoq ▸ ht) j (by have := (hI.pdk j hj).1; omega) (hpd0 j hj)) Q _ (fun a' w' φ' hI' => ?_)
        · -- a guard of one that has come up has come up
          have hlj : listed.getD (i + j) false = true := (hl _ (by omega)).2 (.inr ⟨j, hj, rfl, hSj⟩)
          have hjo := hseg.at_ j hj
          have hgj := hdw.gd (i + j) (op j) g w' hjo hg
          have hpo := hseg.at_ p hp
          -- its slot is looked at
          have hrs : ∀ d, (op p).dst = some d → d ∈ rs ops (op j) := fun d hd => by
            unfold rs
            refine List.mem_append.2 (.inr ?_)
            simp only [hg]
            subst hgp
            unfold gch
            simp only [hpo, hd]
            simp
          cases hd : (op p).dst with
          | none =>
            exfalso
            have h1 := hseg.one j hj
            have hres : resO hs (i + j) ops (st j).tm (op j) = op j := by
              rcases resO_cases hs (i + j) ops (st j).tm (op j) with e | ⟨_, j', w', d', g1, g2, _⟩
              · exact e
              · rw [hg] at g1
                cases g1
                unfold dstAt at g2
                rw [hgp, hpo] at g2
                simp [hd] at g2
            rw [hres] at h1
            unfold step1 at h1
            rw [hg] at h1
            simp only [hgp, hpo, Option.bind_some, hd] at h1
            cases h1
          | some d =>
            have hor := hdw.rd (i + j) (i + p) (op j) (op p) hjo hpo (by omega) d hd (hrs d hd)
            unfold ordered at hor
            have hlt : Nat.blt (i + p) (i + j) = true := blt_true (by omega)
            rw [hlt] at hor
            simp only [if_true] at hor
            have := hbef (i + j) (i + p) hor (Lf listed) hdc ⟨_, hjo, fun e he hb' => hdc (i + j) _ hlj hjo e he hb'⟩
            rcases (hl (i + p) (by omega)).1 this with h | ⟨p', _, h2, h3⟩
            · omega
            · have : p = p' := by omega
              exact this ▸ h3
        · rw [hoq] at ht
          have hjo := hseg.at_ j hj
          by_cases hjq : j = q
          · subst hjq
            rw [hoq] at hd
            exact absurd ht (hdw.self (i + j) o t ho' hd)
          · have hor := hdw.rd (i + q) (i + j) o (op j) ho' hjo (by omega) t hd ht
            unfold ordered at hor
            refine ⟨fun hlt => ?_, fun hlt hSj => ?_, hjq⟩
            · have hb : Nat.blt (i + j) (i + q) = true := blt_true (by omega)
              rw [hb] at hor
              simp only [if_true] at hor
              rcases (hl (i + j) (by omega)).1 (hrdy _ hor) with h | ⟨p', _, h2, h3⟩
              · omega
              · have : j = p' := by omega
                exact this ▸ h3
            · have hb : Nat.blt (i + j) (i + q) = false := blt_false (by omega)
              rw [hb] at hor
              simp only [Bool.false_eq_true, if_false] at hor
              exact hnot (i + j) _ hjo ((hl _ (by omega)).2 (.inr ⟨j, hj, rfl, hSj⟩)) hor
        · refine ih i m op st out _ pd φ' a' w' os _ hseg hnb hJ hrun hos hle hnx hla hlg hI' (by simp [hsz]) hdc' (fun j hj => ?_) hunl
          by_cases e1 : j = i + q
          · subst e1
            exact ⟨fun _ => .inr ⟨q, hq, rfl, .inr rfl⟩, fun _ => hkself⟩
          · rw [getD_set_ne false (Ne.symm e1), hl j hj]
            constructor
            · rintro (h | ⟨p, h1, h2, h3⟩)
              · exact .inl h
              · exact .inr ⟨p, h1, h2, .inl h3⟩
            · rintro (h | ⟨p, h1, h2, h3 | h3⟩)
              · exact .inl h
              · exact .inr ⟨p, h1, h2, h3⟩
              · subst h3
                exact absurd h2 e1
      · -- the next one that writes
        have hkge : i + m ≤ k := by
          refine Classical.byContradiction fun hc => ?_
          by_cases h1 : k < i
          · exact hkn (.inl ⟨h1, hpk⟩)
          · exact hin ⟨k - i, by omega, by omega⟩
        rcases hnx with hnil | ⟨ob, rb, hcons, hbar⟩
        · have : ops.length ≤ i + m := by
            have := congrArg List.length hnil
            simp at this
            omega
          omega
        · have hob : ops[i + m]? = some ob := by
            have : (ops.drop (i + m))[0]? = some ob := by rw [hcons]; rfl
            simpa using this
          have hke : k = i + m := by
            refine Classical.byContradiction fun hne => ?_
            rcases hdw.bar (i + m) k ob hob hklt (by omega) hbar with hor | ⟨_, h1, _⟩
            · unfold ordered at hor
              have hb : Nat.blt k (i + m) = false := blt_false (by omega)
              rw [hb] at hor
              simp only [Bool.false_eq_true, if_false] at hor
              rcases (hl (i + m) (by omega)).1 (hrdy _ hor) with h | ⟨p', h1, h2, _⟩
              · have := h.1
                omega
              · omega
            · omega
          subst hke
          have hoe : ob = o := by
            rw [hob] at ho'
            exact Option.some.inj ho'
          subst hoe
          have hS : ∀ q, q < m → S q ∨ (¬S q ∧ floats ops (i + q) = true ∧ (resO hs (i + q) ops (st q).tm (op q)).guard = none) := fun q hq => by
            by_cases hSq : S q
            · exact .inl hSq
            · rcases hdw.bar (i + m) (i + q) ob hob (by omega) (by omega) hbar with hor | ⟨_, _, h1⟩
              · exfalso
                unfold ordered at hor
                have hb : Nat.blt (i + q) (i + m) = true := blt_true (by omega)
                rw [hb] at hor
                simp only [if_true] at hor
                rcases (hl (i + q) (by omega)).1 (hrdy _ hor) with h | ⟨p', _, h2, h3⟩
                · have := h.1
                  omega
                · have : q = p' := by omega
                  exact hSq (this ▸ h3)
              · refine .inr ⟨hSq, h1, ?_⟩
                cases hgq : (op q).guard with
                | none =>
                  rcases resO_cases hs (i + q) ops (st q).tm (op q) with e | ⟨e, _⟩
                  · rw [e]; exact hgq
                  · rw [e]
                | some pr =>
                  refine hlg q hq (lateG_true (hseg.at_ q hq) (fun h => by rw [hgq] at h; cases h) h1 (by omega : i + q < i + m) hob hbar ?_)
                  cases hc : ordered (befs ops) (i + q) (i + m) with
                  | false => rfl
                  | true =>
                    exfalso
                    unfold ordered at hc
                    rw [blt_true (by omega : i + q < i + m)] at hc
                    simp only [if_true] at hc
                    rcases (hl (i + q) (by omega)).1 (hrdy _ hc) with h | ⟨p', _, h2, h3⟩
                    · have := h.1
                      omega
                    · have : q = p' := by omega
                      exact hSq (this ▸ h3)
          obtain ⟨tm, k1, k2, hInv, hpd'⟩ := hI.end_ hseg hdw hS
          rw [hcons] at hrun
          unfold runL at hrun
          rw [hbar] at hrun
          simp only at hrun
          split at hrun
          case h_2 => cases hrun
          rename_i o1 s1 hst
          split at hrun
          case h_2 => cases hrun
          rename_i o2 sf' hrn
          cases hrun
          obtain ⟨p1, p2⟩ := AllP.append.1 hos
          have hrb : rb = ops.drop (i + m + 1) := by
            have := congrArg (List.drop 1) hcons
            simpa using this.symm
          have hJ1 : J ops (i + m + 1) s1 := stepB_J hst hJ
          obtain ⟨m2, op2, st2, out2, os2, e0, hseg2, hnb2, hJ2, hrn2, hos2, hle2, hnx2, hlate2⟩ := runL_seg hdw rb (i + m + 1) s1 o2 hrb hrn p2 hJ1
          have hla2 : noLate ops = true ∨ lateAll C ops hs (i + m + 1) s1 rb = true := by
            rcases hla with h | h
            · exact .inl h
            · rw [hcons] at h
              unfold lateAll at h
              rw [hbar] at h
              simp only [hst] at h
              split at h
              · rename_i e1 e2
                cases e2
                exact .inr h
              · cases h
          have hla3 : noLate ops = true ∨ lateAll C ops hs (i + m + 1 + m2) (st2 m2) (ops.drop (i + m + 1 + m2)) = true := hla2.imp id (fun h => (hlate2 h).1)
          have hlg3 : ∀ q, q < m2 → lateG ops (i + m + 1 + q) = true → (resO hs (i + m + 1 + q) ops (st2 q).tm (op2 q)).guard = none := fun q hq hlgq => by
            rcases hla2 with h | h
            · unfold noLate at h
              simp only [List.all_eq_true, List.mem_range, Bool.and_eq_true] at h
              have := (h (i + m + 1 + q) (by omega)).1
              rw [hlgq] at this
              cases this
            · exact (hlate2 h).2 q hq hlgq
          by_cases hsto : isFl ob = true
          case neg =>
            have hstrict : ∀ k, k < i + m → listed.getD k false = true := fun k hk => by
              rcases hdw.bar (i + m) k ob hob (by omega) (by omega) hbar with hor | ⟨h1, _⟩
              · unfold ordered at hor
                rw [blt_true hk] at hor
                simp only [if_true] at hor
                exact hrdy _ hor
              · exact absurd h1 hsto
            have hpd1 : ∀ j, ¬pd j := fun j hj => by
              have h0 := (hI.pdk j hj).1
              have := hpd0 j hj
              rw [hstrict j (by omega)] at this
              cases this
            have hS1 : ∀ q, q < m → S q := fun q hq => by
              rcases (hl (i + q) (by omega)).1 (hstrict _ (by omega)) with h | ⟨p', _, h2, h3⟩
              · have := h.1
                omega
              · have : q = p' := by omega
                exact this ▸ h3
            refine stepB_ok hT (hI.all hseg hdw hS1 hpd1) hob hst p1 (fun a' w' φ' hI' => ?_)
            refine ih (i + m + 1) m2 op2 st2 out2 (fun _ => False) (fun _ => False) φ' a' w' os2 _ hseg2 hnb2 hJ2 hrn2 hos2 (by omega) hnx2 hla3 hlg3 (SegI.start (tm := s1.tm) hseg2 (by rw [e0]; exact hI') (fun t hn x hx => by rw [e0] at hx; exact hx) (fun j hj => hj.elim)) (by simp [hsz]) hdc' (fun j hj => ?_) hunl
            by_cases e1 : j = i + m
            · subst e1
              exact ⟨fun _ => .inl ⟨by omega, fun h => h⟩, fun _ => hkself⟩
            · rw [getD_set_ne false (Ne.symm e1), hl j hj]
              constructor
              · rintro (⟨h1, h2⟩ | ⟨p, h1, h2, h3⟩)
                · exact .inl ⟨by omega, fun h => h⟩
                · exact .inl ⟨by omega, fun h => h⟩
              · rintro (⟨h1, h2⟩ | ⟨p, h1, h2, h3⟩)
                · by_cases h4 : j < i
                  · exact .inl ⟨h4, hpd1 j⟩
                  · exact .inr ⟨j - i, by omega, by omega, hS1 _ (by omega)⟩
                · exact h3.elim
          have hnl : ∀ j, (pd j ∨ ∃ q, q < m ∧ j = i + q ∧ ¬S q) → listed.getD j false = false := fun j hj => by
            rcases hj with hj | ⟨q, hq, rfl, hno⟩
            · exact hpd0 j hj
            · cases hc : listed.getD (i + q) false with
              | false => rfl
              | true =>
                rcases (hl (i + q) (by omega)).1 hc with h | ⟨p', _, h2, h3⟩
                · have := h.1
                  omega
                · have : q = p' := by omega
                  exact absurd (this ▸ h3) hno
          have heq : ∀ t, (∀ j, (pd j ∨ ∃ q, q < m ∧ j = i + q ∧ ¬S q) → dstAt ops j ≠ some t) → lk (st m).tm t = lk tm t := fun t hn => by
            cases h1 : lk (st m).tm t with
            | some y => exact (k2 t y hn h1).symm
            | none =>
              cases h2 : lk tm t with
              | none => rfl
              | some y =>
                have := (k1 t y h2).2
                rw [h1] at this
                cases this
          obtain ⟨tm', hst', hpt⟩ := stepB_fl (ops := ops) (tm := tm) hsto hst (fun t ht => (heq t (fun j hj => hlook t ht j (hpd' j hj).1 (hnl j hj))).symm)
          refine stepB_fl_ok hT hInv hob hsto hst' p1 (fun a' w' φ' hI' hnn => ?_)
          refine ih (i + m + 1) m2 op2 st2 out2 (fun _ => False) (fun j => pd j ∨ ∃ q, q < m ∧ j = i + q ∧ ¬S q) φ' a' w' os2 _ hseg2 hnb2 hJ2 hrn2 hos2 (by omega) hnx2 hla3 hlg3 (SegI.start (tm := tm') hseg2 (by rw [e0]; exact hI') (fun t hn x hx => ?_) (fun j hj => ?_)) (by simp [hsz]) hdc' (fun j hj => ?_) hunl
          · rw [e0] at hx
            have e2 : lk (st m).tm t = lk tm t := heq t hn
            rw [← hpt t e2]
            exact hx
          · obtain ⟨h1, o3, d3, r3, hp3, hz3⟩ := hpd' j hj
            have hjn := hnl j hj
            have hnor : ordered (befs ops) j (i + m) = false := by
              cases hc : ordered (befs ops) j (i + m) with
              | false => rfl
              | true =>
                exfalso
                unfold ordered at hc
                rw [blt_true h1] at hc
                simp only [if_true] at hc
                rw [hrdy _ hc] at hjn
                cases hjn
            have hfl : floats ops j = true := by
              rcases hdw.bar (i + m) j ob hob (by omega) (by omega) hbar with hor | ⟨_, _, h⟩
              · rw [hnor] at hor
                cases hor
              · exact h
            rw [e0]
            have hlok : noLate ops = true ∨ lateOk ops hs (i + m) (st m) ob = true := hla.imp id fun h => by
              rw [hcons] at h
              unfold lateAll at h
              rw [hbar] at h
              simp only at h
              split at h
              · assumption
              · cases h
            refine ⟨by omega, o3, d3, r3, pend_keep hsto hob hst hbar hlok hp3 h1 hnor hfl (fun d hd e => ?_), fun h => hnn _ (hz3 h) (fun hc => pend_cal (s := st m) hc hob hbar hlok hp3 h1 hnor hfl h)⟩
            · subst e
              exact hdw.dst (i + m) j ob o3 hob hp3.flt.at_ (by omega) d hd hp3.flt.dst
          by_cases e1 : j = i + m
          · subst e1
            refine ⟨fun _ => .inl ⟨by omega, fun h => ?_⟩, fun _ => hkself⟩
            rcases h with h | ⟨q, hq, h2, _⟩
            · have := (hI.pdk _ h).1
              omega
            · omega
          · rw [getD_set_ne false (Ne.symm e1), hl j hj]
            constructor
            · rintro (⟨h1, h2⟩ | ⟨p, h1, h2, h3⟩)
              · refine .inl ⟨by omega, fun h => ?_⟩
                rcases h with h | ⟨q, hq, h4, _⟩
                · exact h2 h
                · omega
              · refine .inl ⟨by omega, fun h => ?_⟩
                rcases h with h | ⟨q, hq, h4, h5⟩
                · have := (hI.pdk _ h).1
                  omega
                · have : q = p := by omega
                  exact h5 (this ▸ h3)
            · rintro (⟨h1, h2⟩ | ⟨p, h1, h2, h3⟩)
              · by_cases h4 : j < i
                · exact .inl ⟨h4, fun h => h2 (.inl h)⟩
                · exact .inr ⟨j - i, by omega, by omega, Classical.byContradiction fun hc => h2 (.inr ⟨j - i, by omega, by omega, hc⟩)⟩
              · exact h3.elim
end
end Go.Ab

set_option linter.unusedSimpArgs false
set_option linter.unusedVariables false
namespace Go.Ab
open Go.RowKit

theorem Inv.drew {C : Cx} {G : Gl} {s : St} {φ : Phi} {a : Act} {w : World} (hI : Inv C G s φ a w) : Inv C G s φ a { w with drawn := w.drawn + 1 } := by
  have im : ∀ b, Imm φ G.X w b → Imm φ G.X { w with drawn := w.drawn + 1 } b ∧ ({ w with drawn := w.drawn + 1 } : World).heap[b]? = w.heap[b]? := fun b h => ⟨h, rfl⟩
  refine ⟨hI.size, hI.defers, fun t x hx => ?_, fun i blk hl => ?_, ⟨hI.ok.inj, hI.ok.lt, hI.ok.free, hI.ok.dom⟩, hI.x, ⟨hI.frm.os, hI.frm.tape, hI.frm.output, hI.frm.size, hI.frm.block⟩, hI.own, hI.fix⟩
  · have := hI.tm t x hx
    cases x with
    | plain y => exact Rel.mono im this _ (fun _ _ _ h => h) (fun _ h => h)
    | gd d want y => exact ⟨fun e => (this.1 e).mono im _ (fun _ _ _ h => h) (fun _ h => h), this.2⟩
  · exact (hI.hr i blk hl).mono im (fun _ _ _ => rfl) (fun _ _ _ h => h) (fun _ h => h)

/-! ### In any round -/
/-- The wide fence, in a round or in none. -/
def FW (rd : Option Nat) : Fence := { Fence.wide with round := rd }
theorem callsIn_fw {rd : Option Nat} {n : Nat} {P : Program} {f : FuncId} {args : Array Value} {w : World} {R : Ending → World → Prop} (h : Calls P f args w R) : CallsIn (FW rd) n P f args w R := by
  cases rd with
  | none => exact callsIn_wide.2 h
  | some l => exact CallsIn.inRound (F := Fence.wide) l (callsIn_wide.2 h)
theorem rowsIn_fw {rd : Option Nat} {n : Nat} {P : Program} {row : String} {args : Array Value} {w : World} {R : Value → World → Prop} (h : Rows P row args w R) : RowsIn (FW rd) n P row args w R := fun c cs _ => by
  obtain ⟨v, w', r, s⟩ := h c cs
  have : Machine.fenced P (FW rd) = Machine.fenced P Fence.wide := by
    cases rd with
    | none => rfl
    | some l => exact fenced_inRound P Fence.wide l
  rw [this]
  exact ⟨v, w', r, stepsIn_wide.2 s⟩
section
variable {P : Program} {Q : Exit → Act → World → Prop} {K K' : Act → World → Prop} {a : Act} {w : World} {o : Oper} {ops : Array Oper} {ds : List Deferred} {rd : Option Nat} {n : Nat}
theorem put_defers (a : Act) (d : Option Tmp) (u : Value) : (a.put d u).defers = a.defers := by cases d <;> rfl
/-- Nothing takes a mark away. -/
theorem op_len {N : Nat} (hQ : ∀ e a w, Q e a w → e = .normal) (hK : ∀ a w, K a w → a.defers.length ≤ N) (h : o.wp P a w K Q) : a.defers.length ≤ N := by
  have nq : ∀ {e a w}, e ≠ .normal → Q e a w → False := fun hn hq => hn (hQ _ _ _ hq)
  unfold Oper.wp Oper.upon at h
  split at h
  · have := hK _ _ h; rwa [put_defers] at this
  · have := hK _ _ h; rwa [put_defers] at this
  · have := hK _ _ h
    rw [put_defers] at this
    simp only [List.length_cons] at this
    omega
  · obtain ⟨e, w', fr, r, _⟩ := h []
    cases e with
    | returned v => have := hK _ _ r; rwa [put_defers] at this
    | panicked c => exact (nq (by simp) r).elim
    | outgrown => obtain ⟨_, _, hq⟩ := r; exact (nq (by simp) hq).elim
  · obtain ⟨v, w', r, _⟩ := h default []
    have := hK _ _ r
    rwa [put_defers] at this
  · exact (nq (by simp) h).elim
  · exact h.elim
theorem wpOp_len {N i : Nat} (hQ : ∀ e a w, Q e a w → e = .normal) (hK : ∀ a w, K a w → a.defers.length ≤ N) (h : wpOp P ops Q i K a w) : a.defers.length ≤ N := by
  unfold wpOp at h
  split at h
  · exact hK _ _ h
  · split at h
    · rcases h with h | ⟨_, _, _, h⟩
      · exact op_len hQ hK h
      · have := hQ _ _ _ h; cases this
    · have := hK _ _ h; rwa [put_defers] at this
theorem wpOps_len {N : Nat} (hQ : ∀ e a w, Q e a w → e = .normal ∧ a.defers.length ≤ N) : ∀ (l : List Nat) (a : Act) (w : World), wpOps P ops Q l a w → a.defers.length ≤ N
  | [], a, w, h => (hQ _ _ _ h).2
  | i :: r, a, w, h => by
    rw [wpOps_cons] at h
    exact wpOp_len (fun e a w h => (hQ e a w h).1) (wpOps_len hQ r) h
theorem wpAny_len {N : Nat} {md : Region.Mode} (hQ : ∀ e a w, Q e a w → e = .normal ∧ a.defers.length ≤ N) : ∀ (f : Nat) (l : Array Bool) (a : Act) (w : World), wpAny P md ops Q f l a w → a.defers.length ≤ N
  | 0, l, a, w, h => (hQ _ _ _ h.2).2
  | f + 1, l, a, w, h => by
    obtain ⟨h1, h2⟩ := h
    cases hr : Region.ready md ops l with
    | nil => exact (hQ _ _ _ (h1 hr)).2
    | cons i r => exact wpOp_len (fun e a w h => (hQ e a w h).1) (wpAny_len hQ f _) (h2 i (by rw [hr]; simp))
theorem op_in (hQ : ∀ e a w, Q e a w → e = .normal) (hN : ∀ a w, K a w → a.defers.length ≤ ds.length) (ha : a.defers = ds) (hK : ∀ a w, a.defers = ds → K a w → K' a w) (h : o.wp P a w K Q) : o.wpIn (FW rd) n P a w K' Q := by
  have nq : ∀ {e a w}, e ≠ .normal → Q e a w → False := fun hn hq => hn (hQ _ _ _ hq)
  refine ⟨fun _ _ => trivial, ?_⟩
  have hdep : (FW rd).depth.isSome = true → 1 ≤ n := fun h => by cases h
  have hnd : ∀ c, o.op ≠ .defer c := fun c hc => by
    have h1 := h
    unfold Oper.wp at h1
    simp only [execOp, hc, Sem.run_bind] at h1
    cases hr : Sem.run P (resolve a.eval c o.type) w with
    | halt r w' =>
      rw [hr] at h1
      simp only [Result.andThen, Oper.upon] at h1
      split at h1
      all_goals first | exact (nq (by simp) h1).elim | exact h1.elim | simp_all
    | ok d w' =>
      rw [hr] at h1
      simp only [Result.andThen, Sem.run_pure, Oper.upon] at h1
      have := hN _ _ h1
      rw [put_defers, ha] at this
      simp only [List.length_cons] at this
      omega
  rw [Oper.semAt_eq _ _ _ hnd]
  unfold Oper.wp Oper.upon at h
  unfold Oper.uponIn
  generalize Sem.run P (execOp a.eval o) w = r at h ⊢
  split at h
  · exact hK _ _ (by rw [put_defers, ha]) h
  · exact hK _ _ (by rw [put_defers, ha]) h
  · have := hN _ _ h
    rw [put_defers, ha] at this
    simp only [List.length_cons] at this
    omega
  · refine ⟨hdep, callsIn_fw (h.mono fun e w' r => ?_)⟩
    cases e with
    | returned v => exact hK _ _ (by rw [put_defers, ha]) r
    | panicked c => exact r
    | outgrown => exact r
  · exact ⟨hdep, rowsIn_fw (h.mono fun v w' r => hK _ _ (by rw [put_defers, ha]) r)⟩
  · exact h
  · exact h.elim
theorem wpOp_in {i : Nat} (hQ : ∀ e a w, Q e a w → e = .normal) (hN : ∀ a w, K a w → a.defers.length ≤ ds.length) (ha : a.defers = ds) (hK : ∀ a w, a.defers = ds → K a w → K' a w) (h : wpOp P ops Q i K a w) : wpOpIn (FW rd) n P ops Q i K' a w := by
  unfold wpOp at h
  unfold wpOpIn
  generalize ops[i]? = x at h ⊢
  cases x with
  | none => exact hK _ _ ha h
  | some o =>
    dsimp only at h ⊢
    split at h
    · rename_i hw
      rw [if_pos hw]
      rcases h with h | ⟨_, _, _, h⟩
      · exact op_in hQ hN ha hK h
      · have := hQ _ _ _ h; cases this
    · rename_i hw
      rw [if_neg hw]
      exact ⟨fun _ _ => trivial, hK _ _ (by rw [put_defers, ha]) h⟩
theorem wpOps_in (hQ : ∀ e a w, Q e a w → e = .normal ∧ a.defers.length ≤ ds.length) : ∀ (l : List Nat) (a : Act) (w : World), a.defers = ds → wpOps P ops Q l a w → wpOpsIn (FW rd) n P ops Q l a w
  | [], a, w, _, h => h
  | i :: r, a, w, ha, h => by
    rw [wpOps_cons] at h
    rw [wpOpsIn_cons]
    exact wpOp_in (fun e a w h => (hQ e a w h).1) (wpOps_len hQ r) ha (wpOps_in hQ r) h
theorem wpAny_in {md : Region.Mode} (hQ : ∀ e a w, Q e a w → e = .normal ∧ a.defers.length ≤ ds.length) : ∀ (f : Nat) (l : Array Bool) (a : Act) (w : World), a.defers = ds → wpAny P md ops Q f l a w → wpAnyIn (FW rd) n P md ops Q f l a w
  | 0, l, a, w, _, h => h
  | f + 1, l, a, w, ha, h => ⟨h.1, fun i hi => wpOp_in (fun e a w h => (hQ e a w h).1) (wpAny_len hQ f _) ha (wpAny_in hQ f _) (h.2 i hi)⟩
end
/-- Straight code in braces. -/
theorem wpIn_scope_r {F : Fence} {n : Nat} {P : Program} {Q : Exit → Act → World → Prop} {a : Act} {w : World} {c : Code} (h : c.wpIn F n P (Exit.noGoto Q) a w) : (Code.scope c).wpIn F n P Q a w := by
  intro b k cs hro hb hr
  have s1 : step P (lone (b.atR a (.code (.scope c) :: k)) cs w) = .next (lone (b.atR a (.code c :: .inScope c :: k)) cs w) := step_lone_go (by simp [stepG, stepG.exec, Frame.atR])
  have h0 : (lone (b.atR a (.code (.scope c) :: k)) cs w).fenced P F := fenced_calm hb hr rfl
  obtain ⟨e, a₁, w₁, hq, harr⟩ := h b (.inScope c :: k) cs hro hb hr
  cases e with
  | normal => exact ⟨.normal, a₁, w₁, hq, .head h0 s1 (StepsIn.trans harr (.one (fenced_calm hb hr rfl) (step_lone_go (by simp [stepG, stepG.exec, Frame.atR]))))⟩
  | exit id =>
    have hx : exitTo id (.inScope c :: k) = exitTo id k := by simp [exitTo]
    exact ⟨.exit id, a₁, w₁, hq, fun k' hk => .head h0 s1 (harr.1 k' (by rw [hx]; exact hk)), fun hr' hk => let ⟨k₁, h1, h2⟩ := harr.2 hr' (by rw [hx]; exact hk); ⟨k₁, h1, .head h0 s1 h2⟩⟩
  | goto l => exact hq.elim
  | ret => exact ⟨_, a₁, w₁, hq, .of_steps (.one h0 s1) harr⟩
  | panic ch => exact ⟨_, a₁, w₁, hq, .of_steps (.one h0 s1) harr⟩
  | outgrown => exact ⟨_, a₁, w₁, hq, .of_steps (.one h0 s1) harr⟩
/-! ### Code on plain data -/
def markD (D : Nat) : Deferred := { target := .collected D, args := #[] }
/-- What code may add to what is nobody's: the marks of the ranges over functions that it went through. -/
structure GExt (G G' : Gl) : Prop where
  φ0 : G'.φ0 = G.φ0
  w0 : G'.w0 = G.w0
  rd : G'.rd = G.rd
  ds : ∃ Ds : List Nat, G'.ds = Ds.map markD ++ G.ds ∧ (∀ b, G'.X b ↔ G.X b ∨ b ∈ Ds) ∧ Ds.Nodup ∧ ∀ D ∈ Ds, G.w1.heap.size ≤ D ∧ G'.w1.heap[D]? = some (.deferred (some []))
  w1 : G.w1.heap.size ≤ G'.w1.heap.size
  x : ∀ b, G.X b → G'.w1.heap[b]? = G.w1.heap[b]?
theorem GExt.refl (G : Gl) : GExt G G := ⟨rfl, rfl, rfl, ⟨[], rfl, fun b => by simp, by simp, fun D h => by cases h⟩, Nat.le_refl _, fun _ _ => rfl⟩
theorem GExt.trans {G G1 G2 : Gl} (h : GExt G G1) (k : GExt G1 G2) : GExt G G2 := by
  obtain ⟨Ds, d1, d2, d3, d4⟩ := h.ds
  obtain ⟨Es, e1, e2, e3, e4⟩ := k.ds
  have hx : ∀ b, G.X b → G1.X b := fun b hb => (d2 b).2 (.inl hb)
  have hD : ∀ D ∈ Ds, D < G1.w1.heap.size := fun D hD => (Array.getElem?_eq_some_iff.1 (d4 D hD).2).1
  refine ⟨k.φ0.trans h.φ0, k.w0.trans h.w0, k.rd.trans h.rd, ⟨Es ++ Ds, by rw [e1, d1, List.map_append, List.append_assoc], fun b => ?_, ?_, fun D hDm => ?_⟩, Nat.le_trans h.w1 k.w1, fun b hb => (k.x b (hx b hb)).trans (h.x b hb)⟩
  · rw [e2, d2, List.mem_append, or_assoc]
    constructor
    · rintro (h | h | h)
      · exact .inl h
      · exact .inr (.inr h)
      · exact .inr (.inl h)
    · rintro (h | h | h)
      · exact .inl h
      · exact .inr (.inr h)
      · exact .inr (.inl h)
  · refine List.nodup_append.2 ⟨e3, d3, fun a ha b hb e => ?_⟩
    have := (e4 a ha).1
    have := hD b hb
    omega
  · rcases List.mem_append.1 hDm with h1 | h1
    · exact ⟨Nat.le_trans h.w1 (e4 D h1).1, (e4 D h1).2⟩
    · exact ⟨(d4 D h1).1, (k.x D ((d2 D).2 (.inr h1))).trans (d4 D h1).2⟩
/-- Code, read on plain data. -/
structure AWP (C : Cx) (c : Code) (s : St) (K : Exit → St → Prop) : Prop where
  run : ∀ (G : Gl) (φ : Phi) (a : Act) (w : World) (n : Nat), Inv C G s φ a w → c.wpIn (FW G.rd) n C.P (fun e a' w' => ∃ s' φ' G', GExt G G' ∧ K e s' ∧ Inv C G' s' φ' a' w') a w

section
variable {C : Cx} {G : Gl} {c x y : Code} {s s' sf : St} {K K' : Exit → St → Prop} {os : List Prop} {φ : Phi} {a : Act} {w : World} {n : Nat}

theorem wpIn_trans {F : Fence} {P : Program} {G1 G2 : Gl} (hg : GExt G1 G2) (h : c.wpIn F n P (fun e a' w' => ∃ s' φ' G', GExt G2 G' ∧ K e s' ∧ Inv C G' s' φ' a' w') a w) : c.wpIn F n P (fun e a' w' => ∃ s' φ' G', GExt G1 G' ∧ K e s' ∧ Inv C G' s' φ' a' w') a w :=
  wpIn_mono h fun _ _ _ ⟨s', φ', G', h0, h1, h2⟩ => ⟨s', φ', G', hg.trans h0, h1, h2⟩
/-- On, behind what may have added marks. -/
theorem AWP.on (h : AWP C c s K) {G' : Gl} (hg : GExt G G') (hI : Inv C G' s φ a w) : c.wpIn (FW G.rd) n C.P (fun e a' w' => ∃ s' φ' G', GExt G G' ∧ K e s' ∧ Inv C G' s' φ' a' w') a w := by
  have := h.run G' φ a w n hI
  rw [hg.rd] at this
  exact wpIn_trans hg this
theorem AWP.mono (h : AWP C c s K) (hk : ∀ e s, K e s → K' e s) : AWP C c s K' := ⟨fun G φ a w n hI =>
  wpIn_mono (h.run G φ a w n hI) fun _ _ _ ⟨s', φ', G', h0, h1, h2⟩ => ⟨s', φ', G', h0, hk _ _ h1, h2⟩⟩
theorem AWP.skip (h : K .normal s) : AWP C .skip s K := ⟨fun G φ _ _ _ hI => wpIn_skip ⟨s, φ, G, .refl G, h, hI⟩⟩
theorem AWP.label {l : Nat} (h : K .normal s) : AWP C (.label l) s K := ⟨fun G φ _ _ _ hI => wpIn_label ⟨s, φ, G, .refl G, h, hI⟩⟩
theorem AWP.exit {id : Nat} (h : K (.exit id) s) : AWP C (.exit id) s K := ⟨fun G φ _ _ _ hI => wpIn_exit ⟨s, φ, G, .refl G, h, hI⟩⟩
theorem AWP.ret (h : K .ret s) : AWP C .ret s K := ⟨fun G φ _ _ _ hI => wpIn_ret ⟨s, φ, G, .refl G, h, hI⟩⟩
def thenK (C : Cx) (y : Code) (K : Exit → St → Prop) : Exit → St → Prop
  | .normal, s => AWP C y s K
  | e, s => K e s
theorem AWP.seq (h : AWP C x s (thenK C y K)) : AWP C (.seq x y) s K := by
  constructor
  intro G φ a w n hI
  refine wpIn_seq (wpIn_mono (h.run G φ a w n hI) fun e a' w' ⟨s', φ', G', h0, h1, h2⟩ => ?_)
  cases e <;> first | exact (h1 : AWP C y s' K).on h0 h2 | exact ⟨s', φ', G', h0, h1, h2⟩
theorem AWP.cond {o : Operand} {b : Bool} (ho : rdA s.tm [] o = some (.val (.bool b))) (ht : b = true → AWP C x s K) (hf : b = false → AWP C y s K) : AWP C (.cond o x y) s K := by
  constructor
  intro G φ a w n hI
  have h1 := (rdA_ok hI.gok hI.tm0 (fun p hp => by simp at hp) _ _ ho).val_inv
  exact wpIn_cond_split h1 (fun e => (ht e).run G φ a w n hI) (fun e => (hf e).run G φ a w n hI)
theorem AWP.condB {o : Operand} (ho : rdA s.tm [] o = some .bo) (ht : AWP C x s K) (hf : AWP C y s K) : AWP C (.cond o x y) s K := by
  constructor
  intro G φ a w n hI
  obtain ⟨b, h1⟩ : ∃ b, a.eval o = .bool b := by
    have := rdA_ok hI.gok hI.tm0 (fun p hp => by simp at hp) _ _ ho
    generalize a.eval o = u at this
    cases this
    exact ⟨_, rfl⟩
  exact wpIn_cond_split h1 (fun _ => ht.run G φ a w n hI) (fun _ => hf.run G φ a w n hI)
def blockK (id : Nat) (K : Exit → St → Prop) : Exit → St → Prop
  | .exit id', s => if id' = id then K .normal s else K (.exit id') s
  | e, s => K e s
theorem AWP.block {id : Nat} (h : AWP C c s (blockK id K)) : AWP C (.block id c) s K := by
  constructor
  intro G φ a w n hI
  refine wpIn_block (wpIn_mono (h.run G φ a w n hI) fun e a' w' ⟨s', φ', G', h0, h1, h2⟩ => ?_)
  cases e with
  | exit id' =>
    simp only [Exit.inBlock, blockK] at h1 ⊢
    split
    · rename_i e
      rw [if_pos e] at h1
      exact ⟨s', φ', G', h0, h1, h2⟩
    · rename_i e
      rw [if_neg e] at h1
      exact ⟨s', φ', G', h0, h1, h2⟩
  | _ => exact ⟨s', φ', G', h0, h1, h2⟩
def scopeK (K : Exit → St → Prop) : Exit → St → Prop
  | .goto _, _ => False
  | e, s => K e s
theorem AWP.scope (h : AWP C c s (scopeK K)) : AWP C (.scope c) s K := by
  constructor
  intro G φ a w n hI
  refine wpIn_scope_r (wpIn_mono (h.run G φ a w n hI) fun e a' w' ⟨s', φ', G', h0, h1, h2⟩ => ?_)
  cases e <;> first | exact (h1 : False).elim | exact ⟨s', φ', G', h0, h1, h2⟩
/-- A loop: what holds at the head of each round, and what goes down. -/
theorem AWP.loop (I : Nat → St → Prop) (n : Nat) (h0 : I n s) (round : ∀ n s, I n s → AWP C c s (fun e s' => match e with | .normal => ∃ k, k < n ∧ I k s' | e => K e s')) : AWP C (.loop c) s K := by
  constructor
  intro G φ a w N hI
  intro b k cs hro hb hr
  have key : ∀ n s φ a w G1, GExt G G1 → I n s → Inv C G1 s φ a w → ∃ e a' w', (∃ s' φ' G', GExt G G' ∧ K e s' ∧ Inv C G' s' φ' a' w') ∧ ArrivesIn (Machine.fenced C.P (FW G.rd)) C.P (lone (b.atR a (.code c :: .inLoop c :: k)) cs w) b k cs e a' w' := by
    intro n
    induction n using Nat.strongRecOn with
    | _ n ih =>
      intro s φ a w G1 hg hn hI
      obtain ⟨e, a₁, w₁, ⟨s1, φ1, G2, hg1, hq, hI1⟩, harr⟩ := (round n s hn).on (n := N) hg hI b (.inLoop c :: k) cs hro hb hr
      cases e with
      | normal =>
        obtain ⟨j, hj, hIj⟩ := hq
        obtain ⟨e₂, a₂, w₂, hq₂, harr₂⟩ := ih j hj s1 φ1 a₁ w₁ G2 hg1 hIj hI1
        exact ⟨e₂, a₂, w₂, hq₂, .of_steps (StepsIn.trans harr (.one (fenced_calm hb hr rfl) stepR_inLoop)) harr₂⟩
      | exit id => exact ⟨_, a₁, w₁, ⟨s1, φ1, G2, hg1, hq, hI1⟩, .pass (x := .inLoop c) rfl (fun _ _ => .inl (by simp)) harr⟩
      | goto l => exact ⟨_, a₁, w₁, ⟨s1, φ1, G2, hg1, hq, hI1⟩, .pass (x := .inLoop c) rfl (fun _ _ => .inl (by simp)) harr⟩
      | ret => exact ⟨_, a₁, w₁, ⟨s1, φ1, G2, hg1, hq, hI1⟩, .pass (x := .inLoop c) rfl (fun _ _ => .inl (by simp)) harr⟩
      | panic ch => exact ⟨_, a₁, w₁, ⟨s1, φ1, G2, hg1, hq, hI1⟩, .pass (x := .inLoop c) rfl (fun _ _ => .inl (by simp)) harr⟩
      | outgrown => exact ⟨_, a₁, w₁, ⟨s1, φ1, G2, hg1, hq, hI1⟩, .pass (x := .inLoop c) rfl (fun _ _ => .inl (by simp)) harr⟩
  obtain ⟨e, a', w', hq, harr⟩ := key n s φ a w G (.refl G) h0 hI
  exact ⟨e, a', w', hq, .of_steps (.one (fenced_calm hb hr rfl) stepR_loop) harr⟩
/-- How a region ends. -/
def QN (C : Cx) (G : Gl) (K : Exit → St → Prop) (e : Exit) (a : Act) (w : World) : Prop := e = .normal ∧ ∃ s φ, K e s ∧ Inv C G s φ a w
theorem qn_len (e : Exit) (a : Act) (w : World) (h : QN C G K e a w) : e = .normal ∧ a.defers.length ≤ G.ds.length := by
  obtain ⟨he, s, φ, _, hI⟩ := h
  exact ⟨he, by rw [hI.defers]; exact Nat.le_refl _⟩
theorem reg_plain {id : Nat} {ops : Array Oper} (ha : a.defers = G.ds) (h : wpOps C.P ops (QN C G K) (List.range ops.size) a w) :
    (Code.region id ops false).wpIn (FW G.rd) n C.P (fun e a' w' => ∃ s' φ' G', GExt G G' ∧ K e s' ∧ Inv C G' s' φ' a' w') a w :=
  wpIn_mono (wpIn_region (wpOps_in qn_len _ a w ha h)) fun _ _ _ ⟨_, s', φ', h1, h2⟩ => ⟨s', φ', G, .refl G, h1, h2⟩
theorem reg_any (hm : C.P.follows .mixedOrders = true) {id : Nat} {ops : Array Oper} (ha : a.defers = G.ds) (h : wpAny C.P .any ops (QN C G K) ops.size (Array.replicate ops.size false) a { w with drawn := w.drawn + 1 }) :
    (Code.region id ops true).wpIn (FW G.rd) n C.P (fun e a' w' => ∃ s' φ' G', GExt G G' ∧ K e s' ∧ Inv C G' s' φ' a' w') a w :=
  wpIn_mono (wpIn_region_any hm (wpAny_in qn_len _ _ a _ ha h)) fun _ _ _ ⟨_, s', φ', h1, h2⟩ => ⟨s', φ', G, .refl G, h1, h2⟩

/-- A region: reckoned, what is owed paid. -/
theorem AWP.region (hT : TCok C.P C.tc) (hm : C.P.follows .mixedOrders = true) {id : Nat} {ops : List Oper} {draw : Bool} (hs : List (Nat × Hint)) (hr : runR C ops draw hs s = some (os, sf)) (ho : AllP os) (hk : K .normal sf) : AWP C (.region id ops.toArray draw) s K := by
  constructor
  intro G φ a w n hI
  unfold runR at hr
  split at hr
  case h_2 => cases hr
  rename_i hd
  cases draw with
  | false =>
    refine reg_plain hI.defers ?_
    have := runL_seq (Q := QN C G K) hT ops 0 (clSt s) φ a w os (by simp) hr ho hI.cl (fun a' w' φ' hI' => ⟨rfl, sf, φ', hk, hI'⟩)
    rw [show List.range ops.toArray.size = List.range' 0 ops.length by rw [List.range_eq_range']; simp]
    exact this
  | true =>
    have hd : drawOk ops = true ∧ (noLate ops = true ∨ lateAll C ops hs 0 (clSt s) ops = true) := by simpa using hd
    have hdw := drawOk_dw (ops := ops) hd.1
    refine reg_any hm hI.defers ?_
    obtain ⟨m, op, st, out, os', e0, hseg, hnb, hJ, hrn, hos', hle, hnx, hlate⟩ := runL_seg hdw ops 0 (clSt s) os (by simp) hr ho J.cl
    have hcl := hI.cl.drew
    have hsz : (Array.replicate ops.toArray.size false).size = ops.length := by simp
    have hget : ∀ j, (Array.replicate ops.toArray.size false).getD j false = false := fun j => by
      simp only [Array.getD_eq_getD_getElem?, Array.getElem?_replicate]
      split <;> rfl
    refine drawn hT hdw (fun φ' a' w' hI' => ⟨rfl, sf, φ', hk, hI'⟩) ops.toArray.size 0 m op st out (fun _ => False) (fun _ => False) φ a _ os' _ hseg hnb hJ hrn hos' (by simpa using hle) hnx (hd.2.imp (fun h => h) (fun h => (hlate h).1)) (fun q hq hlgq => hd.2.elim (fun h => (noLate_G h (by simpa using hlgq)).elim) (fun h => (hlate h).2 q hq hlgq)) (SegI.start (tm := (st 0).tm) hseg (by rw [e0]; exact hcl) (fun t _ x hx => hx) (fun j hj => hj.elim)) hsz ?_ ?_ ?_
    · intro i o hi
      rw [show Lf (Array.replicate ops.toArray.size false) i = false from hget i] at hi
      cases hi
    · intro j hj
      rw [hget j]
      constructor
      · intro h; cases h
      · rintro (h | ⟨q, _, _, h⟩)
        · have := h.1
          omega
        · exact h.elim
    · have : ∀ (l : Array Bool) n, unl l n ≤ n := fun l n => by
        induction n with
        | zero => simp [unl]
        | succ n ih => simp only [unl]; split <;> omega
      simpa using this _ ops.length

/-- A part of the state is let go. -/
def keepT (l : List Tmp) (s : St) : St := ⟨restr l s.tm, s.H⟩
theorem AWP.keep (l : List Tmp) (h : AWP C c (keepT l s) K) : AWP C c s K := ⟨fun G φ a w n hI =>
  h.run G φ a w n ⟨hI.size, hI.defers, fun t x hx => hI.tm t x (lk_restr hx).2, hI.hr, hI.ok, hI.x, hI.frm, hI.own, hI.fix⟩⟩
end
end Go.Ab

set_option linter.unusedSimpArgs false
set_option linter.unusedVariables false
namespace Go.Ab
open Go.RowKit

def reEdge (σ : List Nat) (e : Edge) : Edge := { e with on := σ.getD e.on 0 }
def reOp (σ : List Nat) (o : Oper) : Oper := { o with after := o.after.map (reEdge σ), guard := o.guard.map fun p => (σ.getD p.1 0, p.2) }
def permOps (π σ : List Nat) (ops : List Oper) : List Oper := π.map fun i => reOp σ (ops.getD i default)
def permOk (π σ : List Nat) (ops : List Oper) : Bool :=
  (Nat.beq π.length ops.length && Nat.beq σ.length ops.length) &&
  ((List.range ops.length).all fun i => (Nat.blt (π.getD i 0) ops.length && Nat.blt (σ.getD i 0) ops.length) && (Nat.beq (π.getD (σ.getD i 0) 0) i && Nat.beq (σ.getD (π.getD i 0) 0) i)) &&
  (ops.all fun o => (o.after.toList.all fun e => Nat.blt e.on ops.length) && (match o.guard with | some (j, _) => Nat.blt j ops.length | none => true))
structure Pm (π σ : List Nat) (ops : List Oper) : Prop where
  lp : π.length = ops.length
  ls : σ.length = ops.length
  pi : ∀ i, i < ops.length → π.getD i 0 < ops.length
  si : ∀ i, i < ops.length → σ.getD i 0 < ops.length
  ps : ∀ i, i < ops.length → π.getD (σ.getD i 0) 0 = i
  sp : ∀ i, i < ops.length → σ.getD (π.getD i 0) 0 = i
  ed : ∀ (i : Nat) (o : Oper), ops[i]? = some o → ∀ e ∈ o.after, e.on < ops.length
  gd : ∀ (i : Nat) (o : Oper) (j : Nat) (w : Bool), ops[i]? = some o → o.guard = some (j, w) → j < ops.length
theorem permOk_pm {π σ : List Nat} {ops : List Oper} (h : permOk π σ ops = true) : Pm π σ ops := by
  unfold permOk at h
  simp only [Bool.and_eq_true, List.all_eq_true, List.mem_range] at h
  obtain ⟨⟨⟨h1, h2⟩, h3⟩, h4⟩ := h
  have b1 := fun i hi => (h3 i hi).1.1
  have b2 := fun i hi => (h3 i hi).1.2
  have b3 := fun i hi => (h3 i hi).2.1
  have b4 := fun i hi => (h3 i hi).2.2
  refine ⟨Nat.eq_of_beq_eq_true h1, Nat.eq_of_beq_eq_true h2, fun i hi => by have := b1 i hi; rwa [Nat.blt_eq] at this, fun i hi => by have := b2 i hi; rwa [Nat.blt_eq] at this, fun i hi => Nat.eq_of_beq_eq_true (b3 i hi), fun i hi => Nat.eq_of_beq_eq_true (b4 i hi), fun i o ho e he => ?_, fun i o j w ho hg => ?_⟩
  · have := (h4 o (List.mem_of_getElem? ho)).1 e (by simpa using he)
    rwa [Nat.blt_eq] at this
  · have := (h4 o (List.mem_of_getElem? ho)).2
    rw [hg] at this
    simpa using this
section
variable {π σ : List Nat} {ops : List Oper}
theorem perm_len (h : Pm π σ ops) : (permOps π σ ops).length = ops.length := by simp [permOps, h.lp]
theorem perm_get (h : Pm π σ ops) {i : Nat} (hi : i < ops.length) : (permOps π σ ops)[σ.getD i 0]? = some (reOp σ ops[i]) := by
  have h1 := h.si i hi
  have h2 := h.ps i hi
  unfold permOps
  have h3 : σ.getD i 0 < π.length := by rw [h.lp]; exact h1
  have h4 : π.getD (σ.getD i 0) 0 = π[σ.getD i 0] := by
    rw [List.getD_eq_getElem?_getD (l := π), List.getElem?_eq_getElem h3]; rfl
  rw [List.getElem?_map, List.getElem?_eq_getElem h3, Option.map_some, ← h4, h2]
  congr 2
  rw [List.getD_eq_getElem?_getD, List.getElem?_eq_getElem hi]; rfl
theorem re_yielded (h : Pm π σ ops) {tmps : Array Value} {j : Nat} (hj : j < ops.length) : yielded (permOps π σ ops).toArray tmps (σ.getD j 0) = yielded ops.toArray tmps j := by
  unfold yielded
  have e1 : (permOps π σ ops).toArray[σ.getD j 0]? = some (reOp σ ops[j]) := by simpa using perm_get h hj
  have e2 : ops.toArray[j]? = some ops[j] := by simp [hj]
  rw [e1, e2]
  rfl
theorem re_wanted (h : Pm π σ ops) {tmps : Array Value} {i : Nat} (hi : i < ops.length) : Region.wanted (reOp σ ops[i]) (yielded (permOps π σ ops).toArray tmps) = Region.wanted ops[i] (yielded ops.toArray tmps) := by
  unfold Region.wanted
  cases hg : ops[i].guard with
  | none => simp [reOp, hg]
  | some p =>
    obtain ⟨j, w⟩ := p
    simp only [reOp, hg, Option.map_some]
    rw [re_yielded h (h.gd i _ j w (List.getElem?_eq_getElem hi) hg)]
theorem re_wp {P : Program} {o : Oper} {a : Act} {w : World} {K : Act → World → Prop} {Q : Exit → Act → World → Prop} : (reOp σ o).wp P a w K Q = o.wp P a w K Q := rfl
theorem re_asks {P : Program} {o : Oper} {a : Act} {w : World} : (reOp σ o).asks P a w = o.asks P a w := rfl
theorem re_wpOp (h : Pm π σ ops) {P : Program} {Q : Exit → Act → World → Prop} {K K' : Act → World → Prop} {a : Act} {w : World} {i : Nat} (hi : i < ops.length) (hK : ∀ a w, K a w → K' a w)
    (hh : wpOp P (permOps π σ ops).toArray Q (σ.getD i 0) K a w) : wpOp P ops.toArray Q i K' a w := by
  refine wpOp_mono hK ?_
  unfold wpOp at hh ⊢
  have e1 : (permOps π σ ops).toArray[σ.getD i 0]? = some (reOp σ ops[i]) := by simpa using perm_get h hi
  have e2 : ops.toArray[i]? = some ops[i] := by simp [hi]
  rw [e1] at hh
  rw [e2]
  simp only [re_wanted h hi, re_wp, re_asks] at hh ⊢
  exact hh
theorem re_any (h : Pm π σ ops) {P : Program} {Q : Exit → Act → World → Prop} : ∀ (f : Nat) (l l' : Array Bool) (a : Act) (w : World), l.size = ops.length → l'.size = ops.length → (∀ i, i < ops.length → l'.getD (σ.getD i 0) false = l.getD i false) →
    wpAny P .any (permOps π σ ops).toArray Q f l' a w → wpAny P .any ops.toArray Q f l a w := by
  have tf : ∀ (l : Array Bool) i, i < l.size → l.getD i true = l.getD i false := fun l i hi => by simp [Array.getD_eq_getD_getElem?, hi]
  have rdy : ∀ (l l' : Array Bool), l.size = ops.length → l'.size = ops.length → (∀ i, i < ops.length → l'.getD (σ.getD i 0) false = l.getD i false) → ∀ i, i < ops.length → (i ∈ Region.ready .any ops.toArray l ↔ σ.getD i 0 ∈ Region.ready .any (permOps π σ ops).toArray l') := by
    intro l l' hl hl' hr i hi
    have e1 : (permOps π σ ops).toArray[σ.getD i 0]? = some (reOp σ ops[i]) := by simpa using perm_get h hi
    have e2 : ops.toArray[i]? = some ops[i] := by simp [hi]
    have hsi := h.si i hi
    rw [mem_ready, mem_ready, e1, e2, tf l i (by omega), tf l' _ (by omega), hr i hi]
    refine and_congr Iff.rfl ?_
    constructor
    · rintro ⟨o, ho, hall⟩
      cases ho
      refine ⟨_, rfl, fun e he hb => ?_⟩
      simp only [reOp, Array.mem_map] at he
      obtain ⟨e0, he0, rfl⟩ := he
      show l'.getD (σ.getD e0.on 0) false = true
      rw [hr _ (h.ed i _ (List.getElem?_eq_getElem hi) e0 he0)]
      exact hall e0 he0 hb
    · rintro ⟨o, ho, hall⟩
      cases ho
      refine ⟨_, rfl, fun e he hb => ?_⟩
      rw [← hr _ (h.ed i _ (List.getElem?_eq_getElem hi) e he)]
      exact hall (reEdge σ e) (by simp only [reOp, Array.mem_map]; exact ⟨e, he, rfl⟩) hb
  have lt : ∀ (l : Array Bool) i, i ∈ Region.ready .any ops.toArray l → i < ops.length := fun l i hi => by
    obtain ⟨_, o, ho, _⟩ := mem_ready.1 hi
    have := (Array.getElem?_eq_some_iff.1 ho).1
    simpa using this
  have lt' : ∀ (l : Array Bool) i, i ∈ Region.ready .any (permOps π σ ops).toArray l → i < ops.length := fun l i hi => by
    obtain ⟨_, o, ho, _⟩ := mem_ready.1 hi
    have := (Array.getElem?_eq_some_iff.1 ho).1
    have h2 := perm_len h
    simp only [List.size_toArray] at this
    omega
  have nil : ∀ (l l' : Array Bool), l.size = ops.length → l'.size = ops.length → (∀ i, i < ops.length → l'.getD (σ.getD i 0) false = l.getD i false) → Region.ready .any ops.toArray l = [] → Region.ready .any (permOps π σ ops).toArray l' = [] := by
    intro l l' hl hl' hr he
    refine List.eq_nil_iff_forall_not_mem.2 fun k hk => ?_
    have hk' := lt' l' k hk
    have := (rdy l l' hl hl' hr (π.getD k 0) (h.pi k hk')).2 (by rw [h.sp k hk']; exact hk)
    rw [he] at this
    cases this
  intro f
  induction f with
  | zero =>
    intro l l' a w hl hl' hr hh
    refine ⟨?_, hh.2⟩
    refine List.eq_nil_iff_forall_not_mem.2 fun k hk => ?_
    have := (rdy l l' hl hl' hr k (lt l k hk)).1 hk
    rw [hh.1] at this
    cases this
  | succ f ih =>
    intro l l' a w hl hl' hr hh
    refine ⟨fun he => hh.1 (nil l l' hl hl' hr he), fun i hi => ?_⟩
    have hlt := lt l i hi
    have h1 := hh.2 _ ((rdy l l' hl hl' hr i hlt).1 hi)
    refine re_wpOp h hlt (fun a w hw => ih _ _ a w (by simp [hl]) (by simp [hl']) (fun j hj => ?_) hw) h1
    by_cases e : i = j
    · subst e
      have := h.si i hlt
      have q1 : (l.setIfInBounds i true).getD i false = true := by simp [Array.getD_eq_getD_getElem?, hl, hlt]
      have q2 : (l'.setIfInBounds (σ.getD i 0) true).getD (σ.getD i 0) false = true := by
        rw [Array.getD_eq_getD_getElem?, Array.getElem?_setIfInBounds_self_of_lt (by omega)]; rfl
      rw [q1, q2]
    · have ne : σ.getD i 0 ≠ σ.getD j 0 := fun e2 => e (by rw [← h.ps i hlt, e2, h.ps j hj])
      rw [getD_set_ne false e, getD_set_ne false ne, hr j hj]
/-- A drawn region, read in another order. -/
theorem AWP.regionP {C : Cx} {K : Exit → St → Prop} {s sf : St} {os : List Prop} (hT : TCok C.P C.tc) (hm : C.P.follows .mixedOrders = true) {id : Nat} (π σ : List Nat) (hp : permOk π σ ops = true) (hs : List (Nat × Hint)) (hr : runR C (permOps π σ ops) true hs s = some (os, sf)) (ho : AllP os) (hk : K .normal sf) : AWP C (.region id ops.toArray true) s K := by
  have h := permOk_pm hp
  constructor
  intro G φ a w n hI
  unfold runR at hr
  split at hr
  case h_2 => cases hr
  rename_i hd
  have hd : drawOk (permOps π σ ops) = true ∧ (noLate (permOps π σ ops) = true ∨ lateAll C (permOps π σ ops) hs 0 (clSt s) (permOps π σ ops) = true) := by simpa using hd
  have hdw := drawOk_dw hd.1
  refine reg_any hm hI.defers ?_
  have hlen := perm_len h
  refine re_any h _ _ (Array.replicate (permOps π σ ops).toArray.size false) _ _ (by simp) (by simp [hlen]) (fun i hi => ?_) ?_
  · have := h.si i hi
    simp [Array.getD_eq_getD_getElem?, Array.getElem?_replicate, hi, hlen]
    split <;> rfl
  · obtain ⟨m, op, st, out, os', e0, hseg, hnb, hJ, hrn, hos', hle, hnx, hlate⟩ := runL_seg hdw (permOps π σ ops) 0 (clSt s) os (by simp) hr ho J.cl
    have hcl := hI.cl.drew
    have hsz : (Array.replicate (permOps π σ ops).toArray.size false).size = (permOps π σ ops).length := by simp
    have hget : ∀ j, (Array.replicate (permOps π σ ops).toArray.size false).getD j false = false := fun j => by
      simp only [Array.getD_eq_getD_getElem?, Array.getElem?_replicate]
      split <;> rfl
    refine drawn hT hdw (fun φ' a' w' hI' => ⟨rfl, sf, φ', hk, hI'⟩) ops.toArray.size 0 m op st out (fun _ => False) (fun _ => False) φ a _ os' _ hseg hnb hJ hrn hos' (by simpa using hle) hnx (hd.2.imp (fun h => h) (fun h => (hlate h).1)) (fun q hq hlgq => hd.2.elim (fun h => (noLate_G h (by simpa using hlgq)).elim) (fun h => (hlate h).2 q hq hlgq)) (SegI.start (tm := (st 0).tm) hseg (by rw [e0]; exact hcl) (fun t _ x hx => hx) (fun j hj => hj.elim)) hsz ?_ ?_ ?_
    · intro i o hi
      rw [show Lf (Array.replicate (permOps π σ ops).toArray.size false) i = false from hget i] at hi
      cases hi
    · intro j hj
      rw [hget j]
      constructor
      · intro h; cases h
      · rintro (h | ⟨q, _, _, h⟩)
        · have := h.1
          omega
        · exact h.elim
    · have : ∀ (l : Array Bool) n, unl l n ≤ n := fun l n => by
        induction n with
        | zero => simp [unl]
        | succ n ih => simp only [unl]; split <;> omega
      have h3 := this (Array.replicate (permOps π σ ops).toArray.size false) (permOps π σ ops).length
      simp only [List.size_toArray] at h3 ⊢
      omega
end
/-! Own numbers, each greater by k. -/
def renT (k : Nat) : T → T
  | .plain x => .plain (ren k x)
  | .gd d w x => .gd d w (ren k x)
def renTm (k : Nat) : List (Nat × T) → List (Nat × T)
  | [] => []
  | (t, x) :: r => (t, renT k x) :: renTm k r
theorem lk_renTm (k : Nat) : ∀ {tm : List (Nat × T)} {t : Nat} {x : T}, lk (renTm k tm) t = some x → ∃ y, lk tm t = some y ∧ x = renT k y
  | [], _, _, h => by cases h
  | (q, y) :: r, t, x, h => by
    simp only [renTm, lk] at h ⊢
    split at h
    · rename_i e
      cases h
      exact ⟨y, by rw [if_pos e], rfl⟩
    · rename_i e
      obtain ⟨z, h1, h2⟩ := lk_renTm k h
      exact ⟨z, by rw [if_neg e]; exact h1, h2⟩
def Phi.sh (k : Nat) (φ : Phi) : Phi := fun i => if i < k then .none else φ (i - k)
theorem Phi.sh_add {k : Nat} {φ : Phi} (i : Nat) : φ.sh k (i + k) = φ i := by
  unfold Phi.sh
  rw [if_neg (by omega), Nat.add_sub_cancel]
theorem Phi.sh_at {k : Nat} {φ : Phi} {i b : Nat} {c : Option Nat} (h : φ.sh k i = .at b c) : φ (i - k) = .at b c ∧ k ≤ i := by
  unfold Phi.sh at h
  split at h
  · cases h
  · exact ⟨h, by omega⟩
def smallH (k : Nat) : List (Nat × Blk) → Bool
  | [] => true
  | (i, _) :: r => Nat.blt (i + k) BIG && smallH k r
theorem smallH_get {k : Nat} : ∀ {H : List (Nat × Blk)} {i : Nat} {b : Blk}, smallH k H = true → lk H i = some b → i + k < BIG
  | [], _, _, _, h => by cases h
  | (j, b') :: r, i, b, hs, h => by
    simp only [smallH, Bool.and_eq_true, Nat.blt_eq] at hs
    simp only [lk, beq_iff_eq] at h
    split at h
    · rename_i e
      subst e
      exact hs.1
    · exact smallH_get hs.2 h
/-- All own numbers grow by k. -/
def shiftS (k : Nat) (s : St) : St := ⟨renTm k s.tm, renH k s.H⟩
theorem Inv.shift {C : Cx} {G : Gl} {s : St} {φ : Phi} {a : Act} {w : World} (hI : Inv C G s φ a w) (k : Nat) (hsm : smallH k s.H = true) : Inv C G (shiftS k s) (φ.sh k) a w := by
  have im : ∀ b, Imm φ G.X w b → Imm (φ.sh k) G.X w b ∧ w.heap[b]? = w.heap[b]? := fun b h => ⟨⟨h.1, fun id c hs => h.2.1 _ c (Phi.sh_at hs).1, h.2.2⟩, rfl⟩
  have hk : ∀ id, φ id ≠ .none → φ.sh k (id + k) = φ id := fun id _ => Phi.sh_add id
  have up : ∀ {x : V} {u : Value}, Rel (Imm φ G.X w) w φ x u → Rel (Imm (φ.sh k) G.X w) w (φ.sh k) (ren k x) u := fun h =>
    Rel.mono im (h.ren (φ.sh k) hk) _ (fun _ _ _ h => h) (fun _ h => h)
  refine ⟨hI.size, hI.defers, fun t x hx => ?_, fun i blk hl => ?_, ⟨fun i j b c c' hi hj => ?_, fun i b c hi => ?_, fun i b c hi => ?_, fun i hi => ?_⟩, hI.x, hI.frm, fun i b c hi => ?_, fun i hb h0 => .inr ?_⟩
  rotate_right
  · show lk (renH k s.H) i = none
    cases hc : lk (renH k s.H) i with
    | none => rfl
    | some b0 =>
      obtain ⟨id, b1, rfl, h1, _⟩ := lk_renH hc
      have := smallH_get hsm h1
      omega
  · obtain ⟨y, hy, rfl⟩ := lk_renTm k hx
    have := hI.tm t y hy
    cases y with
    | plain y => exact up this
    | gd d want y => exact ⟨fun e => up (this.1 e), this.2⟩
  · obtain ⟨id, b0, rfl, h1, rfl⟩ := lk_renH hl
    rw [Phi.sh_add]
    have := (hI.hr id b0 h1).ren (φ.sh k) hk
    refine this.mono im (fun _ _ _ => rfl) (fun _ _ _ h => h) (fun _ h => h)
  · obtain ⟨h1, k1⟩ := Phi.sh_at hi
    obtain ⟨h2, k2⟩ := Phi.sh_at hj
    have := hI.ok.inj _ _ _ _ _ h1 h2
    omega
  · exact hI.ok.lt _ _ _ (Phi.sh_at hi).1
  · exact hI.ok.free _ _ _ (Phi.sh_at hi).1
  · unfold Phi.sh
    split
    · rfl
    · rename_i hge
      refine hI.ok.dom _ ?_
      cases hc : lk s.H (i - k) with
      | none => rfl
      | some b0 =>
        have := lk_renH_of (k := k) hc
        rw [show i - k + k = i by omega] at this
        have e : lk (renH k s.H) i = none := hi
        rw [e] at this
        cases this
  · exact hI.own _ _ _ (Phi.sh_at hi).1
theorem AWP.shift {C : Cx} {c : Code} {s s' : St} {K : Exit → St → Prop} (k : Nat) (hsm : smallH k s.H = true) (hs : shiftS k s = s') (h : AWP C c s' K) : AWP C c s K := ⟨fun G φ a w n hI => h.run G _ a w n (hs ▸ hI.shift k hsm)⟩
end Go.Ab
