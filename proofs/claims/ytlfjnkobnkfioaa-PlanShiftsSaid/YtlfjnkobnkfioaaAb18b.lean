/- A drawn region, its operations read in another order. -/
import Derived.Test.YtlfjnkobnkfioaaAb15d
set_option linter.unusedSimpArgs false
set_option linter.unusedVariables false
namespace Go.Ab
open Go.RowKit

/-! What another block holds of a place that moves is let go. -/
def killV (ok : Nat → Bool) (x : V) : V := match inIds ok x with | true => x | false => .top
def killB (ok : Nat → Bool) (b : Blk) : Blk := if b.flat then b else { b with cells := b.cells.map (killV ok) }
def killHo (skip ok : Nat → Bool) : List (Nat × Blk) → List (Nat × Blk)
  | [] => []
  | (j, b) :: r => (j, if skip j then b else killB ok b) :: killHo skip ok r
theorem lk_killHo {skip ok : Nat → Bool} : ∀ {H : List (Nat × Blk)} (j : Nat), lk (killHo skip ok H) j = (lk H j).map fun b => if skip j then b else killB ok b
  | [], j => rfl
  | (k, b) :: r, j => by
    simp only [killHo, lk, beq_iff_eq]
    split
    · rename_i e
      subst e
      rfl
    · exact lk_killHo j
theorem BlkRel.kill {I : Nat → Prop} {w : World} {φ : Phi} {s : Slot} {b : Blk} (ok : Nat → Bool) (h : BlkRel I w φ s b) : BlkRel I w φ s (killB ok b) := by
  unfold killB
  split
  · exact h
  · refine h.imp (killV ok) b.flat (fun _ _ _ => rfl) (fun x _ u hu => ?_)
    unfold killV
    split
    · exact hu
    · exact .top
theorem Inv.kill {C : Cx} {G : Gl} {s : St} {φ : Phi} {a : Act} {w : World} (hI : Inv C G s φ a w) (skip ok : Nat → Bool) : Inv C G ⟨s.tm, killHo skip ok s.H⟩ φ a w := by
  have hn : ∀ i, lk (killHo skip ok s.H) i = none ↔ lk s.H i = none := fun i => by rw [lk_killHo]; cases lk s.H i <;> simp
  refine ⟨hI.size, hI.defers, hI.tm, fun id blk hl => ?_, ⟨hI.ok.inj, hI.ok.lt, hI.ok.free, fun i hi => hI.ok.dom i ((hn i).1 hi)⟩, hI.x, hI.frm, hI.own, fun i hb h0 => ?_⟩
  · have hl : lk (killHo skip ok s.H) id = some blk := hl
    rw [lk_killHo, Option.map_eq_some_iff] at hl
    obtain ⟨b, hb, rfl⟩ := hl
    split
    · exact hI.hr id b hb
    · exact (hI.hr id b hb).kill ok
  · rcases hI.fix i hb h0 with h | h
    · exact .inl h
    · exact .inr ((hn i).2 h)
def prepA (vx : V) (H : List (Nat × Blk)) : List (Nat × Blk) := match vx with
  | .sl id _ _ => match restIn id H with
    | true => H
    | false => killHo (fun j => Nat.beq j id) (neId id) H
  | _ => H
theorem Inv.prepA {C : Cx} {G : Gl} {s : St} {φ : Phi} {a : Act} {w : World} (hI : Inv C G s φ a w) (vx : V) : Inv C G ⟨s.tm, Ab.prepA vx s.H⟩ φ a w := by
  unfold Ab.prepA
  split
  · split
    · exact hI
    · exact hI.kill _ _
  · exact hI
def prepO (ps : List (Nat × Nat)) (H : List (Nat × Blk)) : List (Nat × Blk) := match othersOk ps (movers H ps) H with
  | true => H
  | false => killHo (okP ps) (notIn (movers H ps)) H
theorem Inv.prepO {C : Cx} {G : Gl} {s : St} {φ : Phi} {a : Act} {w : World} (hI : Inv C G s φ a w) (ps : List (Nat × Nat)) : Inv C G ⟨s.tm, Ab.prepO ps s.H⟩ φ a w := by
  unfold Ab.prepO
  split
  · exact hI
  · exact hI.kill _ _
/-- What is called: a function, what is bound to it, what it captures. -/
def evClo : V → Option (FuncId × List V × List V)
  | .val (.func (.func f) ⟨[]⟩ ⟨[]⟩) => some (f, [], [])
  | .clo (.func f) fs cap => some (f, fs, cap)
  | _ => none
theorem Rels.append {I : Nat → Prop} {w : World} {φ : Phi} : ∀ {xs ys : List V} {us vs : List Value}, Rels I w φ xs us → Rels I w φ ys vs → Rels I w φ (xs ++ ys) (us ++ vs)
  | _, _, _, _, .nil, h => h
  | _, _, _, _, .cons h1 h2, h => .cons h1 (h2.append h)
theorem rels_of {I : Nat → Prop} {w : World} {φ : Phi} : ∀ {xs : List V} {us : List Value}, us.length = xs.length → (∀ i (h : i < xs.length), Rel I w φ xs[i] (us.getD i undef)) → Rels I w φ xs us
  | [], [], _, _ => .nil
  | [], _ :: _, h, _ => by simp at h
  | _ :: _, [], h, _ => by simp at h
  | x :: xs, u :: us, h, hr => .cons (hr 0 (Nat.succ_pos _)) (rels_of (by simpa using h) (fun i hi => hr (i + 1) (Nat.succ_lt_succ hi)))
theorem evClo_ok {I : Nat → Prop} {w : World} {φ : Phi} {g : V} {f : FuncId} {fs cap : List V} {u : Value} (h : evClo g = some (f, fs, cap)) (hr : Rel I w φ g u) : ∃ us vs : Array Value, u = .func (.func f) us vs ∧ Rels I w φ fs us.toList ∧ Rels I w φ cap vs.toList := by
  unfold evClo at h
  split at h
  · cases h
    exact ⟨#[], #[], hr.val_inv, .nil, .nil⟩
  · cases h
    cases hr with
    | clo h1 h2 h3 h4 => exact ⟨_, _, rfl, rels_of (by simpa using h1) h2, rels_of (by simpa using h3) h4⟩
  · cases h
/-- An operation that writes. -/
def stepB0 (C : Cx) (hs : List (Nat × Hint)) (i : Nat) (s : St) (o : Oper) : Option (List Prop × St) :=
  match o.guard, o.dst, o.op with
  | none, none, .store t x y => match rdA s.tm [] x, rdA s.tm [] y with
    | some vx, some vy => match evStoreA C.tc s.H (symOf hs i) t vx vy with
      | some (os, H') => some (os, ⟨s.tm, H'⟩)
      | none => none
    | _, _ => none
  | none, dst, .call { callee := .builtin .append, args := xs, argTypes := ts } => match xs.toList, ts.toList with
    | [x, y], [tx, ty] => match rdA s.tm [] x, rdA s.tm [] y with
      | some vx, some vy => match evAppend C.tc (prepA vx s.H) (symOf hs i) tx ty vx vy with
        | some (os, id, m, blk) => match restIn id (prepA vx s.H) && blkIn (neId id) blk with
          | true => match put1 C.n dst (.plain (.sl id 0 m)) [] ⟨killT id s.tm, ins id blk (prepA vx s.H)⟩ with
            | some s' => some (os, s')
            | none => none
          | false => none
        | none => none
      | _, _ => none
    | _, _ => none
  | none, dst, .call { callee := .builtin .copy, args := xs, argTypes := ts } => match xs.toList, ts.toList with
    | [x, y], [tx, ty] => match rdA s.tm [] x, rdA s.tm [] y with
      | some vx, some vy => match evCopy C.tc s.H (symOf hs i) tx ty vx vy with
        | some (os, H', k) => match put1 C.n dst (.plain (.val (goInt k))) [] ⟨s.tm, H'⟩ with
          | some s' => some (os, s')
          | none => none
        | none => none
      | _, _ => none
    | _, _ => none
  | none, none, .mapUpdate t x k y => match rdA s.tm [] x, rdA s.tm [] k, rdA s.tm [] y with
    | some vx, some vk, some vy => match evMapUpd C.tc s.H (symOf hs i) t vx vk vy with
      | some (os, H') => some (os, ⟨s.tm, H'⟩)
      | none => none
    | _, _, _ => none
  | none, none, .insert t x k y => match rdA s.tm [] x, rdA s.tm [] k, rdA s.tm [] y with
    | some vx, some vk, some vy => match evMapUpd C.tc s.H (symOf hs i) t vx vk vy with
      | some (os, H') => some (os, ⟨s.tm, H'⟩)
      | none => none
    | _, _, _ => none
  | none, dst, .call { callee := .builtin .delete, args := xs, argTypes := ts } => match xs.toList, ts[0]? with
    | [x, k], some t => match rdA s.tm [] x, rdA s.tm [] k with
      | some vx, some vk => match evMapDel C.tc s.H (symOf hs i) t vx vk with
        | some (os, H') => match put1 C.n dst (.plain .top) [] ⟨s.tm, H'⟩ with
          | some s' => some (os, s')
          | none => none
        | none => none
      | _, _ => none
    | _, _ => none
  | none, dst, .call { callee := .builtin .clear, args := xs, argTypes := ts } => match xs.toList, ts[0]? with
    | [x], some t => match rdA s.tm [] x with
      | some vx => match evClear C.tc s.H (symOf hs i) t vx with
        | some (os, H') => match put1 C.n dst (.plain .top) [] ⟨s.tm, H'⟩ with
          | some s' => some (os, s')
          | none => none
        | none => none
      | none => none
    | _, _ => none
  | none, dst, .convert t t' x => match Nat.beq t t', rdA s.tm [] x with
    | true, some (.sl id 0 n) => match evMark C.tc (prepA (.sl id 0 n) s.H) t id n with
      | some (os, blk) => match restIn id (prepA (.sl id 0 n) s.H) with
        | true => match put1 C.n dst (.plain (.vs blk.cells n)) [] ⟨killT id s.tm, ins id blk (prepA (.sl id 0 n) s.H)⟩ with
          | some s' => some (os, s')
          | none => none
        | false => none
      | none => none
    | _, _ => none
  | none, dst, .call { callee := .value y, args := xs, .. } => match crOf hs i, (rdA s.tm [] y).bind evClo, rds (rdA s.tm []) xs.toList with
    | some c, some (f, fs, cap), some vs => match evCallO C.P s.tm (prepO (pairsOf (symOf hs i)) s.H) (dst.getD 0) f (fs ++ (vs ++ cap)) (symOf hs i) c with
      | some (os, s2, v) => match put1 C.n dst (.plain v) [] s2 with
        | some s' => some (os, s')
        | none => none
      | none => none
    | _, _, _ => none
  | _, _, _ => none
/-- Is it wanted? -/
def gdOf (ops : List Oper) (s : St) (o : Oper) : Option Bool :=
  match o.guard with
  | none => some true
  | some (j, w) => match isSto o.op, dstAt ops j with
    | false, some d => match lk s.tm d with
      | some (.plain (.val (.bool b))) => some (b == w)
      | _ => none
    | _, _ => none
/-- What hangs on it, it being so. -/
def resT (d : Nat) (b : Bool) : List (Nat × T) → List (Nat × T)
  | [] => []
  | (t, .gd d' w x) :: r => (t, if Nat.beq d' d then (if w == b then .plain x else .plain .top) else .gd d' w x) :: resT d b r
  | (t, .plain x) :: r => (t, .plain x) :: resT d b r
def resG (ops : List Oper) (s : St) (o : Oper) : List (Nat × T) :=
  match o.guard with
  | none => s.tm
  | some (j, w) => match dstAt ops j with
    | some d => resT d w s.tm
    | none => s.tm
def stepB (C : Cx) (ops : List Oper) (hs : List (Nat × Hint)) (i : Nat) (s : St) (o : Oper) : Option (List Prop × St) :=
  match gdOf ops s o with
  | some true => stepB0 C hs i ⟨resG ops s o, s.H⟩ { o with guard := none }
  | some false => match put1 C.n o.dst (.plain .top) [] s with
    | some s' => some ([], s')
    | none => none
  | none => none
def runL (C : Cx) (ops : List Oper) (hs : List (Nat × Hint)) : Nat → St → List Oper → Option (List Prop × St)
  | _, s, [] => some ([], s)
  | i, s, o :: r => match isBar o.op with
    | true => match stepB C ops hs i s o with
      | some (o1, s') => match runL C ops hs (i + 1) s' r with
        | some (o2, sf) => some (o1 ++ o2, sf)
        | none => none
      | none => none
    | false => match stepD C ops hs i s o with
      | some (o1, _, s') => match runL C ops hs (i + 1) s' r with
        | some (o2, sf) => some (o1 ++ o2, sf)
        | none => none
      | none => none
def clSt (s : St) : St := ⟨clAll s.tm, s.H⟩
/-- What is loaded late is not what is written here. -/
def lateOk (ops : List Oper) (i : Nat) (s : St) (o : Oper) : Bool :=
  match lateLds ops i with
  | [] => true
  | ts => match o.op with
    | .store _ (.tmp q) _ => match lk s.tm q with
      | some (.plain (.ptr id _)) => ts.all fun t => match lk s.tm t with
        | some (.plain (.ptr j _)) => !(Nat.beq j id)
        | some (.plain (.vp _)) => true
        | _ => false
      | _ => false
    | _ => false
def lateAll (C : Cx) (ops : List Oper) (hs : List (Nat × Hint)) : Nat → St → List Oper → Bool
  | _, _, [] => true
  | i, s, o :: r => match isBar o.op with
    | true => match lateOk ops i s o, stepB C ops hs i s o with
      | true, some (_, s') => lateAll C ops hs (i + 1) s' r
      | _, _ => false
    | false => match stepD C ops hs i s o with
      | some (_, _, s') => lateAll C ops hs (i + 1) s' r
      | none => false
def runR (C : Cx) (ops : List Oper) (draw : Bool) (hs : List (Nat × Hint)) (s : St) : Option (List Prop × St) :=
  match !draw || (drawOk ops && (noLate ops || lateAll C ops hs 0 (clSt s) ops)) with
  | true => runL C ops hs 0 (clSt s) ops
  | false => none

section
variable {C : Cx} {G : Gl} {ops : List Oper} {hs : List (Nat × Hint)} {φ φ' : Phi} {a : Act} {w w' : World} {s s' sf : St} {Q : Exit → Act → World → Prop} {K : Act → World → Prop} {os : List Prop}

theorem Inv.tm0 (hI : Inv C G s φ a w) : TmRel (Imm φ G.X w) w φ s.tm a := hI.tm
theorem Inv.xx (hI : Inv C G s φ a w) : ∀ b, G.X b → b < w.heap.size := fun b hb => Nat.lt_of_lt_of_le (hI.x b hb) hI.frm.size

theorem toList_two {α : Type} {xs : Array α} {x y : α} (h : xs.toList = [x, y]) : xs = #[x, y] := by
  cases xs
  simp_all
theorem put_plain {v : V} {dst : Option Tmp} {u : Value} (hI : Inv C G s φ a w) (h : put1 C.n dst (.plain v) [] s = some s') (hv : Rel (Imm φ G.X w) w φ v u) : Inv C G s' φ (a.put dst u) w :=
  hI.put h (Gr.refl φ w) (fun tmps _ k e => by
    show Rel _ _ _ _ _
    rw [e]
    exact hv) (fun id blk hb => by cases hb)
theorem stepB0_ok (hT : TCok C.P C.tc) (hI : Inv C G s φ a w) {i : Nat} {o : Oper} (h : stepB0 C hs i s o = some (os, s')) (hos : AllP os) (hK : ∀ a' w' φ', Inv C G s' φ' a' w' → K a' w') :
    o.wp C.P a w K Q := by
  unfold stepB0 at h
  split at h
  · rename_i t x y hg hd hop
    split at h
    · rename_i vx vy hvx hvy
      split at h
      · rename_i os' H' hst
        cases h
        have hx := rdA_ok hI.gok hI.tm0 (fun p hp => by simp at hp) _ _ hvx
        have hy := rdA_ok hI.gok hI.tm0 (fun p hp => by simp at hp) _ _ hvy
        obtain ⟨w', h1, h2⟩ := evStoreA_ok hT hI hst hos hx hy
        unfold Oper.wp
        have hrun : (execOp a.eval o).run C.P w = .ok .skip w' := by
          simp only [execOp, hop, Sem.run_bind, h1, Result.andThen_ok, Sem.run_pure]
        rw [hrun]
        simp only [Oper.upon, hd]
        exact hK _ _ φ h2
      · cases h
    · cases h
  · rename_i xs ts hg hop
    split at h
    case h_2 => cases h
    rename_i x y tx ty hxs hts
    split at h
    case h_2 => cases h
    rename_i vx vy hvx hvy
    split at h
    case h_2 => cases h
    rename_i os' id m blk hap
    split at h
    case h_2 => cases h
    rename_i hin
    split at h
    case h_2 => cases h
    rename_i s1 hput
    cases h
    simp only [Bool.and_eq_true] at hin
    have hx := rdA_ok hI.gok hI.tm0 (fun p hp => by simp at hp) _ _ hvx
    have hy := rdA_ok hI.gok hI.tm0 (fun p hp => by simp at hp) _ _ hvy
    obtain ⟨v', w', φ', h1, h2, h3⟩ := evAppend_ok (t := o.type) hT (hI.prepA vx) hap hos hin.1 hin.2 hx hy
    have exs := toList_two hxs
    have ets := toList_two hts
    subst exs ets
    unfold Oper.wp
    have hrun : (execOp a.eval o).run C.P w = .ok (.value v') w' := by
      simp only [execOp, hop, resolve, invoke, builtin, Sem.run_bind, Sem.run_pure, Result.andThen_ok, List.map_toArray, List.map_cons, List.map_nil, h1]
    rw [hrun]
    exact hK _ _ φ' (put_plain h2 hput h3)
  · rename_i xs ts hg hop
    split at h
    case h_2 => cases h
    rename_i x y tx ty hxs hts
    split at h
    case h_2 => cases h
    rename_i vx vy hvx hvy
    split at h
    case h_2 => cases h
    rename_i os' H' k hap
    split at h
    case h_2 => cases h
    rename_i s1 hput
    cases h
    have hx := rdA_ok hI.gok hI.tm0 (fun p hp => by simp at hp) _ _ hvx
    have hy := rdA_ok hI.gok hI.tm0 (fun p hp => by simp at hp) _ _ hvy
    obtain ⟨w', h1, h2⟩ := evCopy_ok (t := o.type) hT hI hap hos hx hy
    have exs := toList_two hxs
    have ets := toList_two hts
    subst exs ets
    unfold Oper.wp
    have hrun : (execOp a.eval o).run C.P w = .ok (.value (goInt k)) w' := by
      simp only [execOp, hop, resolve, invoke, builtin, Sem.run_bind, Sem.run_pure, Result.andThen_ok, List.map_toArray, List.map_cons, List.map_nil, h1]
    rw [hrun]
    exact hK _ _ φ (put_plain h2 hput (.val rfl))
  · rename_i t x k y hg hd hop
    split at h
    case h_2 => cases h
    rename_i vx vk vy hvx hvk hvy
    split at h
    case h_2 => cases h
    rename_i os' H' hst
    cases h
    have hx := rdA_ok hI.gok hI.tm0 (fun p hp => by simp at hp) _ _ hvx
    have hk := rdA_ok hI.gok hI.tm0 (fun p hp => by simp at hp) _ _ hvk
    have hy := rdA_ok hI.gok hI.tm0 (fun p hp => by simp at hp) _ _ hvy
    obtain ⟨w', h1, h2⟩ := evMapUpd_ok hT hI hst hos hx hk hy
    unfold Oper.wp
    have hrun : (execOp a.eval o).run C.P w = .ok .skip w' := by
      simp only [execOp, hop, Sem.run_bind, h1, Result.andThen_ok, Sem.run_pure]
    rw [hrun]
    simp only [Oper.upon, hd]
    exact hK _ _ φ h2
  · rename_i t x k y hg hd hop
    split at h
    case h_2 => cases h
    rename_i vx vk vy hvx hvk hvy
    split at h
    case h_2 => cases h
    rename_i os' H' hst
    cases h
    have hx := rdA_ok hI.gok hI.tm0 (fun p hp => by simp at hp) _ _ hvx
    have hk := rdA_ok hI.gok hI.tm0 (fun p hp => by simp at hp) _ _ hvk
    have hy := rdA_ok hI.gok hI.tm0 (fun p hp => by simp at hp) _ _ hvy
    obtain ⟨w', h1, h2⟩ := evMapUpd_ok hT hI hst hos hx hk hy
    unfold Oper.wp
    have hrun : (execOp a.eval o).run C.P w = .ok .skip w' := by
      simp only [execOp, hop, Sem.run_bind, h1, Result.andThen_ok, Sem.run_pure]
    rw [hrun]
    simp only [Oper.upon, hd]
    exact hK _ _ φ h2
  · rename_i xs ts hg hop
    split at h
    case h_2 => cases h
    rename_i x k t hxs hts
    split at h
    case h_2 => cases h
    rename_i vx vk hvx hvk
    split at h
    case h_2 => cases h
    rename_i os' H' hap
    split at h
    case h_2 => cases h
    rename_i s1 hput
    cases h
    have hx := rdA_ok hI.gok hI.tm0 (fun p hp => by simp at hp) _ _ hvx
    have hk := rdA_ok hI.gok hI.tm0 (fun p hp => by simp at hp) _ _ hvk
    obtain ⟨w', h1, h2⟩ := evMapDel_ok (ty := o.type) hT hI hap hos hts hx hk
    have exs := toList_two hxs
    subst exs
    unfold Oper.wp
    have hrun : (execOp a.eval o).run C.P w = .ok (.value (.tuple #[])) w' := by
      simp only [execOp, hop, resolve, invoke, builtin, Sem.run_bind, Sem.run_pure, Result.andThen_ok, List.map_toArray, List.map_cons, List.map_nil, h1]
    rw [hrun]
    exact hK _ _ φ (put_plain h2 hput .top)
  · rename_i xs ts hg hop
    split at h
    case h_2 => cases h
    rename_i x t hxs hts
    split at h
    case h_2 => cases h
    rename_i vx hvx
    split at h
    case h_2 => cases h
    rename_i os' H' hap
    split at h
    case h_2 => cases h
    rename_i s1 hput
    cases h
    have hx := rdA_ok hI.gok hI.tm0 (fun p hp => by simp at hp) _ _ hvx
    obtain ⟨w', h1, h2⟩ := evClear_ok (ty := o.type) hT hI hap hos hts hx
    have exs : xs = #[x] := by cases xs; simp_all
    subst exs
    unfold Oper.wp
    have hrun : (execOp a.eval o).run C.P w = .ok (.value (.tuple #[])) w' := by
      simp only [execOp, hop, resolve, invoke, builtin, Sem.run_bind, Sem.run_pure, Result.andThen_ok, List.map_toArray, List.map_cons, List.map_nil, h1]
    rw [hrun]
    exact hK _ _ φ (put_plain h2 hput .top)
  · rename_i t t' x hg hop
    split at h
    case h_2 => cases h
    rename_i id n htt hvx
    split at h
    case h_2 => cases h
    rename_i os' blk hmk
    split at h
    case h_2 => cases h
    rename_i hrest
    split at h
    case h_2 => cases h
    rename_i s1 hput
    cases h
    have htt := Nat.eq_of_beq_eq_true htt
    subst htt
    have hx := rdA_ok hI.gok hI.tm0 (fun p hp => by simp at hp) _ _ hvx
    obtain ⟨w', h1, h2, h3⟩ := evMark_ok hT (hI.prepA (.sl id 0 n)) hmk hrest hx
    unfold Oper.wp
    have hrun : (execOp a.eval o).run C.P w = .ok (.value (a.eval x)) w' := by
      simp only [execOp, hop, Sem.run_bind, h1, Result.andThen_ok, Sem.run_pure]
    rw [hrun]
    exact hK _ _ _ (put_plain h2 hput h3)
  · rename_i y xs ts hg hop
    split at h
    case h_2 => cases h
    rename_i c f fs cap vs hcr hcl hvs
    split at h
    case h_2 => cases h
    rename_i os' s2 v hev
    split at h
    case h_2 => cases h
    rename_i s1 hput
    cases h
    obtain ⟨gv, hgv, hcl⟩ := Option.bind_eq_some_iff.1 hcl
    obtain ⟨ua, ub, hgf, hra, hrb⟩ := evClo_ok hcl (rdA_ok hI.gok hI.tm0 (fun p hp => by simp at hp) y gv hgv)
    have hr := hra.append ((rds_ok (a := a) (fun y x hy => rdA_ok hI.gok hI.tm0 (fun p hp => by simp at hp) y x hy) hvs).append hrb)
    obtain ⟨⟨fn, hf1, hf2, hf3⟩, hcall⟩ := evCallO_ok (hI.prepO (pairsOf (symOf hs i))) hev hos hr
    unfold Oper.wp
    have hrun : (execOp a.eval o).run C.P w = (callFunc f (ua.toList ++ (xs.toList.map a.eval ++ ub.toList)).toArray).run C.P w := by
      have e2 : ua ++ xs.map a.eval ++ ub = (ua.toList ++ (xs.toList.map a.eval ++ ub.toList)).toArray := by
        apply Array.ext'
        simp
      simp only [execOp, hop, resolve, Sem.run_bind, Sem.run_pure, Result.andThen_ok, Deferred.ofValue, hgf, invoke, e2]
    have hcf : (callFunc f (ua.toList ++ (xs.toList.map a.eval ++ ub.toList)).toArray).run C.P w = .ok (.enter f (ua.toList ++ (xs.toList.map a.eval ++ ub.toList)).toArray) w := by
      simp only [callFunc, Sem.run_bind, run_program, Result.andThen_ok, hf1, hf2, hf3, Bool.false_eq_true, if_false, Sem.run_pure]
    rw [hrun, hcf, Oper.upon_enter]
    refine hcall.mono ?_
    rintro e' w' ⟨u, φ2, rfl, hI2, hu⟩
    exact hK _ _ _ (put_plain hI2 hput hu)
  · cases h

theorem lk_resT {d : Nat} {b : Bool} {t : Nat} {x : T} : ∀ {tm : List (Nat × T)}, lk (resT d b tm) t = some x → lk tm t = some x ∨ (∃ w y, lk tm t = some (.gd d w y) ∧ ((w = b ∧ x = .plain y) ∨ x = .plain .top))
  | [], h => by cases h
  | (q, .plain z) :: r, h => by
    simp only [resT, lk] at h ⊢
    split at h
    · rename_i e
      rw [if_pos e]
      exact .inl h
    · rename_i e
      rw [if_neg e]
      exact lk_resT h
  | (q, .gd d' w z) :: r, h => by
    simp only [resT, lk] at h ⊢
    split at h
    · rename_i e
      rw [if_pos e]
      split at h
      · rename_i e2
        have e2 := Nat.eq_of_beq_eq_true e2
        subst e2
        refine .inr ⟨w, z, rfl, ?_⟩
        split at h
        · rename_i e3
          cases h
          exact .inl ⟨by simpa using e3, rfl⟩
        · cases h
          exact .inr rfl
      · exact .inl h
    · rename_i e
      rw [if_neg e]
      exact lk_resT h
theorem resG_ok (hI : Inv C G s φ a w) {i : Nat} {o : Oper} (hg : gdOf ops s o = some true) : Inv C G ⟨resG ops s o, s.H⟩ φ a w := by
  refine ⟨hI.size, hI.defers, fun t x hx => ?_, hI.hr, hI.ok, hI.x, hI.frm, hI.own, hI.fix⟩
  have hx : lk (resG ops s o) t = some x := hx
  unfold resG at hx
  unfold gdOf at hg
  split at hx
  · exact hI.tm t x hx
  · rename_i j w0 hgd
    rw [hgd] at hg
    simp only at hg
    split at hx
    · rename_i d hd
      split at hg
      · rename_i d2 hns hd2
        rw [hd] at hd2
        cases hd2
        split at hg
        · rename_i b0 hl
          have hb : b0 = w0 := by
            simp only [Option.some.injEq] at hg
            simpa using hg
          subst hb
          have hv : Rel (Imm φ G.X _) _ φ (.val (.bool b0)) (a.tmps.getD d undef) := hI.tm d _ hl
          have hv := hv.val_inv
          rcases lk_resT hx with h1 | ⟨w1, y, h1, h2⟩
          · exact hI.tm t x h1
          · have h3 := hI.tm t _ h1
            rcases h2 with ⟨rfl, rfl⟩ | rfl
            · exact h3.1 hv
            · exact Rel.top
        · cases hg
      · cases hg
    · exact hI.tm t x hx
theorem gdOf_ok (hI : Inv C G s φ a w) {i : Nat} {o : Oper} (ho : ops[i]? = some o) {b : Bool} (h : gdOf ops s o = some b) : Region.wanted o (yielded ops.toArray a.tmps) = b := by
  unfold gdOf at h
  unfold Region.wanted
  cases hg : o.guard with
  | none =>
    rw [hg] at h
    cases h
    rfl
  | some p =>
    obtain ⟨j, w⟩ := p
    rw [hg] at h
    simp only at h ⊢
    split at h
    · rename_i d hns hd
      split at h
      · rename_i b0 hl
        cases h
        have hv := hI.tm d _ hl
        have hv : Rel (Imm φ G.X _) _ φ (.val (.bool b0)) (a.tmps.getD d undef) := hv
        have hv := hv.val_inv
        have hlt : d < a.tmps.size := by
          refine Classical.byContradiction fun hc => ?_
          rw [Array.getD_eq_getD_getElem?, Array.getElem?_eq_none (Nat.not_lt.1 hc)] at hv
          cases hv
        have hy : yielded ops.toArray a.tmps j = some b0 := by
          unfold yielded
          unfold dstAt at hd
          have e1 : (ops.toArray[j]?).bind (·.dst) = some d := by simpa using hd
          rw [e1]
          simp only [Option.bind_some]
          rw [Array.getD_eq_getD_getElem?, Array.getElem?_eq_getElem hlt] at hv
          rw [Array.getElem?_eq_getElem hlt]
          have hv : a.tmps[d] = .bool b0 := hv
          rw [hv]
        rw [hy]
        cases b0 <;> cases w <;> rfl
      · cases h
    · cases h
theorem stepB_ok (hT : TCok C.P C.tc) (hI : Inv C G s φ a w) {i : Nat} {o : Oper} (ho : ops[i]? = some o) (h : stepB C ops hs i s o = some (os, s')) (hos : AllP os) (hK : ∀ a' w' φ', Inv C G s' φ' a' w' → K a' w') :
    wpOp C.P ops.toArray Q i K a w := by
  have e : ops.toArray[i]? = some o := by simpa using ho
  unfold stepB at h
  unfold wpOp
  simp only [e]
  split at h
  · rename_i hg
    rw [gdOf_ok hI ho hg, if_pos rfl]
    exact .inl (stepB0_ok (o := { o with guard := none }) hT (resG_ok (i := i) hI hg) h hos hK)
  · rename_i hg
    rw [gdOf_ok hI ho hg, if_neg (by simp)]
    split at h
    · rename_i s1 hput
      cases h
      exact hK _ _ φ (put_plain hI hput .top)
    · cases h
  · cases h

theorem rdA_sub {tm tm' : List (Nat × T)} {y : Operand} {v : V} (hs : ∀ t, t ∈ tmpsOf [y] → ∀ x, lk tm t = some x → lk tm' t = some x) (h : rdA tm [] y = some v) : rdA tm' [] y = some v := by
  cases y with
  | tmp t =>
    simp only [rdA, rdT] at h ⊢
    cases hl : lk tm t with
    | none => simp [hl] at h
    | some x =>
      rw [hs t (by simp [tmpsOf]) x hl]
      rw [hl] at h
      exact h
  | const z => exact h
  | func f => exact h
  | global g => exact h
/-- A store looks at its own slots alone. -/
theorem stepB_sto {i : Nat} {o : Oper} (hsto : isSto o.op = true) (h : stepB C ops hs i s o = some (os, s')) : o.guard = none ∧ stepB0 C hs i s o = some (os, s') := by
  unfold stepB at h
  obtain ⟨dst, op, type, pos, after, guard⟩ := o
  cases guard with
  | none => exact ⟨rfl, h⟩
  | some p =>
    exfalso
    unfold gdOf at h
    have hsto : isSto op = true := hsto
    simp only [hsto] at h
    cases h
theorem stepB_sub {i : Nat} {o : Oper} {tm : List (Nat × T)} (hsto : isSto o.op = true) (h : stepB C ops hs i s o = some (os, s')) (hsub : ∀ t, t ∈ rs ops o → ∀ x, lk s.tm t = some x → lk tm t = some x) : s'.tm = s.tm ∧ stepB C ops hs i ⟨tm, s.H⟩ o = some (os, ⟨tm, s'.H⟩) := by
  obtain ⟨hgn, h⟩ := stepB_sto hsto h
  have hgd : ∀ s0, stepB C ops hs i s0 o = stepB0 C hs i s0 o := fun s0 => by
    obtain ⟨dst, op, type, pos, after, guard⟩ := o
    cases hgn
    rfl
  rw [hgd]
  unfold stepB0 at h ⊢
  split at h
  · rename_i t x y hg hd hop
    have hin : ∀ z, z ∈ [x, y] → ∀ t, t ∈ tmpsOf [z] → t ∈ rs ops o := fun z hz t ht => by
      unfold rs
      refine List.mem_append.2 (.inl ?_)
      rw [hop]
      simp only [List.mem_cons, List.not_mem_nil, or_false] at hz
      cases z with
      | tmp q =>
        simp only [tmpsOf, List.mem_singleton] at ht
        subst ht
        rcases hz with rfl | rfl
        · simp [Op.operands, tmpsOf]
        · cases x <;> simp [Op.operands, tmpsOf]
      | const _ => simp [tmpsOf] at ht
      | func _ => simp [tmpsOf] at ht
      | global _ => simp [tmpsOf] at ht
    split at h
    · rename_i vx vy hvx hvy
      have e1 := rdA_sub (tm' := tm) (fun t ht => hsub t (hin x (by simp) t ht)) hvx
      have e2 := rdA_sub (tm' := tm) (fun t ht => hsub t (hin y (by simp) t ht)) hvy
      split at h
      · rename_i os' H' hst
        cases h
        simp only [hg, hd, hop, e1, e2, hst]
        exact ⟨trivial, trivial⟩
      · cases h
    · cases h
  · rename_i hop
    rw [hop] at hsto
    cases hsto
  · rename_i hop
    rw [hop] at hsto
    cases hsto
  · rename_i hop
    rw [hop] at hsto
    cases hsto
  · rename_i hop
    rw [hop] at hsto
    cases hsto
  · rename_i hop
    rw [hop] at hsto
    cases hsto
  · rename_i hop
    rw [hop] at hsto
    cases hsto
  · rename_i hop
    rw [hop] at hsto
    cases hsto
  · rename_i hop
    rw [hop] at hsto
    cases hsto
  · cases h

/-- Which block a store writes. -/
theorem stepB_other {i : Nat} {o : Oper} (hsto : isSto o.op = true) (h : stepB C ops hs i s o = some (os, s')) : ∃ id ty x off z, o.op = .store ty x z ∧ rdA s.tm [] x = some (.ptr id off) ∧ ∀ j, j ≠ id → lk s'.H j = lk s.H j := by
  have h := (stepB_sto hsto h).2
  unfold stepB0 at h
  split at h
  · rename_i t x y hg hd hop
    split at h
    · rename_i vx vy hvx hvy
      split at h
      · rename_i os' H' hst
        cases h
        obtain ⟨id, off, rfl, h2⟩ := evStoreA_inv hst
        exact ⟨id, t, x, off, y, hop, hvx, h2⟩
      · cases h
    · cases h
  · rename_i hop
    rw [hop] at hsto
    cases hsto
  · rename_i hop
    rw [hop] at hsto
    cases hsto
  · rename_i hop
    rw [hop] at hsto
    cases hsto
  · rename_i hop
    rw [hop] at hsto
    cases hsto
  · rename_i hop
    rw [hop] at hsto
    cases hsto
  · rename_i hop
    rw [hop] at hsto
    cases hsto
  · rename_i hop
    rw [hop] at hsto
    cases hsto
  · rename_i hop
    rw [hop] at hsto
    cases hsto
  · cases h
theorem lateOk_ne {i : Nat} {o : Oper} {ty : TypeId} {x z : Operand} {id off t j off' : Nat} (h : lateOk ops i s o = true) (ht : t ∈ lateLds ops i) (hop : o.op = .store ty x z) (hx : rdA s.tm [] x = some (.ptr id off)) (hl : lk s.tm t = some (.plain (.ptr j off'))) : j ≠ id := by
  unfold lateOk at h
  split at h
  · rename_i e
    rw [e] at ht
    cases ht
  · rw [hop] at h
    cases x with
    | tmp q =>
      simp only [rdA, rdT] at hx
      split at hx
      · rename_i v hv
        cases hx
        simp only [hv, List.all_eq_true] at h
        have := h t ht
        rw [hl] at this
        simp only at this
        intro e
        subst e
        simp at this
      · simp [hasP] at hx
      · cases hx
    | const v => cases h
    | func f => cases h
    | global g => cases h

theorem stepD_ok (hT : TCok C.P C.tc) (hI : Inv C G s φ a w) {i : Nat} {o : Oper} {r : Out1} (ho : ops[i]? = some o) (h : stepD C ops hs i s o = some (os, r, s')) (hos : AllP os) (hK : ∀ a' w' φ', Inv C G s' φ' a' w' → K a' w') :
    wpOp C.P ops.toArray Q i K a w := by
  unfold stepD at h
  split at h
  case h_2 => cases h
  rename_i r' hr
  split at h
  case h_2 => cases h
  rename_i s1 hput
  cases h
  have hput' := put1_H hput
  have hmain := step1_ok (a := a) (s := ⟨restr (rs ops o) s.tm, s.H⟩) hT hI.ok hI.xx hI.hr hI.gok (fun t x hx => hI.tm t x (lk_restr hx).2) hr hos (fun id hid => hI.ok.dom id (insAll_fresh hput' id hid)) Q K
    (fun u w' φ' h1 h2 h3 => hK _ _ φ' (hI.put hput h1 h2 h3))
  unfold wpOp
  have e : ops.toArray[i]? = some o := by simpa using ho
  simp only [e]
  split
  · rename_i hw
    rw [if_pos hw] at hmain
    exact .inl hmain
  · rename_i hw
    rw [if_neg hw] at hmain
    exact hmain

theorem runL_seq (hT : TCok C.P C.tc) : ∀ (l : List Oper) (i : Nat) (s : St) (φ : Phi) (a : Act) (w : World) (os : List Prop), l = ops.drop i → runL C ops hs i s l = some (os, sf) → AllP os → Inv C G s φ a w → (∀ a' w' φ', Inv C G sf φ' a' w' → Q .normal a' w') →
    wpOps C.P ops.toArray Q (List.range' i l.length) a w
  | [], i, s, φ, a, w, os, _, h, _, hI, hQ => by
    cases h
    exact hQ a w φ hI
  | o :: r, i, s, φ, a, w, os, hl, h, hos, hI, hQ => by
    have ho : ops[i]? = some o := by
      have : (ops.drop i)[0]? = some o := by rw [← hl]; rfl
      simpa using this
    have hr : r = ops.drop (i + 1) := by
      have := congrArg (List.drop 1) hl
      simpa using this
    rw [List.length_cons, List.range'_succ, wpOps_cons]
    unfold runL at h
    split at h
    · split at h
      case h_2 => cases h
      rename_i o1 s' hst
      split at h
      case h_2 => cases h
      rename_i o2 sf' hrun
      cases h
      obtain ⟨p1, p2⟩ := AllP.append.1 hos
      exact stepB_ok hT hI ho hst p1 (fun a' w' φ' hI' => runL_seq hT r (i + 1) s' φ' a' w' o2 hr hrun p2 hI' hQ)
    · split at h
      case h_2 => cases h
      rename_i o1 r1 s' hst
      split at h
      case h_2 => cases h
      rename_i o2 sf' hrun
      cases h
      obtain ⟨p1, p2⟩ := AllP.append.1 hos
      exact stepD_ok hT hI ho hst p1 (fun a' w' φ' hI' => runL_seq hT r (i + 1) s' φ' a' w' o2 hr hrun p2 hI' hQ)

/-! ### The order that is drawn -/
def J (ops : List Oper) (i : Nat) (s : St) : Prop := ∀ t d w x, lk s.tm t = some (.gd d w x) → ∃ j, (j < i ∧ dstAt ops j = some d) ∧ ∃ (q : Nat) (oq : Oper) (w' : Bool), ops[q]? = some oq ∧ oq.guard = some (j, w')
theorem lk_clAll {t : Nat} {x : T} : ∀ {tm : List (Nat × T)}, lk (clAll tm) t = some x → x = .plain .top ∨ (lk tm t = some x ∧ ∃ v, x = .plain v)
  | [], h => by cases h
  | (k, .plain y) :: r, h => by
    simp only [clAll, lk] at h ⊢
    split at h
    · rename_i e
      rw [if_pos e]
      cases h
      exact .inr ⟨rfl, _, rfl⟩
    · rename_i e
      rw [if_neg e]
      exact lk_clAll h
  | (k, .gd d w y) :: r, h => by
    simp only [clAll, lk] at h ⊢
    split at h
    · cases h
      exact .inl rfl
    · rename_i e
      rw [if_neg e]
      exact lk_clAll h
theorem Inv.cl (hI : Inv C G s φ a w) : Inv C G (clSt s) φ a w := by
  refine ⟨hI.size, hI.defers, fun t x hx => ?_, hI.hr, hI.ok, hI.x, hI.frm, hI.own, hI.fix⟩
  rcases lk_clAll hx with rfl | ⟨h, _⟩
  · exact Rel.top
  · exact hI.tm t x h
theorem J.cl : J ops 0 (clSt s) := fun t d w x hx => by
  rcases lk_clAll hx with h | ⟨_, _, h⟩ <;> cases h

/-- The operations up to the next one that writes. -/
theorem runL_seg (hdw : Dw ops) : ∀ (l : List Oper) (i : Nat) (s : St) (os : List Prop), l = ops.drop i → runL C ops hs i s l = some (os, sf) → AllP os → J ops i s →
    ∃ m op st out os', st 0 = s ∧ Seg C ops hs i m op st out ∧ (∀ j, j < m → isBar (op j).op = false) ∧ J ops (i + m) (st m) ∧ runL C ops hs (i + m) (st m) (ops.drop (i + m)) = some (os', sf) ∧ AllP os' ∧ i + m ≤ max i ops.length ∧
      (ops.drop (i + m) = [] ∨ ∃ o r, ops.drop (i + m) = o :: r ∧ isBar o.op = true) ∧ (lateAll C ops hs i s l = true → lateAll C ops hs (i + m) (st m) (ops.drop (i + m)) = true)
  | [], i, s, os, hl, h, hos, hJ => by
    refine ⟨0, fun _ => default, fun _ => s, fun _ => ⟨[], .plain .top, []⟩, os, rfl, ⟨fun j hj => by omega, fun j hj => by omega, fun j hj => by omega, fun j hj => by omega, fun t d w x _ j hj => by omega, fun t d w x hx => by obtain ⟨j, ⟨_, hd⟩, q, oq, w', h1, h2⟩ := hJ t d w x hx; exact ⟨j, q, oq, w', hd, h1, h2⟩⟩, fun j hj => by omega, hJ, ?_, hos, by omega, ?_, ?_⟩
    · simp only [Nat.add_zero]
      rw [← hl]
      exact h
    · simp only [Nat.add_zero]
      exact .inl hl.symm
    · simp only [Nat.add_zero]
      rw [← hl]
      exact fun h => h
  | o :: r, i, s, os, hl, h, hos, hJ => by
    have ho : ops[i]? = some o := by
      have : (ops.drop i)[0]? = some o := by rw [← hl]; rfl
      simpa using this
    have hlt : i < ops.length := (List.getElem?_eq_some_iff.1 ho).1
    have hr : r = ops.drop (i + 1) := by
      have := congrArg (List.drop 1) hl
      simpa using this
    cases hb : isBar o.op with
    | true =>
      refine ⟨0, fun _ => default, fun _ => s, fun _ => ⟨[], .plain .top, []⟩, os, rfl, ⟨fun j hj => by omega, fun j hj => by omega, fun j hj => by omega, fun j hj => by omega, fun t d w x _ j hj => by omega, fun t d w x hx => by obtain ⟨j, ⟨_, hd⟩, q, oq, w', h1, h2⟩ := hJ t d w x hx; exact ⟨j, q, oq, w', hd, h1, h2⟩⟩, fun j hj => by omega, hJ, ?_, hos, by omega, ?_, ?_⟩
      · simp only [Nat.add_zero]
        rw [← hl]
        exact h
      · simp only [Nat.add_zero]
        exact .inr ⟨o, r, hl.symm, hb⟩
      · simp only [Nat.add_zero]
        rw [← hl]
        exact fun h => h
    | false =>
      unfold runL at h
      rw [hb] at h
      simp only at h
      split at h
      case h_2 => cases h
      rename_i o1 r1 s' hst
      split at h
      case h_2 => cases h
      rename_i o2 sf' hrun
      cases h
      obtain ⟨p1, p2⟩ := AllP.append.1 hos
      have hst0 := hst
      unfold stepD at hst
      split at hst
      case h_2 => cases hst
      rename_i r' hr1
      split at hst
      case h_2 => cases hst
      rename_i s1 hput
      cases hst
      have hJ' : J ops (i + 1) s' := fun t d w x hx => by
        rcases put1_tm hput hx with h | ⟨_, h⟩ | ⟨_, h⟩
        · cases h
        · obtain ⟨j, hj, hd⟩ := step1_gd hr1 h.symm
          exact ⟨j, ⟨Nat.lt_succ_of_lt (hdw.gd i o j w ho hj), hd⟩, i, o, w, ho, hj⟩
        · obtain ⟨j, ⟨hj, hd⟩, hg⟩ := hJ t d w x h
          exact ⟨j, ⟨by omega, hd⟩, hg⟩
      obtain ⟨m, op, st, out, os', e0, hseg, hnb, hJm, hrn, hos', hle, hnx, hlate⟩ := runL_seg hdw r (i + 1) s' o2 hr hrun p2 hJ'
      have es : i + 1 + m = i + (m + 1) := by omega
      rw [es] at hJm hrn hle hnx hlate
      refine ⟨m + 1, fun j => match j with | 0 => o | j + 1 => op j, fun j => match j with | 0 => s | j + 1 => st j, fun j => match j with | 0 => r1 | j + 1 => out j, os', rfl, ⟨fun j hj => ?_, fun j hj => ?_, fun j hj => ?_, fun j hj => ?_, fun t d w x hx j hj => ?_, fun t d w x hx => by obtain ⟨j, ⟨_, hd⟩, q, oq, w', h1, h2⟩ := hJ t d w x hx; exact ⟨j, q, oq, w', hd, h1, h2⟩⟩, fun j hj => ?_, hJm, hrn, hos', by omega, hnx, fun hla => ?_⟩
      · cases j with
        | zero => exact ho
        | succ j => have := hseg.at_ j (by omega); rwa [show i + (j + 1) = i + 1 + j by omega]
      · cases j with
        | zero => exact hr1
        | succ j => have := hseg.one j (by omega); rwa [show i + (j + 1) = i + 1 + j by omega]
      · cases j with
        | zero => exact p1
        | succ j => exact hseg.obl j (by omega)
      · cases j with
        | zero => show put1 _ _ _ _ s = some (st 0); rw [e0]; exact hput
        | succ j => exact hseg.put j (by omega)
      · obtain ⟨q, ⟨hq, hd⟩, _⟩ := hJ t d w x hx
        unfold dstAt at hd
        cases hq0 : ops[q]? with
        | none => simp [hq0] at hd
        | some oq =>
          have hd' : oq.dst = some d := by simpa [hq0] using hd
          cases j with
          | zero => exact hdw.dst q i oq o hq0 ho (by omega) d hd'
          | succ j => exact hdw.dst q (i + 1 + j) oq (op j) hq0 (hseg.at_ j (by omega)) (by omega) d hd'
      · cases j with
        | zero => exact hb
        | succ j => exact hnb j (by omega)
      · refine hlate ?_
        unfold lateAll at hla
        rw [hb] at hla
        simp only [hst0] at hla
        exact hla

/-- How many have not come up. -/
def unl (listed : Array Bool) : Nat → Nat
  | 0 => 0
  | n + 1 => unl listed n + if listed.getD n true then 0 else 1
theorem unl_set {listed : Array Bool} {k : Nat} (hk : listed.getD k true = false) : ∀ n, unl (listed.setIfInBounds k true) n + (if k < n then 1 else 0) = unl listed n
  | 0 => by simp [unl]
  | n + 1 => by
    have hks : k < listed.size := by
      refine Classical.byContradiction fun h => ?_
      simp [Array.getD_eq_getD_getElem?, Array.getElem?_eq_none (Nat.not_lt.1 h)] at hk
    have ih := unl_set hk n
    simp only [unl]
    by_cases e : k = n
    · subst e
      have h1 : (listed.setIfInBounds k true).getD k true = true := by simp [Array.getD_eq_getD_getElem?, hks]
      rw [h1, hk]
      simp only [Nat.lt_irrefl, if_false, Nat.lt_succ_self, if_true, Bool.false_eq_true] at ih ⊢
      omega
    · rw [getD_set_ne true e]
      by_cases h2 : k < n
      · rw [if_pos h2] at ih
        have h3 : k < n + 1 := by omega
        rw [if_pos h3]
        omega
      · rw [if_neg h2] at ih
        have h3 : ¬ k < n + 1 := by omega
        rw [if_neg h3]
        omega
theorem unl_zero {listed : Array Bool} : ∀ n, unl listed n = 0 → ∀ j, j < n → listed.getD j true = true
  | 0, _, j, hj => by omega
  | n + 1, h, j, hj => by
    simp only [unl] at h
    by_cases e : j = n
    · subst e
      cases hc : listed.getD j true with
      | true => rfl
      | false => rw [hc] at h; simp at h
    · exact unl_zero n (by omega) j (by omega)
end
end Go.Ab

set_option linter.unusedSimpArgs false
set_option linter.unusedVariables false
namespace Go.Ab
open Go.RowKit
section
variable {C : Cx} {G : Gl} {ops : List Oper} {hs : List (Nat × Hint)} {φ φ' : Phi} {a : Act} {w w' : World} {s s' sf : St} {Q : Exit → Act → World → Prop} {K : Act → World → Prop} {os : List Prop}

theorem blt_true {a b : Nat} (h : a < b) : Nat.blt a b = true := by
  rw [Nat.blt_eq]
  exact h
theorem blt_false {a b : Nat} (h : b ≤ a) : Nat.blt a b = false := by
  cases hc : Nat.blt a b with
  | false => rfl
  | true =>
    rw [Nat.blt_eq] at hc
    omega
theorem J.le {i k : Nat} (hJ : J ops i s) (h : i ≤ k) (hs : ∀ t d w x, lk s'.tm t = some (.gd d w x) → lk s.tm t = some (.gd d w x)) : J ops k s' := fun t d w x hx => by
  obtain ⟨j, ⟨hj, hd⟩, hg⟩ := hJ t d w x (hs t d w x hx)
  exact ⟨j, ⟨by omega, hd⟩, hg⟩
theorem stepB0_J {i : Nat} {o : Oper} (h : stepB0 C hs i s o = some (os, s')) (hJ : J ops i s) : J ops (i + 1) s' := by
  unfold stepB0 at h
  split at h
  · split at h
    · split at h
      · cases h
        exact hJ.le (by omega) (fun _ _ _ _ h => h)
      · cases h
    · cases h
  · split at h
    case h_2 => cases h
    split at h
    case h_2 => cases h
    split at h
    case h_2 => cases h
    split at h
    case h_2 => cases h
    split at h
    case h_2 => cases h
    rename_i hput
    cases h
    refine hJ.le (by omega) (fun t d w x hx => ?_)
    rcases put1_tm hput hx with h | ⟨_, h⟩ | ⟨_, h⟩
    · cases h
    · cases h
    · rcases lk_killT h with h | ⟨h, _⟩
      · cases h
      · exact h
  · split at h
    case h_2 => cases h
    split at h
    case h_2 => cases h
    split at h
    case h_2 => cases h
    split at h
    case h_2 => cases h
    rename_i hput
    cases h
    refine hJ.le (by omega) (fun t d w x hx => ?_)
    rcases put1_tm hput hx with h | ⟨_, h⟩ | ⟨_, h⟩
    · cases h
    · cases h
    · exact h
  · split at h
    case h_2 => cases h
    split at h
    case h_2 => cases h
    cases h
    exact hJ.le (by omega) (fun t d w x hx => hx)
  · split at h
    case h_2 => cases h
    split at h
    case h_2 => cases h
    cases h
    exact hJ.le (by omega) (fun t d w x hx => hx)
  · split at h
    case h_2 => cases h
    split at h
    case h_2 => cases h
    split at h
    case h_2 => cases h
    split at h
    case h_2 => cases h
    rename_i hput
    cases h
    refine hJ.le (by omega) (fun t d w x hx => ?_)
    rcases put1_tm hput hx with h | ⟨_, h⟩ | ⟨_, h⟩
    · cases h
    · cases h
    · exact h
  · split at h
    case h_2 => cases h
    split at h
    case h_2 => cases h
    split at h
    case h_2 => cases h
    split at h
    case h_2 => cases h
    rename_i hput
    cases h
    refine hJ.le (by omega) (fun t d w x hx => ?_)
    rcases put1_tm hput hx with h | ⟨_, h⟩ | ⟨_, h⟩
    · cases h
    · cases h
    · exact h
  · split at h
    case h_2 => cases h
    split at h
    case h_2 => cases h
    split at h
    case h_2 => cases h
    split at h
    case h_2 => cases h
    rename_i hput
    cases h
    refine hJ.le (by omega) (fun t d w x hx => ?_)
    rcases put1_tm hput hx with h | ⟨_, h⟩ | ⟨_, h⟩
    · cases h
    · cases h
    · rcases lk_killT h with h | ⟨h, _⟩
      · cases h
      · exact h
  · split at h
    case h_2 => cases h
    split at h
    case h_2 => cases h
    rename_i hev
    split at h
    case h_2 => cases h
    rename_i hput
    cases h
    refine hJ.le (by omega) (fun t d w x hx => ?_)
    rcases put1_tm hput hx with h | ⟨_, h⟩ | ⟨_, h⟩
    · cases h
    · cases h
    · rcases evCallO_tm hev h with h | h
      · cases h
      · exact h
  · cases h
theorem stepB_J {i : Nat} {o : Oper} (h : stepB C ops hs i s o = some (os, s')) (hJ : J ops i s) : J ops (i + 1) s' := by
  unfold stepB at h
  split at h
  · refine stepB0_J h (hJ.le (Nat.le_refl _) (fun t d w x hx => ?_))
    have hx : lk (resG ops s o) t = some (.gd d w x) := hx
    unfold resG at hx
    split at hx
    · exact hx
    · split at hx
      · rcases lk_resT hx with h1 | ⟨_, _, _, h1 | h1⟩
        · exact h1
        · cases h1.2
        · cases h1
      · exact hx
  · split at h
    · rename_i hput
      cases h
      refine hJ.le (by omega) (fun t d w x hx => ?_)
      rcases put1_tm hput hx with h | ⟨_, h⟩ | ⟨_, h⟩
      · cases h
      · cases h
      · exact h
    · cases h
  · cases h
def Lf (listed : Array Bool) (j : Nat) : Bool := listed.getD j false
theorem getD_tf {listed : Array Bool} {j : Nat} (h : j < listed.size) : listed.getD j true = listed.getD j false := by
  simp [Array.getD_eq_getD_getElem?, h]

theorem SegI.all {k0 m : Nat} {op : Nat → Oper} {st : Nat → St} {out : Nat → Out1} {S pd : Nat → Prop} (h : Seg C ops hs k0 m op st out) (hdw : Dw ops) (hI : SegI C ops hs k0 pd G m op st out S φ a w) (hS : ∀ i, i < m → S i) (hp : ∀ j, ¬pd j) : Inv C G (st m) φ a w := by
  obtain ⟨tm, _, k2, hInv, _⟩ := hI.end_ h hdw (fun i hi => .inl (hS i hi))
  refine ⟨hInv.size, hInv.defers, fun t x hx => hInv.tm t x (k2 t x (fun j hj => ?_) hx), hInv.hr, hInv.ok, hInv.x, hInv.frm, hInv.own, hInv.fix⟩
  rcases hj with hj | ⟨q, hq, _, hno⟩
  · exact absurd hj (hp j)
  · exact absurd (hS q hq) hno
theorem drawn (hT : TCok C.P C.tc) (hdw : Dw ops) (hQ : ∀ φ' a' w', Inv C G sf φ' a' w' → Q .normal a' w') : ∀ (f : Nat) (i m : Nat) (op : Nat → Oper) (st : Nat → St) (out : Nat → Out1) (S pd : Nat → Prop) (φ : Phi) (a : Act) (w : World) (os : List Prop) (listed : Array Bool),
    Seg C ops hs i m op st out → (∀ j, j < m → isBar (op j).op = false) → J ops (i + m) (st m) → runL C ops hs (i + m) (st m) (ops.drop (i + m)) = some (os, sf) → AllP os → i + m ≤ ops.length →
    (ops.drop (i + m) = [] ∨ ∃ o r, ops.drop (i + m) = o :: r ∧ isBar o.op = true) → (noLate ops = true ∨ lateAll C ops hs (i + m) (st m) (ops.drop (i + m)) = true) → SegI C ops hs i pd G m op st out S φ a w → listed.size = ops.length → DC ops (Lf listed) →
    (∀ j, j < ops.length → (listed.getD j false = true ↔ ((j < i ∧ ¬pd j) ∨ ∃ q, q < m ∧ j = i + q ∧ S q))) → unl listed ops.length ≤ f → wpAny C.P .any ops.toArray Q f listed a w := by
  intro f
  induction f with
  | zero =>
    intro i m op st out S pd φ a w os listed hseg hnb hJ hrun hos hle hnx hla hI hsz hdc hl hf
    have hall : ∀ j, j < ops.length → listed.getD j false = true := fun j hj => by
      rw [← getD_tf (by omega)]
      exact unl_zero _ (by omega) j hj
    have hS : ∀ q, q < m → S q := fun q hq => by
      rcases (hl (i + q) (by omega)).1 (hall _ (by omega)) with h | ⟨q', _, h2, h3⟩
      · omega
      · have : q = q' := by omega
        exact this ▸ h3
    have hend : ops.length = i + m := by
      refine Classical.byContradiction fun hne => ?_
      rcases (hl (i + m) (by omega)).1 (hall _ (by omega)) with h | ⟨q', h1, h2, _⟩ <;> omega
    refine ⟨?_, ?_⟩
    · refine List.eq_nil_iff_forall_not_mem.2 fun j hj => ?_
      obtain ⟨h1, o, ho, _⟩ := mem_ready.1 hj
      have hlt : j < ops.length := by have := (Array.getElem?_eq_some_iff.1 ho).1; simpa using this
      rw [getD_tf (by omega), hall j hlt] at h1
      cases h1
    · have hd : ops.drop (i + m) = [] := List.drop_eq_nil_of_le (by omega)
      rw [hd] at hrun
      cases hrun
      exact hQ φ a w (hI.all hseg hdw hS (fun j hj => by
        have h0 := (hI.pdk j hj).1
        rcases (hl j (by omega)).1 (hall j (by omega)) with h | ⟨q, _, h2, _⟩
        · exact h.2 hj
        · omega))
  | succ f ih =>
    intro i m op st out S pd φ a w os listed hseg hnb hJ hrun hos hle hnx hla hI hsz hdc hl hf
    have hbef := befs_ok ops
    refine ⟨fun hr => ?_, fun k hk => ?_⟩
    · -- none may come up: all have
      have hall : ∀ j, j < ops.length → listed.getD j false = true := fun j => by
        induction j using Nat.strongRecOn with
        | _ j ihj =>
          intro hj
          refine Classical.byContradiction fun hno => ?_
          have : j ∈ Region.ready .any ops.toArray listed := mem_ready.2 ⟨by rw [getD_tf (by omega)]; simpa using hno, ops[j], by simp [hj], fun e he hb => by
            have := hdw.back j ops[j] (List.getElem?_eq_getElem hj) e he hb
            exact ihj e.on this (by omega)⟩
          rw [hr] at this
          simp at this
      have hS : ∀ q, q < m → S q := fun q hq => by
        rcases (hl (i + q) (by omega)).1 (hall _ (by omega)) with h | ⟨q', _, h2, h3⟩
        · omega
        · have : q = q' := by omega
          exact this ▸ h3
      have hend : ops.length = i + m := by
        refine Classical.byContradiction fun hne => ?_
        rcases (hl (i + m) (by omega)).1 (hall _ (by omega)) with h | ⟨q', h1, h2, _⟩ <;> omega
      have hd : ops.drop (i + m) = [] := List.drop_eq_nil_of_le (by omega)
      rw [hd] at hrun
      cases hrun
      exact hQ φ a w (hI.all hseg hdw hS (fun j hj => by
        have h0 := (hI.pdk j hj).1
        rcases (hl j (by omega)).1 (hall j (by omega)) with h | ⟨q, _, h2, _⟩
        · exact h.2 hj
        · omega))
    · obtain ⟨hk0, o, ho, hpre⟩ := mem_ready.1 hk
      have ho' : ops[k]? = some o := by simpa using ho
      have hklt : k < ops.length := (List.getElem?_eq_some_iff.1 ho').1
      have hkl : listed.getD k false = false := by rw [← getD_tf (by omega)]; exact hk0
      have hkn : ¬((k < i ∧ ¬pd k) ∨ ∃ q, q < m ∧ k = i + q ∧ S q) := fun h => by
        rw [(hl k hklt).2 h] at hkl
        cases hkl
      -- what it waits for has come up
      have hrdy : ∀ j, ((befs ops).getD k 0).testBit j = true → listed.getD j false = true := fun j hj => hbef k j hj (Lf listed) hdc ⟨o, ho', fun e he hb => hpre e he hb⟩
      -- what has come up did not wait for it
      have hnot : ∀ j oj, ops[j]? = some oj → listed.getD j false = true → ((befs ops).getD j 0).testBit k = true → False := fun j oj hj hlj hb => by
        have := hbef j k hb (Lf listed) hdc ⟨oj, hj, fun e he hb' => hdc j oj hlj hj e he hb'⟩
        rw [show Lf listed k = listed.getD k false from rfl, hkl] at this
        cases this
      have hdc' : DC ops (Lf (listed.setIfInBounds k true)) := fun j oj hj hoj e he hb => by
        show (listed.setIfInBounds k true).getD e.on false = true
        by_cases e1 : j = k
        · subst e1
          rw [ho'] at hoj
          cases hoj
          exact getD_set_true (hpre e he hb)
        · have : (listed.setIfInBounds k true).getD j false = true := hj
          rw [getD_set_ne false (Ne.symm e1)] at this
          exact getD_set_true (hdc j oj this hoj e he hb)
      have hunl : unl (listed.setIfInBounds k true) ops.length ≤ f := by
        have := unl_set hk0 ops.length
        rw [if_pos hklt] at this
        omega
      have hkself : (listed.setIfInBounds k true).getD k false = true := by
        have : k < listed.size := by omega
        simp [Array.getD_eq_getD_getElem?, this]
      -- those that wait are not looked at
      have hwait : ∀ j, pd j → listed.getD j false = true → False := fun j hj hlj => by
        have h0 := (hI.pdk j hj).1
        rcases (hl j (by omega)).1 hlj with h | ⟨q, _, h2, _⟩
        · exact h.2 hj
        · omega
      have hlook : ∀ t, t ∈ rs ops o → ∀ j, j < k → listed.getD j false = false → dstAt ops j ≠ some t := fun t ht j hjk hlj hd => by
        unfold dstAt at hd
        cases hoj : ops[j]? with
        | none => simp [hoj] at hd
        | some oj =>
          have hd' : oj.dst = some t := by simpa [hoj] using hd
          have hor := hdw.rd k j o oj ho' hoj (by omega) t hd' ht
          unfold ordered at hor
          rw [blt_true hjk] at hor
          simp only [if_true] at hor
          rw [hrdy j hor] at hlj
          cases hlj
      by_cases hpk : pd k
      · have hki := (hI.pdk k hpk).1
        obtain ⟨_, of, df, rf, hpf⟩ := hI.pdk k hpk
        refine hI.late hT hseg hdw hpk (fun o1 ho1 t ht j hj hd => ?_) Q _ (fun a' w' φ' hI' => ?_)
        · have e1 : o1 = of := by rw [hpf.flt.at_] at ho1; exact (Option.some.inj ho1).symm
          subst e1
          have e2 : o1 = o := by rw [ho'] at ho1; exact (Option.some.inj ho1).symm
          subst e2
          rcases Nat.lt_trichotomy j k with h1 | h1 | h1
          · refine hlook t ht j h1 ?_ hd
            cases hc : listed.getD j false with
            | false => rfl
            | true => exact (hwait j hj hc).elim
          · subst h1
            unfold dstAt at hd
            rw [ho'] at hd
            exact hdw.self j o1 t ho' hd ht
          · unfold dstAt at hd
            cases hoj : ops[j]? with
            | none => simp [hoj] at hd
            | some oj =>
              have hd' : oj.dst = some t := by simpa [hoj] using hd
              exact hpf.flt.last j oj h1 hoj t ht hd'
        · refine ih i m op st out S _ φ' a' w' os _ hseg hnb hJ hrun hos hle hnx hla hI' (by simp [hsz]) hdc' (fun j hj => ?_) hunl
          by_cases e1 : j = k
          · subst e1
            exact ⟨fun _ => .inl ⟨hki, fun h => h.2 rfl⟩, fun _ => hkself⟩
          · rw [getD_set_ne false (Ne.symm e1), hl j hj]
            constructor
            · rintro (⟨h1, h2⟩ | h)
              · exact .inl ⟨h1, fun h3 => h2 h3.1⟩
              · exact .inr h
            · rintro (⟨h1, h2⟩ | h)
              · exact .inl ⟨h1, fun h3 => h2 ⟨h3, e1⟩⟩
              · exact .inr h
      have hpd0 : ∀ j, pd j → listed.getD j false = false := fun j hj => by
        cases hc : listed.getD j false with
        | false => rfl
        | true => exact (hwait j hj hc).elim
      by_cases hin : ∃ q, q < m ∧ k = i + q
      · obtain ⟨q, hq, rfl⟩ := hin
        have hSq : ¬S q := fun h => hkn (.inr ⟨q, hq, rfl, h⟩)
        have hoq : op q = o := by have := hseg.at_ q hq; rw [ho'] at this; cases this; rfl
        refine hI.step hT hseg hdw hq hSq (fun j g w' hj hSj hg p hp hgp => ?_) (fun t ht j hj hd => ?_) (fun t ht j hj => hlook t (hoq ▸ ht) j (by have := (hI.pdk j hj).1; omega) (hpd0 j hj)) Q _ (fun a' w' φ' hI' => ?_)
        · -- a guard of one that has come up has come up
          have hlj : listed.getD (i + j) false = true := (hl _ (by omega)).2 (.inr ⟨j, hj, rfl, hSj⟩)
          have hjo := hseg.at_ j hj
          have hgj := hdw.gd (i + j) (op j) g w' hjo hg
          have hpo := hseg.at_ p hp
          -- its slot is looked at
          have hrs : ∀ d, (op p).dst = some d → d ∈ rs ops (op j) := fun d hd => by
            unfold rs
            refine List.mem_append.2 (.inr ?_)
            simp only [hg]
            subst hgp
            unfold gch
            simp only [hpo, hd]
            simp
          cases hd : (op p).dst with
          | none =>
            exfalso
            have h1 := hseg.one j hj
            unfold step1 at h1
            rw [hg] at h1
            simp only [hgp, hpo, Option.bind_some, hd] at h1
            cases h1
          | some d =>
            have hor := hdw.rd (i + j) (i + p) (op j) (op p) hjo hpo (by omega) d hd (hrs d hd)
            unfold ordered at hor
            have hlt : Nat.blt (i + p) (i + j) = true := blt_true (by omega)
            rw [hlt] at hor
            simp only [if_true] at hor
            have := hbef (i + j) (i + p) hor (Lf listed) hdc ⟨_, hjo, fun e he hb' => hdc (i + j) _ hlj hjo e he hb'⟩
            rcases (hl (i + p) (by omega)).1 this with h | ⟨p', _, h2, h3⟩
            · omega
            · have : p = p' := by omega
              exact this ▸ h3
        · rw [hoq] at ht
          have hjo := hseg.at_ j hj
          by_cases hjq : j = q
          · subst hjq
            rw [hoq] at hd
            exact absurd ht (hdw.self (i + j) o t ho' hd)
          · have hor := hdw.rd (i + q) (i + j) o (op j) ho' hjo (by omega) t hd ht
            unfold ordered at hor
            refine ⟨fun hlt => ?_, fun hlt hSj => ?_, hjq⟩
            · have hb : Nat.blt (i + j) (i + q) = true := blt_true (by omega)
              rw [hb] at hor
              simp only [if_true] at hor
              rcases (hl (i + j) (by omega)).1 (hrdy _ hor) with h | ⟨p', _, h2, h3⟩
              · omega
              · have : j = p' := by omega
                exact this ▸ h3
            · have hb : Nat.blt (i + j) (i + q) = false := blt_false (by omega)
              rw [hb] at hor
              simp only [Bool.false_eq_true, if_false] at hor
              exact hnot (i + j) _ hjo ((hl _ (by omega)).2 (.inr ⟨j, hj, rfl, hSj⟩)) hor
        · refine ih i m op st out _ pd φ' a' w' os _ hseg hnb hJ hrun hos hle hnx hla hI' (by simp [hsz]) hdc' (fun j hj => ?_) hunl
          by_cases e1 : j = i + q
          · subst e1
            exact ⟨fun _ => .inr ⟨q, hq, rfl, .inr rfl⟩, fun _ => hkself⟩
          · rw [getD_set_ne false (Ne.symm e1), hl j hj]
            constructor
            · rintro (h | ⟨p, h1, h2, h3⟩)
              · exact .inl h
              · exact .inr ⟨p, h1, h2, .inl h3⟩
            · rintro (h | ⟨p, h1, h2, h3 | h3⟩)
              · exact .inl h
              · exact .inr ⟨p, h1, h2, h3⟩
              · subst h3
                exact absurd h2 e1
      · -- the next one that writes
        have hkge : i + m ≤ k := by
          refine Classical.byContradiction fun hc => ?_
          by_cases h1 : k < i
          · exact hkn (.inl ⟨h1, hpk⟩)
          · exact hin ⟨k - i, by omega, by omega⟩
        rcases hnx with hnil | ⟨ob, rb, hcons, hbar⟩
        · have : ops.length ≤ i + m := by
            have := congrArg List.length hnil
            simp at this
            omega
          omega
        · have hob : ops[i + m]? = some ob := by
            have : (ops.drop (i + m))[0]? = some ob := by rw [hcons]; rfl
            simpa using this
          have hke : k = i + m := by
            refine Classical.byContradiction fun hne => ?_
            rcases hdw.bar (i + m) k ob hob hklt (by omega) hbar with hor | ⟨_, h1, _⟩
            · unfold ordered at hor
              have hb : Nat.blt k (i + m) = false := blt_false (by omega)
              rw [hb] at hor
              simp only [Bool.false_eq_true, if_false] at hor
              rcases (hl (i + m) (by omega)).1 (hrdy _ hor) with h | ⟨p', h1, h2, _⟩
              · have := h.1
                omega
              · omega
            · omega
          subst hke
          have hoe : ob = o := by
            rw [hob] at ho'
            exact Option.some.inj ho'
          subst hoe
          have hS : ∀ q, q < m → S q ∨ (¬S q ∧ floats ops (i + q) = true) := fun q hq => by
            by_cases hSq : S q
            · exact .inl hSq
            · rcases hdw.bar (i + m) (i + q) ob hob (by omega) (by omega) hbar with hor | ⟨_, _, h1⟩
              · exfalso
                unfold ordered at hor
                have hb : Nat.blt (i + q) (i + m) = true := blt_true (by omega)
                rw [hb] at hor
                simp only [if_true] at hor
                rcases (hl (i + q) (by omega)).1 (hrdy _ hor) with h | ⟨p', _, h2, h3⟩
                · have := h.1
                  omega
                · have : q = p' := by omega
                  exact hSq (this ▸ h3)
              · exact .inr ⟨hSq, h1⟩
          obtain ⟨tm, k1, k2, hInv, hpd'⟩ := hI.end_ hseg hdw hS
          rw [hcons] at hrun
          unfold runL at hrun
          rw [hbar] at hrun
          simp only at hrun
          split at hrun
          case h_2 => cases hrun
          rename_i o1 s1 hst
          split at hrun
          case h_2 => cases hrun
          rename_i o2 sf' hrn
          cases hrun
          obtain ⟨p1, p2⟩ := AllP.append.1 hos
          have hrb : rb = ops.drop (i + m + 1) := by
            have := congrArg (List.drop 1) hcons
            simpa using this.symm
          have hJ1 : J ops (i + m + 1) s1 := stepB_J hst hJ
          obtain ⟨m2, op2, st2, out2, os2, e0, hseg2, hnb2, hJ2, hrn2, hos2, hle2, hnx2, hlate2⟩ := runL_seg hdw rb (i + m + 1) s1 o2 hrb hrn p2 hJ1
          have hla2 : noLate ops = true ∨ lateAll C ops hs (i + m + 1) s1 rb = true := by
            rcases hla with h | h
            · exact .inl h
            · rw [hcons] at h
              unfold lateAll at h
              rw [hbar] at h
              simp only [hst] at h
              split at h
              · rename_i e1 e2
                cases e2
                exact .inr h
              · cases h
          have hla3 : noLate ops = true ∨ lateAll C ops hs (i + m + 1 + m2) (st2 m2) (ops.drop (i + m + 1 + m2)) = true := hla2.imp id hlate2
          by_cases hsto : isSto ob.op = true
          case neg =>
            have hstrict : ∀ k, k < i + m → listed.getD k false = true := fun k hk => by
              rcases hdw.bar (i + m) k ob hob (by omega) (by omega) hbar with hor | ⟨h1, _⟩
              · unfold ordered at hor
                rw [blt_true hk] at hor
                simp only [if_true] at hor
                exact hrdy _ hor
              · exact absurd h1 hsto
            have hpd1 : ∀ j, ¬pd j := fun j hj => by
              have h0 := (hI.pdk j hj).1
              have := hpd0 j hj
              rw [hstrict j (by omega)] at this
              cases this
            have hS1 : ∀ q, q < m → S q := fun q hq => by
              rcases (hl (i + q) (by omega)).1 (hstrict _ (by omega)) with h | ⟨p', _, h2, h3⟩
              · have := h.1
                omega
              · have : q = p' := by omega
                exact this ▸ h3
            refine stepB_ok hT (hI.all hseg hdw hS1 hpd1) hob hst p1 (fun a' w' φ' hI' => ?_)
            refine ih (i + m + 1) m2 op2 st2 out2 (fun _ => False) (fun _ => False) φ' a' w' os2 _ hseg2 hnb2 hJ2 hrn2 hos2 (by omega) hnx2 hla3 (SegI.start (tm := s1.tm) hseg2 (by rw [e0]; exact hI') (fun t hn x hx => by rw [e0] at hx; exact hx) (fun j hj => hj.elim)) (by simp [hsz]) hdc' (fun j hj => ?_) hunl
            by_cases e1 : j = i + m
            · subst e1
              exact ⟨fun _ => .inl ⟨by omega, fun h => h⟩, fun _ => hkself⟩
            · rw [getD_set_ne false (Ne.symm e1), hl j hj]
              constructor
              · rintro (⟨h1, h2⟩ | ⟨p, h1, h2, h3⟩)
                · exact .inl ⟨by omega, fun h => h⟩
                · exact .inl ⟨by omega, fun h => h⟩
              · rintro (⟨h1, h2⟩ | ⟨p, h1, h2, h3⟩)
                · by_cases h4 : j < i
                  · exact .inl ⟨h4, hpd1 j⟩
                  · exact .inr ⟨j - i, by omega, by omega, hS1 _ (by omega)⟩
                · exact h3.elim
          obtain ⟨hstm, hst'⟩ := stepB_sub (ops := ops) (tm := tm) hsto hst (fun t ht x hx => k2 t x (fun j hj => by
            refine hlook t ht j (hpd' j hj).1 ?_
            rcases hj with hj | ⟨q, hq, rfl, hno⟩
            · exact hpd0 j hj
            · cases hc : listed.getD (i + q) false with
              | false => rfl
              | true =>
                rcases (hl (i + q) (by omega)).1 hc with h | ⟨p', _, h2, h3⟩
                · have := h.1
                  omega
                · have : q = p' := by omega
                  exact absurd (this ▸ h3) hno) hx)
          refine stepB_ok hT hInv hob hst' p1 (fun a' w' φ' hI' => ?_)
          refine ih (i + m + 1) m2 op2 st2 out2 (fun _ => False) (fun j => pd j ∨ ∃ q, q < m ∧ j = i + q ∧ ¬S q) φ' a' w' os2 _ hseg2 hnb2 hJ2 hrn2 hos2 (by omega) hnx2 hla3 (SegI.start (tm := tm) hseg2 (by rw [e0]; exact hI') (fun t hn x hx => k2 t x hn (by rw [e0, hstm] at hx; exact hx)) (fun j hj => ?_)) (by simp [hsz]) hdc' (fun j hj => ?_) hunl
          · obtain ⟨h1, o3, d3, r3, hp3⟩ := hpd' j hj
            obtain ⟨tm3, H3, q1, q2, q3⟩ := hp3.one
            refine ⟨by omega, o3, d3, r3, hp3.flt, hp3.ne, hp3.lt, ⟨tm3, H3, fun t x hx => by rw [e0, hstm]; exact q1 t x hx, fun id blk hl3 => ?_, q3⟩, hp3.obl, hp3.new, hp3.pl, by rw [e0, hstm]; exact hp3.val⟩
            obtain ⟨z1, ty3, t3, off3, z2, z3, z4⟩ := q2 id blk hl3
            refine ⟨?_, ty3, t3, off3, z2, z3, by rw [e0, hstm]; exact z4⟩
            obtain ⟨idw, tyw, xw, offw, zw, w1, w2, w3⟩ := stepB_other hsto hst
            rw [e0, w3 id ?_]
            · exact z1
            · -- it has not come up, so it is among those that are looked at
              have hjn : listed.getD j false = false := by
                rcases hj with hj | ⟨q, hq, rfl, hno⟩
                · exact hpd0 j hj
                · cases hc : listed.getD (i + q) false with
                  | false => rfl
                  | true =>
                    rcases (hl (i + q) (by omega)).1 hc with h | ⟨p', _, h2, h3⟩
                    · have := h.1
                      omega
                    · have : q = p' := by omega
                      exact absurd (this ▸ h3) hno
              have hnor : ordered (befs ops) j (i + m) = false := by
                cases hc : ordered (befs ops) j (i + m) with
                | false => rfl
                | true =>
                  exfalso
                  unfold ordered at hc
                  rw [blt_true h1] at hc
                  simp only [if_true] at hc
                  rw [hrdy _ hc] at hjn
                  cases hjn
              have hfl : floats ops j = true := by
                rcases hdw.bar (i + m) j ob hob (by omega) (by omega) hbar with hor | ⟨_, _, h⟩
                · rw [hnor] at hor
                  cases hor
                · exact h
              have hmem := lateLds_mem h1 hp3.flt.at_ z2 hfl hnor
              have hok : lateOk ops (i + m) (st m) ob = true := by
                rcases hla with h | h
                · unfold noLate at h
                  simp only [List.all_eq_true, List.mem_range] at h
                  have := h (i + m) hklt
                  simp only [hob, hbar, Bool.not_true, Bool.false_or, List.isEmpty_iff] at this
                  rw [this] at hmem
                  cases hmem
                · rw [hcons] at h
                  unfold lateAll at h
                  rw [hbar] at h
                  simp only at h
                  split at h
                  · assumption
                  · cases h
              exact lateOk_ne hok hmem w1 w2 z4
          by_cases e1 : j = i + m
          · subst e1
            refine ⟨fun _ => .inl ⟨by omega, fun h => ?_⟩, fun _ => hkself⟩
            rcases h with h | ⟨q, hq, h2, _⟩
            · have := (hI.pdk _ h).1
              omega
            · omega
          · rw [getD_set_ne false (Ne.symm e1), hl j hj]
            constructor
            · rintro (⟨h1, h2⟩ | ⟨p, h1, h2, h3⟩)
              · refine .inl ⟨by omega, fun h => ?_⟩
                rcases h with h | ⟨q, hq, h4, _⟩
                · exact h2 h
                · omega
              · refine .inl ⟨by omega, fun h => ?_⟩
                rcases h with h | ⟨q, hq, h4, h5⟩
                · have := (hI.pdk _ h).1
                  omega
                · have : q = p := by omega
                  exact h5 (this ▸ h3)
            · rintro (⟨h1, h2⟩ | ⟨p, h1, h2, h3⟩)
              · by_cases h4 : j < i
                · exact .inl ⟨h4, fun h => h2 (.inl h)⟩
                · exact .inr ⟨j - i, by omega, by omega, Classical.byContradiction fun hc => h2 (.inr ⟨j - i, by omega, by omega, hc⟩)⟩
              · exact h3.elim
end
end Go.Ab

set_option linter.unusedSimpArgs false
set_option linter.unusedVariables false
namespace Go.Ab
open Go.RowKit

theorem Inv.drew {C : Cx} {G : Gl} {s : St} {φ : Phi} {a : Act} {w : World} (hI : Inv C G s φ a w) : Inv C G s φ a { w with drawn := w.drawn + 1 } := by
  have im : ∀ b, Imm φ G.X w b → Imm φ G.X { w with drawn := w.drawn + 1 } b ∧ ({ w with drawn := w.drawn + 1 } : World).heap[b]? = w.heap[b]? := fun b h => ⟨h, rfl⟩
  refine ⟨hI.size, hI.defers, fun t x hx => ?_, fun i blk hl => ?_, ⟨hI.ok.inj, hI.ok.lt, hI.ok.free, hI.ok.dom⟩, hI.x, ⟨hI.frm.os, hI.frm.tape, hI.frm.output, hI.frm.size, hI.frm.block⟩, hI.own, hI.fix⟩
  · have := hI.tm t x hx
    cases x with
    | plain y => exact Rel.mono im this _ (fun _ _ _ h => h) (fun _ h => h)
    | gd d want y => exact ⟨fun e => (this.1 e).mono im _ (fun _ _ _ h => h) (fun _ h => h), this.2⟩
  · exact (hI.hr i blk hl).mono im (fun _ _ _ => rfl) (fun _ _ _ h => h) (fun _ h => h)

/-- Code, read on plain data. -/
structure AWP (C : Cx) (c : Code) (s : St) (K : Exit → St → Prop) : Prop where
  run : ∀ (G : Gl) (φ : Phi) (a : Act) (w : World), Inv C G s φ a w → c.wp C.P (fun e a' w' => ∃ s' φ', K e s' ∧ Inv C G s' φ' a' w') a w

section
variable {C : Cx} {c x y : Code} {s s' sf : St} {K K' : Exit → St → Prop} {os : List Prop}

theorem AWP.mono (h : AWP C c s K) (hk : ∀ e s, K e s → K' e s) : AWP C c s K' := ⟨fun G φ a w hI =>
  wp_mono (h.run G φ a w hI) fun _ _ _ ⟨s', φ', h1, h2⟩ => ⟨s', φ', hk _ _ h1, h2⟩⟩
theorem AWP.skip (h : K .normal s) : AWP C .skip s K := ⟨fun _ φ _ _ hI => wp_skip ⟨s, φ, h, hI⟩⟩
theorem AWP.label {l : Nat} (h : K .normal s) : AWP C (.label l) s K := ⟨fun _ φ _ _ hI => wp_label ⟨s, φ, h, hI⟩⟩
theorem AWP.exit {id : Nat} (h : K (.exit id) s) : AWP C (.exit id) s K := ⟨fun _ φ _ _ hI => wp_exit ⟨s, φ, h, hI⟩⟩
theorem AWP.ret (h : K .ret s) : AWP C .ret s K := ⟨fun _ φ _ _ hI => wp_ret ⟨s, φ, h, hI⟩⟩
def thenK (C : Cx) (y : Code) (K : Exit → St → Prop) : Exit → St → Prop
  | .normal, s => AWP C y s K
  | e, s => K e s
theorem AWP.seq (h : AWP C x s (thenK C y K)) : AWP C (.seq x y) s K := by
  constructor
  intro G φ a w hI
  refine wp_seq (wp_mono (h.run G φ a w hI) fun e a' w' ⟨s', φ', h1, h2⟩ => ?_)
  cases e <;> first | exact (h1 : AWP C y s' K).run G φ' a' w' h2 | exact ⟨s', φ', h1, h2⟩
theorem AWP.cond {o : Operand} {b : Bool} (ho : rdA s.tm [] o = some (.val (.bool b))) (ht : b = true → AWP C x s K) (hf : b = false → AWP C y s K) : AWP C (.cond o x y) s K := by
  constructor
  intro G φ a w hI
  have h1 := (rdA_ok hI.gok hI.tm0 (fun p hp => by simp at hp) _ _ ho).val_inv
  exact wp_cond_split h1 (fun e => (ht e).run G φ a w hI) (fun e => (hf e).run G φ a w hI)
theorem AWP.condB {o : Operand} (ho : rdA s.tm [] o = some .bo) (ht : AWP C x s K) (hf : AWP C y s K) : AWP C (.cond o x y) s K := by
  constructor
  intro G φ a w hI
  obtain ⟨b, h1⟩ : ∃ b, a.eval o = .bool b := by
    have := rdA_ok hI.gok hI.tm0 (fun p hp => by simp at hp) _ _ ho
    generalize a.eval o = u at this
    cases this
    exact ⟨_, rfl⟩
  exact wp_cond_split h1 (fun _ => ht.run G φ a w hI) (fun _ => hf.run G φ a w hI)
def blockK (id : Nat) (K : Exit → St → Prop) : Exit → St → Prop
  | .exit id', s => if id' = id then K .normal s else K (.exit id') s
  | e, s => K e s
theorem AWP.block {id : Nat} (h : AWP C c s (blockK id K)) : AWP C (.block id c) s K := by
  constructor
  intro G φ a w hI
  refine wp_block (wp_mono (h.run G φ a w hI) fun e a' w' ⟨s', φ', h1, h2⟩ => ?_)
  cases e with
  | exit id' =>
    simp only [Exit.inBlock, blockK] at h1 ⊢
    split
    · rename_i e
      rw [if_pos e] at h1
      exact ⟨s', φ', h1, h2⟩
    · rename_i e
      rw [if_neg e] at h1
      exact ⟨s', φ', h1, h2⟩
  | _ => exact ⟨s', φ', h1, h2⟩
def scopeK (K : Exit → St → Prop) : Exit → St → Prop
  | .goto _, _ => False
  | e, s => K e s
theorem AWP.scope (h : AWP C c s (scopeK K)) : AWP C (.scope c) s K := by
  constructor
  intro G φ a w hI
  refine wp_scope_straight (wp_mono (h.run G φ a w hI) fun e a' w' ⟨s', φ', h1, h2⟩ => ?_)
  cases e <;> first | exact (h1 : False).elim | exact ⟨s', φ', h1, h2⟩
/-- A loop: what holds at the head of each round, and what goes down. -/
theorem AWP.loop (I : Nat → St → Prop) (n : Nat) (h0 : I n s) (round : ∀ n s, I n s → AWP C c s (fun e s' => match e with | .normal => ∃ k, k < n ∧ I k s' | e => K e s')) : AWP C (.loop c) s K := by
  constructor
  intro G φ a w hI
  intro b k cs
  have key : ∀ n s φ a w, I n s → Inv C G s φ a w → ∃ e a' w', (∃ s' φ', K e s' ∧ Inv C G s' φ' a' w') ∧ Arrives C.P (lone (b.at a (.code c :: .inLoop c :: k)) cs w) b k cs e a' w' := by
    intro n
    induction n using Nat.strongRecOn with
    | _ n ih =>
      intro s φ a w hn hI
      obtain ⟨e, a₁, w₁, ⟨s1, φ1, hq, hI1⟩, harr⟩ := (round n s hn).run G φ a w hI b (.inLoop c :: k) cs
      cases e with
      | normal =>
        obtain ⟨j, hj, hIj⟩ := hq
        obtain ⟨e₂, a₂, w₂, hq₂, harr₂⟩ := ih j hj s1 φ1 a₁ w₁ hIj hI1
        exact ⟨e₂, a₂, w₂, hq₂, .of_steps (Steps.trans harr (.one step_inLoop)) harr₂⟩
      | exit id => exact ⟨_, a₁, w₁, ⟨s1, φ1, hq, hI1⟩, .pass (x := .inLoop c) rfl (fun _ _ => .inl (by simp)) harr⟩
      | goto l => exact ⟨_, a₁, w₁, ⟨s1, φ1, hq, hI1⟩, .pass (x := .inLoop c) rfl (fun _ _ => .inl (by simp)) harr⟩
      | ret => exact ⟨_, a₁, w₁, ⟨s1, φ1, hq, hI1⟩, .pass (x := .inLoop c) rfl (fun _ _ => .inl (by simp)) harr⟩
      | panic ch => exact ⟨_, a₁, w₁, ⟨s1, φ1, hq, hI1⟩, .pass (x := .inLoop c) rfl (fun _ _ => .inl (by simp)) harr⟩
      | outgrown => exact ⟨_, a₁, w₁, ⟨s1, φ1, hq, hI1⟩, .pass (x := .inLoop c) rfl (fun _ _ => .inl (by simp)) harr⟩
  obtain ⟨e, a', w', hq, harr⟩ := key n s φ a w h0 hI
  exact ⟨e, a', w', hq, .of_steps (.one step_loop) harr⟩

/-- A region: reckoned, what is owed paid. -/
theorem AWP.region (hT : TCok C.P C.tc) (hm : C.P.follows .mixedOrders = true) {id : Nat} {ops : List Oper} {draw : Bool} (hs : List (Nat × Hint)) (hr : runR C ops draw hs s = some (os, sf)) (ho : AllP os) (hk : K .normal sf) : AWP C (.region id ops.toArray draw) s K := by
  constructor
  intro G φ a w hI
  unfold runR at hr
  split at hr
  case h_2 => cases hr
  rename_i hd
  cases draw with
  | false =>
    refine wp_region ?_
    have := runL_seq (Q := fun e a' w' => ∃ s' φ', K e s' ∧ Inv C G s' φ' a' w') hT ops 0 (clSt s) φ a w os (by simp) hr ho hI.cl (fun a' w' φ' hI' => ⟨sf, φ', hk, hI'⟩)
    rw [show List.range ops.toArray.size = List.range' 0 ops.length by rw [List.range_eq_range']; simp]
    exact this
  | true =>
    have hd : drawOk ops = true ∧ (noLate ops = true ∨ lateAll C ops hs 0 (clSt s) ops = true) := by simpa using hd
    have hdw := drawOk_dw (ops := ops) hd.1
    refine wp_region_any hm ?_
    obtain ⟨m, op, st, out, os', e0, hseg, hnb, hJ, hrn, hos', hle, hnx, hlate⟩ := runL_seg hdw ops 0 (clSt s) os (by simp) hr ho J.cl
    have hcl := hI.cl.drew
    have hsz : (Array.replicate ops.toArray.size false).size = ops.length := by simp
    have hget : ∀ j, (Array.replicate ops.toArray.size false).getD j false = false := fun j => by
      simp only [Array.getD_eq_getD_getElem?, Array.getElem?_replicate]
      split <;> rfl
    refine drawn hT hdw (fun φ' a' w' hI' => ⟨sf, φ', hk, hI'⟩) ops.toArray.size 0 m op st out (fun _ => False) (fun _ => False) φ a _ os' _ hseg hnb hJ hrn hos' (by simpa using hle) hnx (hd.2.imp (fun h => h) hlate) (SegI.start (tm := (st 0).tm) hseg (by rw [e0]; exact hcl) (fun t _ x hx => hx) (fun j hj => hj.elim)) hsz ?_ ?_ ?_
    · intro i o hi
      rw [show Lf (Array.replicate ops.toArray.size false) i = false from hget i] at hi
      cases hi
    · intro j hj
      rw [hget j]
      constructor
      · intro h; cases h
      · rintro (h | ⟨q, _, _, h⟩)
        · have := h.1
          omega
        · exact h.elim
    · have : ∀ (l : Array Bool) n, unl l n ≤ n := fun l n => by
        induction n with
        | zero => simp [unl]
        | succ n ih => simp only [unl]; split <;> omega
      simpa using this _ ops.length

/-- A part of the state is let go. -/
def keepT (l : List Tmp) (s : St) : St := ⟨restr l s.tm, s.H⟩
theorem AWP.keep (l : List Tmp) (h : AWP C c (keepT l s) K) : AWP C c s K := ⟨fun G φ a w hI =>
  h.run G φ a w ⟨hI.size, hI.defers, fun t x hx => hI.tm t x (lk_restr hx).2, hI.hr, hI.ok, hI.x, hI.frm, hI.own, hI.fix⟩⟩
end
end Go.Ab

set_option linter.unusedSimpArgs false
set_option linter.unusedVariables false
namespace Go.Ab
open Go.RowKit

def reEdge (σ : List Nat) (e : Edge) : Edge := { e with on := σ.getD e.on 0 }
def reOp (σ : List Nat) (o : Oper) : Oper := { o with after := o.after.map (reEdge σ), guard := o.guard.map fun p => (σ.getD p.1 0, p.2) }
def permOps (π σ : List Nat) (ops : List Oper) : List Oper := π.map fun i => reOp σ (ops.getD i default)
def permOk (π σ : List Nat) (ops : List Oper) : Bool :=
  (Nat.beq π.length ops.length && Nat.beq σ.length ops.length) &&
  ((List.range ops.length).all fun i => (Nat.blt (π.getD i 0) ops.length && Nat.blt (σ.getD i 0) ops.length) && (Nat.beq (π.getD (σ.getD i 0) 0) i && Nat.beq (σ.getD (π.getD i 0) 0) i)) &&
  (ops.all fun o => (o.after.toList.all fun e => Nat.blt e.on ops.length) && (match o.guard with | some (j, _) => Nat.blt j ops.length | none => true))
structure Pm (π σ : List Nat) (ops : List Oper) : Prop where
  lp : π.length = ops.length
  ls : σ.length = ops.length
  pi : ∀ i, i < ops.length → π.getD i 0 < ops.length
  si : ∀ i, i < ops.length → σ.getD i 0 < ops.length
  ps : ∀ i, i < ops.length → π.getD (σ.getD i 0) 0 = i
  sp : ∀ i, i < ops.length → σ.getD (π.getD i 0) 0 = i
  ed : ∀ (i : Nat) (o : Oper), ops[i]? = some o → ∀ e ∈ o.after, e.on < ops.length
  gd : ∀ (i : Nat) (o : Oper) (j : Nat) (w : Bool), ops[i]? = some o → o.guard = some (j, w) → j < ops.length
theorem permOk_pm {π σ : List Nat} {ops : List Oper} (h : permOk π σ ops = true) : Pm π σ ops := by
  unfold permOk at h
  simp only [Bool.and_eq_true, List.all_eq_true, List.mem_range] at h
  obtain ⟨⟨⟨h1, h2⟩, h3⟩, h4⟩ := h
  have b1 := fun i hi => (h3 i hi).1.1
  have b2 := fun i hi => (h3 i hi).1.2
  have b3 := fun i hi => (h3 i hi).2.1
  have b4 := fun i hi => (h3 i hi).2.2
  refine ⟨Nat.eq_of_beq_eq_true h1, Nat.eq_of_beq_eq_true h2, fun i hi => by have := b1 i hi; rwa [Nat.blt_eq] at this, fun i hi => by have := b2 i hi; rwa [Nat.blt_eq] at this, fun i hi => Nat.eq_of_beq_eq_true (b3 i hi), fun i hi => Nat.eq_of_beq_eq_true (b4 i hi), fun i o ho e he => ?_, fun i o j w ho hg => ?_⟩
  · have := (h4 o (List.mem_of_getElem? ho)).1 e (by simpa using he)
    rwa [Nat.blt_eq] at this
  · have := (h4 o (List.mem_of_getElem? ho)).2
    rw [hg] at this
    simpa using this
section
variable {π σ : List Nat} {ops : List Oper}
theorem perm_len (h : Pm π σ ops) : (permOps π σ ops).length = ops.length := by simp [permOps, h.lp]
theorem perm_get (h : Pm π σ ops) {i : Nat} (hi : i < ops.length) : (permOps π σ ops)[σ.getD i 0]? = some (reOp σ ops[i]) := by
  have h1 := h.si i hi
  have h2 := h.ps i hi
  unfold permOps
  have h3 : σ.getD i 0 < π.length := by rw [h.lp]; exact h1
  have h4 : π.getD (σ.getD i 0) 0 = π[σ.getD i 0] := by
    rw [List.getD_eq_getElem?_getD (l := π), List.getElem?_eq_getElem h3]; rfl
  rw [List.getElem?_map, List.getElem?_eq_getElem h3, Option.map_some, ← h4, h2]
  congr 2
  rw [List.getD_eq_getElem?_getD, List.getElem?_eq_getElem hi]; rfl
theorem re_yielded (h : Pm π σ ops) {tmps : Array Value} {j : Nat} (hj : j < ops.length) : yielded (permOps π σ ops).toArray tmps (σ.getD j 0) = yielded ops.toArray tmps j := by
  unfold yielded
  have e1 : (permOps π σ ops).toArray[σ.getD j 0]? = some (reOp σ ops[j]) := by simpa using perm_get h hj
  have e2 : ops.toArray[j]? = some ops[j] := by simp [hj]
  rw [e1, e2]
  rfl
theorem re_wanted (h : Pm π σ ops) {tmps : Array Value} {i : Nat} (hi : i < ops.length) : Region.wanted (reOp σ ops[i]) (yielded (permOps π σ ops).toArray tmps) = Region.wanted ops[i] (yielded ops.toArray tmps) := by
  unfold Region.wanted
  cases hg : ops[i].guard with
  | none => simp [reOp, hg]
  | some p =>
    obtain ⟨j, w⟩ := p
    simp only [reOp, hg, Option.map_some]
    rw [re_yielded h (h.gd i _ j w (List.getElem?_eq_getElem hi) hg)]
theorem re_wp {P : Program} {o : Oper} {a : Act} {w : World} {K : Act → World → Prop} {Q : Exit → Act → World → Prop} : (reOp σ o).wp P a w K Q = o.wp P a w K Q := rfl
theorem re_asks {P : Program} {o : Oper} {a : Act} {w : World} : (reOp σ o).asks P a w = o.asks P a w := rfl
theorem re_wpOp (h : Pm π σ ops) {P : Program} {Q : Exit → Act → World → Prop} {K K' : Act → World → Prop} {a : Act} {w : World} {i : Nat} (hi : i < ops.length) (hK : ∀ a w, K a w → K' a w)
    (hh : wpOp P (permOps π σ ops).toArray Q (σ.getD i 0) K a w) : wpOp P ops.toArray Q i K' a w := by
  refine wpOp_mono hK ?_
  unfold wpOp at hh ⊢
  have e1 : (permOps π σ ops).toArray[σ.getD i 0]? = some (reOp σ ops[i]) := by simpa using perm_get h hi
  have e2 : ops.toArray[i]? = some ops[i] := by simp [hi]
  rw [e1] at hh
  rw [e2]
  simp only [re_wanted h hi, re_wp, re_asks] at hh ⊢
  exact hh
theorem re_any (h : Pm π σ ops) {P : Program} {Q : Exit → Act → World → Prop} : ∀ (f : Nat) (l l' : Array Bool) (a : Act) (w : World), l.size = ops.length → l'.size = ops.length → (∀ i, i < ops.length → l'.getD (σ.getD i 0) false = l.getD i false) →
    wpAny P .any (permOps π σ ops).toArray Q f l' a w → wpAny P .any ops.toArray Q f l a w := by
  have tf : ∀ (l : Array Bool) i, i < l.size → l.getD i true = l.getD i false := fun l i hi => by simp [Array.getD_eq_getD_getElem?, hi]
  have rdy : ∀ (l l' : Array Bool), l.size = ops.length → l'.size = ops.length → (∀ i, i < ops.length → l'.getD (σ.getD i 0) false = l.getD i false) → ∀ i, i < ops.length → (i ∈ Region.ready .any ops.toArray l ↔ σ.getD i 0 ∈ Region.ready .any (permOps π σ ops).toArray l') := by
    intro l l' hl hl' hr i hi
    have e1 : (permOps π σ ops).toArray[σ.getD i 0]? = some (reOp σ ops[i]) := by simpa using perm_get h hi
    have e2 : ops.toArray[i]? = some ops[i] := by simp [hi]
    have hsi := h.si i hi
    rw [mem_ready, mem_ready, e1, e2, tf l i (by omega), tf l' _ (by omega), hr i hi]
    refine and_congr Iff.rfl ?_
    constructor
    · rintro ⟨o, ho, hall⟩
      cases ho
      refine ⟨_, rfl, fun e he hb => ?_⟩
      simp only [reOp, Array.mem_map] at he
      obtain ⟨e0, he0, rfl⟩ := he
      show l'.getD (σ.getD e0.on 0) false = true
      rw [hr _ (h.ed i _ (List.getElem?_eq_getElem hi) e0 he0)]
      exact hall e0 he0 hb
    · rintro ⟨o, ho, hall⟩
      cases ho
      refine ⟨_, rfl, fun e he hb => ?_⟩
      rw [← hr _ (h.ed i _ (List.getElem?_eq_getElem hi) e he)]
      exact hall (reEdge σ e) (by simp only [reOp, Array.mem_map]; exact ⟨e, he, rfl⟩) hb
  have lt : ∀ (l : Array Bool) i, i ∈ Region.ready .any ops.toArray l → i < ops.length := fun l i hi => by
    obtain ⟨_, o, ho, _⟩ := mem_ready.1 hi
    have := (Array.getElem?_eq_some_iff.1 ho).1
    simpa using this
  have lt' : ∀ (l : Array Bool) i, i ∈ Region.ready .any (permOps π σ ops).toArray l → i < ops.length := fun l i hi => by
    obtain ⟨_, o, ho, _⟩ := mem_ready.1 hi
    have := (Array.getElem?_eq_some_iff.1 ho).1
    have h2 := perm_len h
    simp only [List.size_toArray] at this
    omega
  have nil : ∀ (l l' : Array Bool), l.size = ops.length → l'.size = ops.length → (∀ i, i < ops.length → l'.getD (σ.getD i 0) false = l.getD i false) → Region.ready .any ops.toArray l = [] → Region.ready .any (permOps π σ ops).toArray l' = [] := by
    intro l l' hl hl' hr he
    refine List.eq_nil_iff_forall_not_mem.2 fun k hk => ?_
    have hk' := lt' l' k hk
    have := (rdy l l' hl hl' hr (π.getD k 0) (h.pi k hk')).2 (by rw [h.sp k hk']; exact hk)
    rw [he] at this
    cases this
  intro f
  induction f with
  | zero =>
    intro l l' a w hl hl' hr hh
    refine ⟨?_, hh.2⟩
    refine List.eq_nil_iff_forall_not_mem.2 fun k hk => ?_
    have := (rdy l l' hl hl' hr k (lt l k hk)).1 hk
    rw [hh.1] at this
    cases this
  | succ f ih =>
    intro l l' a w hl hl' hr hh
    refine ⟨fun he => hh.1 (nil l l' hl hl' hr he), fun i hi => ?_⟩
    have hlt := lt l i hi
    have h1 := hh.2 _ ((rdy l l' hl hl' hr i hlt).1 hi)
    refine re_wpOp h hlt (fun a w hw => ih _ _ a w (by simp [hl]) (by simp [hl']) (fun j hj => ?_) hw) h1
    by_cases e : i = j
    · subst e
      have := h.si i hlt
      have q1 : (l.setIfInBounds i true).getD i false = true := by simp [Array.getD_eq_getD_getElem?, hl, hlt]
      have q2 : (l'.setIfInBounds (σ.getD i 0) true).getD (σ.getD i 0) false = true := by
        rw [Array.getD_eq_getD_getElem?, Array.getElem?_setIfInBounds_self_of_lt (by omega)]; rfl
      rw [q1, q2]
    · have ne : σ.getD i 0 ≠ σ.getD j 0 := fun e2 => e (by rw [← h.ps i hlt, e2, h.ps j hj])
      rw [getD_set_ne false e, getD_set_ne false ne, hr j hj]
/-- A drawn region, read in another order. -/
theorem AWP.regionP {C : Cx} {K : Exit → St → Prop} {s sf : St} {os : List Prop} (hT : TCok C.P C.tc) (hm : C.P.follows .mixedOrders = true) {id : Nat} (π σ : List Nat) (hp : permOk π σ ops = true) (hs : List (Nat × Hint)) (hr : runR C (permOps π σ ops) true hs s = some (os, sf)) (ho : AllP os) (hk : K .normal sf) : AWP C (.region id ops.toArray true) s K := by
  have h := permOk_pm hp
  constructor
  intro G φ a w hI
  unfold runR at hr
  split at hr
  case h_2 => cases hr
  rename_i hd
  have hd : drawOk (permOps π σ ops) = true ∧ (noLate (permOps π σ ops) = true ∨ lateAll C (permOps π σ ops) hs 0 (clSt s) (permOps π σ ops) = true) := by simpa using hd
  have hdw := drawOk_dw hd.1
  refine wp_region_any hm ?_
  have hlen := perm_len h
  refine re_any h _ _ (Array.replicate (permOps π σ ops).toArray.size false) _ _ (by simp) (by simp [hlen]) (fun i hi => ?_) ?_
  · have := h.si i hi
    simp [Array.getD_eq_getD_getElem?, Array.getElem?_replicate, hi, hlen]
    split <;> rfl
  · obtain ⟨m, op, st, out, os', e0, hseg, hnb, hJ, hrn, hos', hle, hnx, hlate⟩ := runL_seg hdw (permOps π σ ops) 0 (clSt s) os (by simp) hr ho J.cl
    have hcl := hI.cl.drew
    have hsz : (Array.replicate (permOps π σ ops).toArray.size false).size = (permOps π σ ops).length := by simp
    have hget : ∀ j, (Array.replicate (permOps π σ ops).toArray.size false).getD j false = false := fun j => by
      simp only [Array.getD_eq_getD_getElem?, Array.getElem?_replicate]
      split <;> rfl
    refine drawn hT hdw (fun φ' a' w' hI' => ⟨sf, φ', hk, hI'⟩) ops.toArray.size 0 m op st out (fun _ => False) (fun _ => False) φ a _ os' _ hseg hnb hJ hrn hos' (by simpa using hle) hnx (hd.2.imp (fun h => h) hlate) (SegI.start (tm := (st 0).tm) hseg (by rw [e0]; exact hcl) (fun t _ x hx => hx) (fun j hj => hj.elim)) hsz ?_ ?_ ?_
    · intro i o hi
      rw [show Lf (Array.replicate (permOps π σ ops).toArray.size false) i = false from hget i] at hi
      cases hi
    · intro j hj
      rw [hget j]
      constructor
      · intro h; cases h
      · rintro (h | ⟨q, _, _, h⟩)
        · have := h.1
          omega
        · exact h.elim
    · have : ∀ (l : Array Bool) n, unl l n ≤ n := fun l n => by
        induction n with
        | zero => simp [unl]
        | succ n ih => simp only [unl]; split <;> omega
      have h3 := this (Array.replicate (permOps π σ ops).toArray.size false) (permOps π σ ops).length
      simp only [List.size_toArray] at h3 ⊢
      omega
end
/-! Own numbers, each greater by k. -/
def renT (k : Nat) : T → T
  | .plain x => .plain (ren k x)
  | .gd d w x => .gd d w (ren k x)
def renTm (k : Nat) : List (Nat × T) → List (Nat × T)
  | [] => []
  | (t, x) :: r => (t, renT k x) :: renTm k r
theorem lk_renTm (k : Nat) : ∀ {tm : List (Nat × T)} {t : Nat} {x : T}, lk (renTm k tm) t = some x → ∃ y, lk tm t = some y ∧ x = renT k y
  | [], _, _, h => by cases h
  | (q, y) :: r, t, x, h => by
    simp only [renTm, lk] at h ⊢
    split at h
    · rename_i e
      cases h
      exact ⟨y, by rw [if_pos e], rfl⟩
    · rename_i e
      obtain ⟨z, h1, h2⟩ := lk_renTm k h
      exact ⟨z, by rw [if_neg e]; exact h1, h2⟩
def Phi.sh (k : Nat) (φ : Phi) : Phi := fun i => if i < k then .none else φ (i - k)
theorem Phi.sh_add {k : Nat} {φ : Phi} (i : Nat) : φ.sh k (i + k) = φ i := by
  unfold Phi.sh
  rw [if_neg (by omega), Nat.add_sub_cancel]
theorem Phi.sh_at {k : Nat} {φ : Phi} {i b : Nat} {c : Option Nat} (h : φ.sh k i = .at b c) : φ (i - k) = .at b c ∧ k ≤ i := by
  unfold Phi.sh at h
  split at h
  · cases h
  · exact ⟨h, by omega⟩
def smallH (k : Nat) : List (Nat × Blk) → Bool
  | [] => true
  | (i, _) :: r => Nat.blt (i + k) BIG && smallH k r
theorem smallH_get {k : Nat} : ∀ {H : List (Nat × Blk)} {i : Nat} {b : Blk}, smallH k H = true → lk H i = some b → i + k < BIG
  | [], _, _, _, h => by cases h
  | (j, b') :: r, i, b, hs, h => by
    simp only [smallH, Bool.and_eq_true, Nat.blt_eq] at hs
    simp only [lk, beq_iff_eq] at h
    split at h
    · rename_i e
      subst e
      exact hs.1
    · exact smallH_get hs.2 h
/-- All own numbers grow by k. -/
def shiftS (k : Nat) (s : St) : St := ⟨renTm k s.tm, renH k s.H⟩
theorem Inv.shift {C : Cx} {G : Gl} {s : St} {φ : Phi} {a : Act} {w : World} (hI : Inv C G s φ a w) (k : Nat) (hsm : smallH k s.H = true) : Inv C G (shiftS k s) (φ.sh k) a w := by
  have im : ∀ b, Imm φ G.X w b → Imm (φ.sh k) G.X w b ∧ w.heap[b]? = w.heap[b]? := fun b h => ⟨⟨h.1, fun id c hs => h.2.1 _ c (Phi.sh_at hs).1, h.2.2⟩, rfl⟩
  have hk : ∀ id, φ id ≠ .none → φ.sh k (id + k) = φ id := fun id _ => Phi.sh_add id
  have up : ∀ {x : V} {u : Value}, Rel (Imm φ G.X w) w φ x u → Rel (Imm (φ.sh k) G.X w) w (φ.sh k) (ren k x) u := fun h =>
    Rel.mono im (h.ren (φ.sh k) hk) _ (fun _ _ _ h => h) (fun _ h => h)
  refine ⟨hI.size, hI.defers, fun t x hx => ?_, fun i blk hl => ?_, ⟨fun i j b c c' hi hj => ?_, fun i b c hi => ?_, fun i b c hi => ?_, fun i hi => ?_⟩, hI.x, hI.frm, fun i b c hi => ?_, fun i hb h0 => .inr ?_⟩
  rotate_right
  · show lk (renH k s.H) i = none
    cases hc : lk (renH k s.H) i with
    | none => rfl
    | some b0 =>
      obtain ⟨id, b1, rfl, h1, _⟩ := lk_renH hc
      have := smallH_get hsm h1
      omega
  · obtain ⟨y, hy, rfl⟩ := lk_renTm k hx
    have := hI.tm t y hy
    cases y with
    | plain y => exact up this
    | gd d want y => exact ⟨fun e => up (this.1 e), this.2⟩
  · obtain ⟨id, b0, rfl, h1, rfl⟩ := lk_renH hl
    rw [Phi.sh_add]
    have := (hI.hr id b0 h1).ren (φ.sh k) hk
    refine this.mono im (fun _ _ _ => rfl) (fun _ _ _ h => h) (fun _ h => h)
  · obtain ⟨h1, k1⟩ := Phi.sh_at hi
    obtain ⟨h2, k2⟩ := Phi.sh_at hj
    have := hI.ok.inj _ _ _ _ _ h1 h2
    omega
  · exact hI.ok.lt _ _ _ (Phi.sh_at hi).1
  · exact hI.ok.free _ _ _ (Phi.sh_at hi).1
  · unfold Phi.sh
    split
    · rfl
    · rename_i hge
      refine hI.ok.dom _ ?_
      cases hc : lk s.H (i - k) with
      | none => rfl
      | some b0 =>
        have := lk_renH_of (k := k) hc
        rw [show i - k + k = i by omega] at this
        have e : lk (renH k s.H) i = none := hi
        rw [e] at this
        cases this
  · exact hI.own _ _ _ (Phi.sh_at hi).1
theorem AWP.shift {C : Cx} {c : Code} {s s' : St} {K : Exit → St → Prop} (k : Nat) (hsm : smallH k s.H = true) (hs : shiftS k s = s') (h : AWP C c s' K) : AWP C c s K := ⟨fun G φ a w hI => h.run G _ a w (hs ▸ hI.shift k hsm)⟩
end Go.Ab
