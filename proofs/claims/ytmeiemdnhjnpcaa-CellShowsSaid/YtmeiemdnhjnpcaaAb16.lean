/- Regions. -/
import Derived.Test.YtmeiemdnhjnpcaaAb15c
set_option linter.unusedSimpArgs false
set_option linter.unusedVariables false
namespace Go.Ab
open Go.RowKit

/-! What another block holds of a place that moves is let go. -/
def killV (ok : Nat → Bool) (x : V) : V := match inIds ok x with | true => x | false => .top
def killB (ok : Nat → Bool) (b : Blk) : Blk := if b.flat then b else { b with cells := b.cells.map (killV ok) }
def killHo (skip ok : Nat → Bool) : List (Nat × Blk) → List (Nat × Blk)
  | [] => []
  | (j, b) :: r => (j, if skip j then b else killB ok b) :: killHo skip ok r
theorem lk_killHo {skip ok : Nat → Bool} : ∀ {H : List (Nat × Blk)} (j : Nat), lk (killHo skip ok H) j = (lk H j).map fun b => if skip j then b else killB ok b
  | [], j => rfl
  | (k, b) :: r, j => by
    simp only [killHo, lk, beq_iff_eq]
    split
    · rename_i e
      subst e
      rfl
    · exact lk_killHo j
theorem BlkRel.kill {I : Nat → Prop} {w : World} {φ : Phi} {s : Slot} {b : Blk} (ok : Nat → Bool) (h : BlkRel I w φ s b) : BlkRel I w φ s (killB ok b) := by
  unfold killB
  split
  · exact h
  · cases s with
    | none => trivial
    | nil =>
      obtain ⟨h1, h2⟩ := h
      exact ⟨by simp [h1], h2⟩
    | «at» bb c =>
      obtain ⟨us, el, h1, h2, h3⟩ := h
      refine ⟨us, el, h1, ?_, ?_⟩
      · simp only [List.length_map]
        refine ⟨by simpa using h2.1, fun i hi => ?_, h2.2.2⟩
        have hi' : i < b.cells.length := by simpa using hi
        have := h2.2.1 i hi'
        simp only [List.getElem_map, killV]
        split
        · exact this
        · exact .top
      · simpa only [List.length_map] using h3
theorem Inv.kill {C : Cx} {G : Gl} {s : St} {φ : Phi} {a : Act} {w : World} (hI : Inv C G s φ a w) (skip ok : Nat → Bool) : Inv C G ⟨s.tm, killHo skip ok s.H⟩ φ a w := by
  have hn : ∀ i, lk (killHo skip ok s.H) i = none ↔ lk s.H i = none := fun i => by rw [lk_killHo]; cases lk s.H i <;> simp
  refine ⟨hI.size, hI.defers, hI.tm, fun id blk hl => ?_, ⟨hI.ok.inj, hI.ok.lt, hI.ok.free, fun i hi => hI.ok.dom i ((hn i).1 hi)⟩, hI.x, hI.frm, hI.own, fun i b hb h0 => ?_⟩
  · have hl : lk (killHo skip ok s.H) id = some blk := hl
    rw [lk_killHo, Option.map_eq_some_iff] at hl
    obtain ⟨b, hb, rfl⟩ := hl
    split
    · exact hI.hr id b hb
    · exact (hI.hr id b hb).kill ok
  · rcases hI.fix i b hb h0 with h | h
    · exact .inl h
    · exact .inr ((hn i).2 h)
def prepA (vx : V) (H : List (Nat × Blk)) : List (Nat × Blk) := match vx with
  | .sl id _ _ => match restIn id H with
    | true => H
    | false => killHo (fun j => Nat.beq j id) (neId id) H
  | _ => H
theorem Inv.prepA {C : Cx} {G : Gl} {s : St} {φ : Phi} {a : Act} {w : World} (hI : Inv C G s φ a w) (vx : V) : Inv C G ⟨s.tm, Ab.prepA vx s.H⟩ φ a w := by
  unfold Ab.prepA
  split
  · split
    · exact hI
    · exact hI.kill _ _
  · exact hI
def prepO (ps : List (Nat × Nat)) (H : List (Nat × Blk)) : List (Nat × Blk) := match othersOk ps (movers H ps) H with
  | true => H
  | false => killHo (okP ps) (notIn (movers H ps)) H
theorem Inv.prepO {C : Cx} {G : Gl} {s : St} {φ : Phi} {a : Act} {w : World} (hI : Inv C G s φ a w) (ps : List (Nat × Nat)) : Inv C G ⟨s.tm, Ab.prepO ps s.H⟩ φ a w := by
  unfold Ab.prepO
  split
  · exact hI
  · exact hI.kill _ _
/-- What is called: a function, what is bound to it, what it captures. -/
def evClo : V → Option (FuncId × List V × List V)
  | .val (.func (.func f) ⟨[]⟩ ⟨[]⟩) => some (f, [], [])
  | .clo (.func f) fs cap => some (f, fs, cap)
  | _ => none
theorem Rels.append {I : Nat → Prop} {w : World} {φ : Phi} : ∀ {xs ys : List V} {us vs : List Value}, Rels I w φ xs us → Rels I w φ ys vs → Rels I w φ (xs ++ ys) (us ++ vs)
  | _, _, _, _, .nil, h => h
  | _, _, _, _, .cons h1 h2, h => .cons h1 (h2.append h)
theorem rels_of {I : Nat → Prop} {w : World} {φ : Phi} : ∀ {xs : List V} {us : List Value}, us.length = xs.length → (∀ i (h : i < xs.length), Rel I w φ xs[i] (us.getD i undef)) → Rels I w φ xs us
  | [], [], _, _ => .nil
  | [], _ :: _, h, _ => by simp at h
  | _ :: _, [], h, _ => by simp at h
  | x :: xs, u :: us, h, hr => .cons (hr 0 (Nat.succ_pos _)) (rels_of (by simpa using h) (fun i hi => hr (i + 1) (Nat.succ_lt_succ hi)))
theorem evClo_ok {I : Nat → Prop} {w : World} {φ : Phi} {g : V} {f : FuncId} {fs cap : List V} {u : Value} (h : evClo g = some (f, fs, cap)) (hr : Rel I w φ g u) : ∃ us vs : Array Value, u = .func (.func f) us vs ∧ Rels I w φ fs us.toList ∧ Rels I w φ cap vs.toList := by
  unfold evClo at h
  split at h
  · cases h
    exact ⟨#[], #[], hr.val_inv, .nil, .nil⟩
  · cases h
    cases hr with
    | clo h1 h2 h3 h4 => exact ⟨_, _, rfl, rels_of (by simpa using h1) h2, rels_of (by simpa using h3) h4⟩
  · cases h
/-- An operation that writes. -/
def stepB0 (C : Cx) (hs : List (Nat × Hint)) (i : Nat) (s : St) (o : Oper) : Option (List Prop × St) :=
  match o.guard, o.dst, o.op with
  | none, none, .store t x y => match rdA s.tm [] x, rdA s.tm [] y with
    | some vx, some vy => match evStoreA C.tc s.H (symOf hs i) t vx vy with
      | some (os, H') => some (os, ⟨s.tm, H'⟩)
      | none => none
    | _, _ => none
  | none, dst, .call { callee := .builtin .append, args := xs, argTypes := ts } => match xs.toList, ts.toList with
    | [x, y], [tx, ty] => match rdA s.tm [] x, rdA s.tm [] y with
      | some vx, some vy => match evAppend C.tc (prepA vx s.H) (symOf hs i) tx ty vx vy with
        | some (os, id, m, blk) => match restIn id (prepA vx s.H) && blkIn (neId id) blk with
          | true => match put1 C.n dst (.plain (.sl id 0 m)) [] ⟨killT id s.tm, ins id blk (prepA vx s.H)⟩ with
            | some s' => some (os, s')
            | none => none
          | false => none
        | none => none
      | _, _ => none
    | _, _ => none
  | none, dst, .call { callee := .builtin .copy, args := xs, argTypes := ts } => match xs.toList, ts.toList with
    | [x, y], [tx, ty] => match rdA s.tm [] x, rdA s.tm [] y with
      | some vx, some vy => match evCopy C.tc s.H (symOf hs i) tx ty vx vy with
        | some (os, H', k) => match put1 C.n dst (.plain (.val (goInt k))) [] ⟨s.tm, H'⟩ with
          | some s' => some (os, s')
          | none => none
        | none => none
      | _, _ => none
    | _, _ => none
  | none, dst, .convert t t' x => match Nat.beq t t', rdA s.tm [] x with
    | true, some (.sl id 0 n) => match evMark C.tc (prepA (.sl id 0 n) s.H) t id n with
      | some (os, blk) => match restIn id (prepA (.sl id 0 n) s.H) with
        | true => match put1 C.n dst (.plain (.vs blk.cells n)) [] ⟨killT id s.tm, ins id blk (prepA (.sl id 0 n) s.H)⟩ with
          | some s' => some (os, s')
          | none => none
        | false => none
      | none => none
    | _, _ => none
  | none, dst, .call { callee := .value y, args := xs, .. } => match crOf hs i, (rdA s.tm [] y).bind evClo, rds (rdA s.tm []) xs.toList with
    | some c, some (f, fs, cap), some vs => match evCallO C.P s.tm (prepO (pairsOf (symOf hs i)) s.H) (dst.getD 0) f (fs ++ (vs ++ cap)) (symOf hs i) c with
      | some (os, s2, v) => match put1 C.n dst (.plain v) [] s2 with
        | some s' => some (os, s')
        | none => none
      | none => none
    | _, _, _ => none
  | _, _, _ => none
/-- Is it wanted? -/
def gdOf (ops : List Oper) (s : St) (o : Oper) : Option Bool :=
  match o.guard with
  | none => some true
  | some (j, w) => match isSto o.op, dstAt ops j with
    | false, some d => match lk s.tm d with
      | some (.plain (.val (.bool b))) => some (b == w)
      | _ => none
    | _, _ => none
/-- What hangs on it, it being so. -/
def resT (d : Nat) (b : Bool) : List (Nat × T) → List (Nat × T)
  | [] => []
  | (t, .gd d' w x) :: r => (t, if Nat.beq d' d then (if w == b then .plain x else .plain .top) else .gd d' w x) :: resT d b r
  | (t, .plain x) :: r => (t, .plain x) :: resT d b r
def resG (ops : List Oper) (s : St) (o : Oper) : List (Nat × T) :=
  match o.guard with
  | none => s.tm
  | some (j, w) => match dstAt ops j with
    | some d => resT d w s.tm
    | none => s.tm
def stepB (C : Cx) (ops : List Oper) (hs : List (Nat × Hint)) (i : Nat) (s : St) (o : Oper) : Option (List Prop × St) :=
  match gdOf ops s o with
  | some true => stepB0 C hs i ⟨resG ops s o, s.H⟩ { o with guard := none }
  | some false => match put1 C.n o.dst (.plain .top) [] s with
    | some s' => some ([], s')
    | none => none
  | none => none
def runL (C : Cx) (ops : List Oper) (hs : List (Nat × Hint)) : Nat → St → List Oper → Option (List Prop × St)
  | _, s, [] => some ([], s)
  | i, s, o :: r => match isBar o.op with
    | true => match stepB C ops hs i s o with
      | some (o1, s') => match runL C ops hs (i + 1) s' r with
        | some (o2, sf) => some (o1 ++ o2, sf)
        | none => none
      | none => none
    | false => match stepD C ops hs i s o with
      | some (o1, _, s') => match runL C ops hs (i + 1) s' r with
        | some (o2, sf) => some (o1 ++ o2, sf)
        | none => none
      | none => none
def clSt (s : St) : St := ⟨clAll s.tm, s.H⟩
/-- What is loaded late is not what is written here. -/
def lateOk (ops : List Oper) (i : Nat) (s : St) (o : Oper) : Bool :=
  match lateLds ops i with
  | [] => true
  | ts => match o.op with
    | .store _ (.tmp q) _ => match lk s.tm q with
      | some (.plain (.ptr id _)) => ts.all fun t => match lk s.tm t with
        | some (.plain (.ptr j _)) => !(Nat.beq j id)
        | some (.plain (.vp _)) => true
        | _ => false
      | _ => false
    | _ => false
def lateAll (C : Cx) (ops : List Oper) (hs : List (Nat × Hint)) : Nat → St → List Oper → Bool
  | _, _, [] => true
  | i, s, o :: r => match isBar o.op with
    | true => match lateOk ops i s o, stepB C ops hs i s o with
      | true, some (_, s') => lateAll C ops hs (i + 1) s' r
      | _, _ => false
    | false => match stepD C ops hs i s o with
      | some (_, _, s') => lateAll C ops hs (i + 1) s' r
      | none => false
def runR (C : Cx) (ops : List Oper) (draw : Bool) (hs : List (Nat × Hint)) (s : St) : Option (List Prop × St) :=
  match !draw || (drawOk ops && (noLate ops || lateAll C ops hs 0 (clSt s) ops)) with
  | true => runL C ops hs 0 (clSt s) ops
  | false => none

section
variable {C : Cx} {G : Gl} {ops : List Oper} {hs : List (Nat × Hint)} {φ φ' : Phi} {a : Act} {w w' : World} {s s' sf : St} {Q : Exit → Act → World → Prop} {K : Act → World → Prop} {os : List Prop}

theorem Inv.tm0 (hI : Inv C G s φ a w) : TmRel (Imm φ G.X w) w φ s.tm a := hI.tm
theorem Inv.xx (hI : Inv C G s φ a w) : ∀ b, G.X b → b < w.heap.size := fun b hb => Nat.lt_of_lt_of_le (hI.x b hb) hI.frm.size

theorem toList_two {α : Type} {xs : Array α} {x y : α} (h : xs.toList = [x, y]) : xs = #[x, y] := by
  cases xs
  simp_all
theorem put_plain {v : V} {dst : Option Tmp} {u : Value} (hI : Inv C G s φ a w) (h : put1 C.n dst (.plain v) [] s = some s') (hv : Rel (Imm φ G.X w) w φ v u) : Inv C G s' φ (a.put dst u) w :=
  hI.put h (Gr.refl φ w) (fun tmps _ k e => by
    show Rel _ _ _ _ _
    rw [e]
    exact hv) (fun id blk hb => by cases hb)
theorem stepB0_ok (hT : TCok C.P C.tc) (hI : Inv C G s φ a w) {i : Nat} {o : Oper} (h : stepB0 C hs i s o = some (os, s')) (hos : AllP os) (hK : ∀ a' w' φ', Inv C G s' φ' a' w' → K a' w') :
    o.wp C.P a w K Q := by
  unfold stepB0 at h
  split at h
  · rename_i t x y hg hd hop
    split at h
    · rename_i vx vy hvx hvy
      split at h
      · rename_i os' H' hst
        cases h
        have hx := rdA_ok hI.gok hI.tm0 (fun p hp => by simp at hp) _ _ hvx
        have hy := rdA_ok hI.gok hI.tm0 (fun p hp => by simp at hp) _ _ hvy
        obtain ⟨w', h1, h2⟩ := evStoreA_ok hT hI hst hos hx hy
        unfold Oper.wp
        have hrun : (execOp a.eval o).run C.P w = .ok .skip w' := by
          simp only [execOp, hop, Sem.run_bind, h1, Result.andThen_ok, Sem.run_pure]
        rw [hrun]
        simp only [Oper.upon, hd]
        exact hK _ _ φ h2
      · cases h
    · cases h
  · rename_i xs ts hg hop
    split at h
    case h_2 => cases h
    rename_i x y tx ty hxs hts
    split at h
    case h_2 => cases h
    rename_i vx vy hvx hvy
    split at h
    case h_2 => cases h
    rename_i os' id m blk hap
    split at h
    case h_2 => cases h
    rename_i hin
    split at h
    case h_2 => cases h
    rename_i s1 hput
    cases h
    simp only [Bool.and_eq_true] at hin
    have hx := rdA_ok hI.gok hI.tm0 (fun p hp => by simp at hp) _ _ hvx
    have hy := rdA_ok hI.gok hI.tm0 (fun p hp => by simp at hp) _ _ hvy
    obtain ⟨v', w', φ', h1, h2, h3⟩ := evAppend_ok (t := o.type) hT (hI.prepA vx) hap hos hin.1 hin.2 hx hy
    have exs := toList_two hxs
    have ets := toList_two hts
    subst exs ets
    unfold Oper.wp
    have hrun : (execOp a.eval o).run C.P w = .ok (.value v') w' := by
      simp only [execOp, hop, resolve, invoke, builtin, Sem.run_bind, Sem.run_pure, Result.andThen_ok, List.map_toArray, List.map_cons, List.map_nil, h1]
    rw [hrun]
    exact hK _ _ φ' (put_plain h2 hput h3)
  · rename_i xs ts hg hop
    split at h
    case h_2 => cases h
    rename_i x y tx ty hxs hts
    split at h
    case h_2 => cases h
    rename_i vx vy hvx hvy
    split at h
    case h_2 => cases h
    rename_i os' H' k hap
    split at h
    case h_2 => cases h
    rename_i s1 hput
    cases h
    have hx := rdA_ok hI.gok hI.tm0 (fun p hp => by simp at hp) _ _ hvx
    have hy := rdA_ok hI.gok hI.tm0 (fun p hp => by simp at hp) _ _ hvy
    obtain ⟨w', h1, h2⟩ := evCopy_ok (t := o.type) hT hI hap hos hx hy
    have exs := toList_two hxs
    have ets := toList_two hts
    subst exs ets
    unfold Oper.wp
    have hrun : (execOp a.eval o).run C.P w = .ok (.value (goInt k)) w' := by
      simp only [execOp, hop, resolve, invoke, builtin, Sem.run_bind, Sem.run_pure, Result.andThen_ok, List.map_toArray, List.map_cons, List.map_nil, h1]
    rw [hrun]
    exact hK _ _ φ (put_plain h2 hput (.val rfl))
  · rename_i t t' x hg hop
    split at h
    case h_2 => cases h
    rename_i id n htt hvx
    split at h
    case h_2 => cases h
    rename_i os' blk hmk
    split at h
    case h_2 => cases h
    rename_i hrest
    split at h
    case h_2 => cases h
    rename_i s1 hput
    cases h
    have htt := Nat.eq_of_beq_eq_true htt
    subst htt
    have hx := rdA_ok hI.gok hI.tm0 (fun p hp => by simp at hp) _ _ hvx
    obtain ⟨w', h1, h2, h3⟩ := evMark_ok hT (hI.prepA (.sl id 0 n)) hmk hrest hx
    unfold Oper.wp
    have hrun : (execOp a.eval o).run C.P w = .ok (.value (a.eval x)) w' := by
      simp only [execOp, hop, Sem.run_bind, h1, Result.andThen_ok, Sem.run_pure]
    rw [hrun]
    exact hK _ _ _ (put_plain h2 hput h3)
  · rename_i y xs ts hg hop
    split at h
    case h_2 => cases h
    rename_i c f fs cap vs hcr hcl hvs
    split at h
    case h_2 => cases h
    rename_i os' s2 v hev
    split at h
    case h_2 => cases h
    rename_i s1 hput
    cases h
    obtain ⟨gv, hgv, hcl⟩ := Option.bind_eq_some_iff.1 hcl
    obtain ⟨ua, ub, hgf, hra, hrb⟩ := evClo_ok hcl (rdA_ok hI.gok hI.tm0 (fun p hp => by simp at hp) y gv hgv)
    have hr := hra.append ((rds_ok (a := a) (fun y x hy => rdA_ok hI.gok hI.tm0 (fun p hp => by simp at hp) y x hy) hvs).append hrb)
    obtain ⟨⟨fn, hf1, hf2, hf3⟩, hcall⟩ := evCallO_ok (hI.prepO (pairsOf (symOf hs i))) hev hos hr
    unfold Oper.wp
    have hrun : (execOp a.eval o).run C.P w = (callFunc f (ua.toList ++ (xs.toList.map a.eval ++ ub.toList)).toArray).run C.P w := by
      have e2 : ua ++ xs.map a.eval ++ ub = (ua.toList ++ (xs.toList.map a.eval ++ ub.toList)).toArray := by
        apply Array.ext'
        simp
      simp only [execOp, hop, resolve, Sem.run_bind, Sem.run_pure, Result.andThen_ok, Deferred.ofValue, hgf, invoke, e2]
    have hcf : (callFunc f (ua.toList ++ (xs.toList.map a.eval ++ ub.toList)).toArray).run C.P w = .ok (.enter f (ua.toList ++ (xs.toList.map a.eval ++ ub.toList)).toArray) w := by
      simp only [callFunc, Sem.run_bind, run_program, Result.andThen_ok, hf1, hf2, hf3, Bool.false_eq_true, if_false, Sem.run_pure]
    rw [hrun, hcf, Oper.upon_enter]
    refine hcall.mono ?_
    rintro e' w' ⟨u, φ2, rfl, hI2, hu⟩
    exact hK _ _ _ (put_plain hI2 hput hu)
  · cases h

theorem lk_resT {d : Nat} {b : Bool} {t : Nat} {x : T} : ∀ {tm : List (Nat × T)}, lk (resT d b tm) t = some x → lk tm t = some x ∨ (∃ w y, lk tm t = some (.gd d w y) ∧ ((w = b ∧ x = .plain y) ∨ x = .plain .top))
  | [], h => by cases h
  | (q, .plain z) :: r, h => by
    simp only [resT, lk] at h ⊢
    split at h
    · rename_i e
      rw [if_pos e]
      exact .inl h
    · rename_i e
      rw [if_neg e]
      exact lk_resT h
  | (q, .gd d' w z) :: r, h => by
    simp only [resT, lk] at h ⊢
    split at h
    · rename_i e
      rw [if_pos e]
      split at h
      · rename_i e2
        have e2 := Nat.eq_of_beq_eq_true e2
        subst e2
        refine .inr ⟨w, z, rfl, ?_⟩
        split at h
        · rename_i e3
          cases h
          exact .inl ⟨by simpa using e3, rfl⟩
        · cases h
          exact .inr rfl
      · exact .inl h
    · rename_i e
      rw [if_neg e]
      exact lk_resT h
theorem resG_ok (hI : Inv C G s φ a w) {i : Nat} {o : Oper} (hg : gdOf ops s o = some true) : Inv C G ⟨resG ops s o, s.H⟩ φ a w := by
  refine ⟨hI.size, hI.defers, fun t x hx => ?_, hI.hr, hI.ok, hI.x, hI.frm, hI.own, hI.fix⟩
  have hx : lk (resG ops s o) t = some x := hx
  unfold resG at hx
  unfold gdOf at hg
  split at hx
  · exact hI.tm t x hx
  · rename_i j w0 hgd
    rw [hgd] at hg
    simp only at hg
    split at hx
    · rename_i d hd
      split at hg
      · rename_i d2 hns hd2
        rw [hd] at hd2
        cases hd2
        split at hg
        · rename_i b0 hl
          have hb : b0 = w0 := by
            simp only [Option.some.injEq] at hg
            simpa using hg
          subst hb
          have hv : Rel (Imm φ G.X _) _ φ (.val (.bool b0)) (a.tmps.getD d undef) := hI.tm d _ hl
          have hv := hv.val_inv
          rcases lk_resT hx with h1 | ⟨w1, y, h1, h2⟩
          · exact hI.tm t x h1
          · have h3 := hI.tm t _ h1
            rcases h2 with ⟨rfl, rfl⟩ | rfl
            · exact h3.1 hv
            · exact Rel.top
        · cases hg
      · cases hg
    · exact hI.tm t x hx
theorem gdOf_ok (hI : Inv C G s φ a w) {i : Nat} {o : Oper} (ho : ops[i]? = some o) {b : Bool} (h : gdOf ops s o = some b) : Region.wanted o (yielded ops.toArray a.tmps) = b := by
  unfold gdOf at h
  unfold Region.wanted
  cases hg : o.guard with
  | none =>
    rw [hg] at h
    cases h
    rfl
  | some p =>
    obtain ⟨j, w⟩ := p
    rw [hg] at h
    simp only at h ⊢
    split at h
    · rename_i d hns hd
      split at h
      · rename_i b0 hl
        cases h
        have hv := hI.tm d _ hl
        have hv : Rel (Imm φ G.X _) _ φ (.val (.bool b0)) (a.tmps.getD d undef) := hv
        have hv := hv.val_inv
        have hlt : d < a.tmps.size := by
          refine Classical.byContradiction fun hc => ?_
          rw [Array.getD_eq_getD_getElem?, Array.getElem?_eq_none (Nat.not_lt.1 hc)] at hv
          cases hv
        have hy : yielded ops.toArray a.tmps j = some b0 := by
          unfold yielded
          unfold dstAt at hd
          have e1 : (ops.toArray[j]?).bind (·.dst) = some d := by simpa using hd
          rw [e1]
          simp only [Option.bind_some]
          rw [Array.getD_eq_getD_getElem?, Array.getElem?_eq_getElem hlt] at hv
          rw [Array.getElem?_eq_getElem hlt]
          have hv : a.tmps[d] = .bool b0 := hv
          rw [hv]
        rw [hy]
        cases b0 <;> cases w <;> rfl
      · cases h
    · cases h
theorem stepB_ok (hT : TCok C.P C.tc) (hI : Inv C G s φ a w) {i : Nat} {o : Oper} (ho : ops[i]? = some o) (h : stepB C ops hs i s o = some (os, s')) (hos : AllP os) (hK : ∀ a' w' φ', Inv C G s' φ' a' w' → K a' w') :
    wpOp C.P ops.toArray Q i K a w := by
  have e : ops.toArray[i]? = some o := by simpa using ho
  unfold stepB at h
  unfold wpOp
  simp only [e]
  split at h
  · rename_i hg
    rw [gdOf_ok hI ho hg, if_pos rfl]
    exact .inl (stepB0_ok (o := { o with guard := none }) hT (resG_ok (i := i) hI hg) h hos hK)
  · rename_i hg
    rw [gdOf_ok hI ho hg, if_neg (by simp)]
    split at h
    · rename_i s1 hput
      cases h
      exact hK _ _ φ (put_plain hI hput .top)
    · cases h
  · cases h

theorem rdA_sub {tm tm' : List (Nat × T)} {y : Operand} {v : V} (hs : ∀ t, t ∈ tmpsOf [y] → ∀ x, lk tm t = some x → lk tm' t = some x) (h : rdA tm [] y = some v) : rdA tm' [] y = some v := by
  cases y with
  | tmp t =>
    simp only [rdA, rdT] at h ⊢
    cases hl : lk tm t with
    | none => simp [hl] at h
    | some x =>
      rw [hs t (by simp [tmpsOf]) x hl]
      rw [hl] at h
      exact h
  | const z => exact h
  | func f => exact h
  | global g => exact h
/-- A store looks at its own slots alone. -/
theorem stepB_sto {i : Nat} {o : Oper} (hsto : isSto o.op = true) (h : stepB C ops hs i s o = some (os, s')) : o.guard = none ∧ stepB0 C hs i s o = some (os, s') := by
  unfold stepB at h
  obtain ⟨dst, op, type, pos, after, guard⟩ := o
  cases guard with
  | none => exact ⟨rfl, h⟩
  | some p =>
    exfalso
    unfold gdOf at h
    have hsto : isSto op = true := hsto
    simp only [hsto] at h
    cases h
theorem stepB_sub {i : Nat} {o : Oper} {tm : List (Nat × T)} (hsto : isSto o.op = true) (h : stepB C ops hs i s o = some (os, s')) (hsub : ∀ t, t ∈ rs ops o → ∀ x, lk s.tm t = some x → lk tm t = some x) : s'.tm = s.tm ∧ stepB C ops hs i ⟨tm, s.H⟩ o = some (os, ⟨tm, s'.H⟩) := by
  obtain ⟨hgn, h⟩ := stepB_sto hsto h
  have hgd : ∀ s0, stepB C ops hs i s0 o = stepB0 C hs i s0 o := fun s0 => by
    obtain ⟨dst, op, type, pos, after, guard⟩ := o
    cases hgn
    rfl
  rw [hgd]
  unfold stepB0 at h ⊢
  split at h
  · rename_i t x y hg hd hop
    have hin : ∀ z, z ∈ [x, y] → ∀ t, t ∈ tmpsOf [z] → t ∈ rs ops o := fun z hz t ht => by
      unfold rs
      refine List.mem_append.2 (.inl ?_)
      rw [hop]
      simp only [List.mem_cons, List.not_mem_nil, or_false] at hz
      cases z with
      | tmp q =>
        simp only [tmpsOf, List.mem_singleton] at ht
        subst ht
        rcases hz with rfl | rfl
        · simp [Op.operands, tmpsOf]
        · cases x <;> simp [Op.operands, tmpsOf]
      | const _ => simp [tmpsOf] at ht
      | func _ => simp [tmpsOf] at ht
      | global _ => simp [tmpsOf] at ht
    split at h
    · rename_i vx vy hvx hvy
      have e1 := rdA_sub (tm' := tm) (fun t ht => hsub t (hin x (by simp) t ht)) hvx
      have e2 := rdA_sub (tm' := tm) (fun t ht => hsub t (hin y (by simp) t ht)) hvy
      split at h
      · rename_i os' H' hst
        cases h
        simp only [hg, hd, hop, e1, e2, hst]
        exact ⟨trivial, trivial⟩
      · cases h
    · cases h
  · rename_i hop
    rw [hop] at hsto
    cases hsto
  · rename_i hop
    rw [hop] at hsto
    cases hsto
  · rename_i hop
    rw [hop] at hsto
    cases hsto
  · rename_i hop
    rw [hop] at hsto
    cases hsto
  · cases h

/-- Which block a store writes. -/
theorem stepB_other {i : Nat} {o : Oper} (hsto : isSto o.op = true) (h : stepB C ops hs i s o = some (os, s')) : ∃ id ty x off z, o.op = .store ty x z ∧ rdA s.tm [] x = some (.ptr id off) ∧ ∀ j, j ≠ id → lk s'.H j = lk s.H j := by
  have h := (stepB_sto hsto h).2
  unfold stepB0 at h
  split at h
  · rename_i t x y hg hd hop
    split at h
    · rename_i vx vy hvx hvy
      split at h
      · rename_i os' H' hst
        cases h
        obtain ⟨id, off, rfl, h2⟩ := evStoreA_inv hst
        exact ⟨id, t, x, off, y, hop, hvx, h2⟩
      · cases h
    · cases h
  · rename_i hop
    rw [hop] at hsto
    cases hsto
  · rename_i hop
    rw [hop] at hsto
    cases hsto
  · rename_i hop
    rw [hop] at hsto
    cases hsto
  · rename_i hop
    rw [hop] at hsto
    cases hsto
  · cases h
theorem lateOk_ne {i : Nat} {o : Oper} {ty : TypeId} {x z : Operand} {id off t j off' : Nat} (h : lateOk ops i s o = true) (ht : t ∈ lateLds ops i) (hop : o.op = .store ty x z) (hx : rdA s.tm [] x = some (.ptr id off)) (hl : lk s.tm t = some (.plain (.ptr j off'))) : j ≠ id := by
  unfold lateOk at h
  split at h
  · rename_i e
    rw [e] at ht
    cases ht
  · rw [hop] at h
    cases x with
    | tmp q =>
      simp only [rdA, rdT] at hx
      split at hx
      · rename_i v hv
        cases hx
        simp only [hv, List.all_eq_true] at h
        have := h t ht
        rw [hl] at this
        simp only at this
        intro e
        subst e
        simp at this
      · simp [hasP] at hx
      · cases hx
    | const v => cases h
    | func f => cases h
    | global g => cases h

theorem stepD_ok (hT : TCok C.P C.tc) (hI : Inv C G s φ a w) {i : Nat} {o : Oper} {r : Out1} (ho : ops[i]? = some o) (h : stepD C ops hs i s o = some (os, r, s')) (hos : AllP os) (hK : ∀ a' w' φ', Inv C G s' φ' a' w' → K a' w') :
    wpOp C.P ops.toArray Q i K a w := by
  unfold stepD at h
  split at h
  case h_2 => cases h
  rename_i r' hr
  split at h
  case h_2 => cases h
  rename_i s1 hput
  cases h
  have hput' := put1_H hput
  have hmain := step1_ok (a := a) (s := ⟨restr (rs ops o) s.tm, s.H⟩) hT hI.ok hI.xx hI.hr hI.gok (fun t x hx => hI.tm t x (lk_restr hx).2) hr hos (fun id hid => hI.ok.dom id (insAll_fresh hput' id hid)) Q K
    (fun u w' φ' h1 h2 h3 => hK _ _ φ' (hI.put hput h1 h2 h3))
  unfold wpOp
  have e : ops.toArray[i]? = some o := by simpa using ho
  simp only [e]
  split
  · rename_i hw
    rw [if_pos hw] at hmain
    exact .inl hmain
  · rename_i hw
    rw [if_neg hw] at hmain
    exact hmain

theorem runL_seq (hT : TCok C.P C.tc) : ∀ (l : List Oper) (i : Nat) (s : St) (φ : Phi) (a : Act) (w : World) (os : List Prop), l = ops.drop i → runL C ops hs i s l = some (os, sf) → AllP os → Inv C G s φ a w → (∀ a' w' φ', Inv C G sf φ' a' w' → Q .normal a' w') →
    wpOps C.P ops.toArray Q (List.range' i l.length) a w
  | [], i, s, φ, a, w, os, _, h, _, hI, hQ => by
    cases h
    exact hQ a w φ hI
  | o :: r, i, s, φ, a, w, os, hl, h, hos, hI, hQ => by
    have ho : ops[i]? = some o := by
      have : (ops.drop i)[0]? = some o := by rw [← hl]; rfl
      simpa using this
    have hr : r = ops.drop (i + 1) := by
      have := congrArg (List.drop 1) hl
      simpa using this
    rw [List.length_cons, List.range'_succ, wpOps_cons]
    unfold runL at h
    split at h
    · split at h
      case h_2 => cases h
      rename_i o1 s' hst
      split at h
      case h_2 => cases h
      rename_i o2 sf' hrun
      cases h
      obtain ⟨p1, p2⟩ := AllP.append.1 hos
      exact stepB_ok hT hI ho hst p1 (fun a' w' φ' hI' => runL_seq hT r (i + 1) s' φ' a' w' o2 hr hrun p2 hI' hQ)
    · split at h
      case h_2 => cases h
      rename_i o1 r1 s' hst
      split at h
      case h_2 => cases h
      rename_i o2 sf' hrun
      cases h
      obtain ⟨p1, p2⟩ := AllP.append.1 hos
      exact stepD_ok hT hI ho hst p1 (fun a' w' φ' hI' => runL_seq hT r (i + 1) s' φ' a' w' o2 hr hrun p2 hI' hQ)

/-! ### The order that is drawn -/
def J (ops : List Oper) (i : Nat) (s : St) : Prop := ∀ t d w x, lk s.tm t = some (.gd d w x) → ∃ j, (j < i ∧ dstAt ops j = some d) ∧ ∃ (q : Nat) (oq : Oper) (w' : Bool), ops[q]? = some oq ∧ oq.guard = some (j, w')
theorem lk_clAll {t : Nat} {x : T} : ∀ {tm : List (Nat × T)}, lk (clAll tm) t = some x → x = .plain .top ∨ (lk tm t = some x ∧ ∃ v, x = .plain v)
  | [], h => by cases h
  | (k, .plain y) :: r, h => by
    simp only [clAll, lk] at h ⊢
    split at h
    · rename_i e
      rw [if_pos e]
      cases h
      exact .inr ⟨rfl, _, rfl⟩
    · rename_i e
      rw [if_neg e]
      exact lk_clAll h
  | (k, .gd d w y) :: r, h => by
    simp only [clAll, lk] at h ⊢
    split at h
    · cases h
      exact .inl rfl
    · rename_i e
      rw [if_neg e]
      exact lk_clAll h
theorem Inv.cl (hI : Inv C G s φ a w) : Inv C G (clSt s) φ a w := by
  refine ⟨hI.size, hI.defers, fun t x hx => ?_, hI.hr, hI.ok, hI.x, hI.frm, hI.own, hI.fix⟩
  rcases lk_clAll hx with rfl | ⟨h, _⟩
  · exact Rel.top
  · exact hI.tm t x h
theorem J.cl : J ops 0 (clSt s) := fun t d w x hx => by
  rcases lk_clAll hx with h | ⟨_, _, h⟩ <;> cases h

/-- The operations up to the next one that writes. -/
theorem runL_seg (hdw : Dw ops) : ∀ (l : List Oper) (i : Nat) (s : St) (os : List Prop), l = ops.drop i → runL C ops hs i s l = some (os, sf) → AllP os → J ops i s →
    ∃ m op st out os', st 0 = s ∧ Seg C ops hs i m op st out ∧ (∀ j, j < m → isBar (op j).op = false) ∧ J ops (i + m) (st m) ∧ runL C ops hs (i + m) (st m) (ops.drop (i + m)) = some (os', sf) ∧ AllP os' ∧ i + m ≤ max i ops.length ∧
      (ops.drop (i + m) = [] ∨ ∃ o r, ops.drop (i + m) = o :: r ∧ isBar o.op = true) ∧ (lateAll C ops hs i s l = true → lateAll C ops hs (i + m) (st m) (ops.drop (i + m)) = true)
  | [], i, s, os, hl, h, hos, hJ => by
    refine ⟨0, fun _ => default, fun _ => s, fun _ => ⟨[], .plain .top, []⟩, os, rfl, ⟨fun j hj => by omega, fun j hj => by omega, fun j hj => by omega, fun j hj => by omega, fun t d w x _ j hj => by omega, fun t d w x hx => by obtain ⟨j, ⟨_, hd⟩, q, oq, w', h1, h2⟩ := hJ t d w x hx; exact ⟨j, q, oq, w', hd, h1, h2⟩⟩, fun j hj => by omega, hJ, ?_, hos, by omega, ?_, ?_⟩
    · simp only [Nat.add_zero]
      rw [← hl]
      exact h
    · simp only [Nat.add_zero]
      exact .inl hl.symm
    · simp only [Nat.add_zero]
      rw [← hl]
      exact fun h => h
  | o :: r, i, s, os, hl, h, hos, hJ => by
    have ho : ops[i]? = some o := by
      have : (ops.drop i)[0]? = some o := by rw [← hl]; rfl
      simpa using this
    have hlt : i < ops.length := (List.getElem?_eq_some_iff.1 ho).1
    have hr : r = ops.drop (i + 1) := by
      have := congrArg (List.drop 1) hl
      simpa using this
    cases hb : isBar o.op with
    | true =>
      refine ⟨0, fun _ => default, fun _ => s, fun _ => ⟨[], .plain .top, []⟩, os, rfl, ⟨fun j hj => by omega, fun j hj => by omega, fun j hj => by omega, fun j hj => by omega, fun t d w x _ j hj => by omega, fun t d w x hx => by obtain ⟨j, ⟨_, hd⟩, q, oq, w', h1, h2⟩ := hJ t d w x hx; exact ⟨j, q, oq, w', hd, h1, h2⟩⟩, fun j hj => by omega, hJ, ?_, hos, by omega, ?_, ?_⟩
      · simp only [Nat.add_zero]
        rw [← hl]
        exact h
      · simp only [Nat.add_zero]
        exact .inr ⟨o, r, hl.symm, hb⟩
      · simp only [Nat.add_zero]
        rw [← hl]
        exact fun h => h
    | false =>
      unfold runL at h
      rw [hb] at h
      simp only at h
      split at h
      case h_2 => cases h
      rename_i o1 r1 s' hst
      split at h
      case h_2 => cases h
      rename_i o2 sf' hrun
      cases h
      obtain ⟨p1, p2⟩ := AllP.append.1 hos
      have hst0 := hst
      unfold stepD at hst
      split at hst
      case h_2 => cases hst
      rename_i r' hr1
      split at hst
      case h_2 => cases hst
      rename_i s1 hput
      cases hst
      have hJ' : J ops (i + 1) s' := fun t d w x hx => by
        rcases put1_tm hput hx with h | ⟨_, h⟩ | ⟨_, h⟩
        · cases h
        · obtain ⟨j, hj, hd⟩ := step1_gd hr1 h.symm
          exact ⟨j, ⟨Nat.lt_succ_of_lt (hdw.gd i o j w ho hj), hd⟩, i, o, w, ho, hj⟩
        · obtain ⟨j, ⟨hj, hd⟩, hg⟩ := hJ t d w x h
          exact ⟨j, ⟨by omega, hd⟩, hg⟩
      obtain ⟨m, op, st, out, os', e0, hseg, hnb, hJm, hrn, hos', hle, hnx, hlate⟩ := runL_seg hdw r (i + 1) s' o2 hr hrun p2 hJ'
      have es : i + 1 + m = i + (m + 1) := by omega
      rw [es] at hJm hrn hle hnx hlate
      refine ⟨m + 1, fun j => match j with | 0 => o | j + 1 => op j, fun j => match j with | 0 => s | j + 1 => st j, fun j => match j with | 0 => r1 | j + 1 => out j, os', rfl, ⟨fun j hj => ?_, fun j hj => ?_, fun j hj => ?_, fun j hj => ?_, fun t d w x hx j hj => ?_, fun t d w x hx => by obtain ⟨j, ⟨_, hd⟩, q, oq, w', h1, h2⟩ := hJ t d w x hx; exact ⟨j, q, oq, w', hd, h1, h2⟩⟩, fun j hj => ?_, hJm, hrn, hos', by omega, hnx, fun hla => ?_⟩
      · cases j with
        | zero => exact ho
        | succ j => have := hseg.at_ j (by omega); rwa [show i + (j + 1) = i + 1 + j by omega]
      · cases j with
        | zero => exact hr1
        | succ j => have := hseg.one j (by omega); rwa [show i + (j + 1) = i + 1 + j by omega]
      · cases j with
        | zero => exact p1
        | succ j => exact hseg.obl j (by omega)
      · cases j with
        | zero => show put1 _ _ _ _ s = some (st 0); rw [e0]; exact hput
        | succ j => exact hseg.put j (by omega)
      · obtain ⟨q, ⟨hq, hd⟩, _⟩ := hJ t d w x hx
        unfold dstAt at hd
        cases hq0 : ops[q]? with
        | none => simp [hq0] at hd
        | some oq =>
          have hd' : oq.dst = some d := by simpa [hq0] using hd
          cases j with
          | zero => exact hdw.dst q i oq o hq0 ho (by omega) d hd'
          | succ j => exact hdw.dst q (i + 1 + j) oq (op j) hq0 (hseg.at_ j (by omega)) (by omega) d hd'
      · cases j with
        | zero => exact hb
        | succ j => exact hnb j (by omega)
      · refine hlate ?_
        unfold lateAll at hla
        rw [hb] at hla
        simp only [hst0] at hla
        exact hla

/-- How many have not come up. -/
def unl (listed : Array Bool) : Nat → Nat
  | 0 => 0
  | n + 1 => unl listed n + if listed.getD n true then 0 else 1
theorem unl_set {listed : Array Bool} {k : Nat} (hk : listed.getD k true = false) : ∀ n, unl (listed.setIfInBounds k true) n + (if k < n then 1 else 0) = unl listed n
  | 0 => by simp [unl]
  | n + 1 => by
    have hks : k < listed.size := by
      refine Classical.byContradiction fun h => ?_
      simp [Array.getD_eq_getD_getElem?, Array.getElem?_eq_none (Nat.not_lt.1 h)] at hk
    have ih := unl_set hk n
    simp only [unl]
    by_cases e : k = n
    · subst e
      have h1 : (listed.setIfInBounds k true).getD k true = true := by simp [Array.getD_eq_getD_getElem?, hks]
      rw [h1, hk]
      simp only [Nat.lt_irrefl, if_false, Nat.lt_succ_self, if_true, Bool.false_eq_true] at ih ⊢
      omega
    · rw [getD_set_ne true e]
      by_cases h2 : k < n
      · rw [if_pos h2] at ih
        have h3 : k < n + 1 := by omega
        rw [if_pos h3]
        omega
      · rw [if_neg h2] at ih
        have h3 : ¬ k < n + 1 := by omega
        rw [if_neg h3]
        omega
theorem unl_zero {listed : Array Bool} : ∀ n, unl listed n = 0 → ∀ j, j < n → listed.getD j true = true
  | 0, _, j, hj => by omega
  | n + 1, h, j, hj => by
    simp only [unl] at h
    by_cases e : j = n
    · subst e
      cases hc : listed.getD j true with
      | true => rfl
      | false => rw [hc] at h; simp at h
    · exact unl_zero n (by omega) j (by omega)
end
end Go.Ab
