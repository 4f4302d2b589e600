/- One step of a segment. -/
import Derived.Test.YtmeiemdnhjnpcaaAb9b
set_option linter.unusedSimpArgs false
set_option linter.unusedVariables false
namespace Go.Ab
open Go.RowKit

def rds (rd : Operand → Option V) : List Operand → Option (List V)
  | [] => some []
  | x :: r => match rd x, rds rd r with
    | some v, some vs => some (v :: vs)
    | _, _ => none
def rdsP (rd : Operand → Option V) : List (Nat × Operand) → Option (List (Nat × V))
  | [] => some []
  | (i, x) :: r => match rd x, rdsP rd r with
    | some v, some vs => some ((i, v) :: vs)
    | _, _ => none
def rdO (rd : Operand → Option V) : Option Operand → Option (Option V)
  | none => some none
  | some x => (rd x).map some
def fin (sym : Option V) : Out → Option R
  | some (o, v) => match sym with
    | none => some ⟨o, v, []⟩
    | some v' => some ⟨o ++ [v = v'], v', []⟩
  | none => none
def isNilSl : Operand → Bool
  | .const (.slice none 0 0) => true
  | _ => false
/-- A nil slice that may be appended to. -/
def evNil (tc : List (Nat × TI)) (d : Nat) (t : TypeId) : Option R :=
  match lk tc t with
  | some ⟨.slice e, _, _, _, _⟩ => match lk tc e with
    | some ei => some ⟨[], .sl d 0 0, [(d, ⟨[], true, 0, some (e, ei.size)⟩)]⟩
    | none => none
  | _ => none
def evPick (rd : Operand → Option V) (rdc : Bool → Tmp → Operand → Option V) (c a b : Operand) : Out :=
  match c, rd c with
  | .tmp t, some (.val (.bool p)) => match b with
    | .const (.bool false) => match rdc true t a with
      | some (.val (.bool q)) => some ([], .val (.bool (p && q)))
      | _ => none
    | b => match a with
      | .const (.bool true) => match rdc false t b with
        | some (.val (.bool q)) => some ([], .val (.bool (p || q)))
        | _ => none
      | _ => none
  | _, _ => none
def evNC : V → Out
  | .ptr i o => some ([], .ptr i o)
  | .vp cs => some ([], .vp cs)
  | .val (.pointer none) => some ([False], .top)
  | _ => none
def evFn : V → Option FuncId
  | .val (.func (.func f) ⟨[]⟩ ⟨[]⟩) => some f
  | _ => none

def mkClo (fn : Fn) (a b : List V) : V := match fn, a, b with
  | .func f, [], [] => .val (.func (.func f) #[] #[])
  | fn, a, b => .clo fn a b
def stepV (P : Program) (tc : List (Nat × TI)) (H : List (Nat × Blk)) (sym : Option V) (cr : Option CR) (rd : Operand → Option V) (rdc : Bool → Tmp → Operand → Option V) (o : Oper) : Option R :=
  match o.op with
  | .move x => (rd x).bind fun v => fin sym (some ([], v))
  | .assign x => match isNilSl x, o.dst with
    | true, some d => evNil tc d o.type
    | true, none => none
    | false, _ => (rd x).bind fun v => fin sym (some ([], v))
  | .pick c a b => fin sym (evPick rd rdc c a b)
  | .makeFunc fn fs cs => (rds rd fs.toList).bind fun a => (rds rd cs.toList).bind fun b => fin sym (some ([], mkClo fn a b))
  | .alloc e => o.dst.bind fun d => evAlloc tc d e
  | .box e x => o.dst.bind fun d => (rd x).bind fun v => evBox tc sym.isSome d e v
  | .build t ps => (rdsP rd ps.toList).bind fun vs => fin sym (evBuild tc t vs)
  | .buildSlice t len ps => o.dst.bind fun d => (rdsP rd ps.toList).bind fun vs => evBuildSlice tc d t len vs
  | .makeSlice t l c => o.dst.bind fun d => (rd l).bind fun vl => (rd c).bind fun vc => evMakeSlice tc sym.isSome d t vl vc
  | .load t x => (rd x).bind fun v => fin sym (evLoad tc H sym.isSome t v)
  | .nilCheck x => (rd x).bind fun v => fin sym (evNC v)
  | .fieldAddr s x f => (rd x).bind fun v => fin sym (evFieldAddr tc s v f)
  | .field s x f => (rd x).bind fun v => fin sym (evField tc sym.isSome s v f)
  | .indexAddr t x i => (rd x).bind fun v => (rd i).bind fun j => fin sym (evIndexAddr tc sym.isSome t v j)
  | .index t x i => (rd x).bind fun v => (rd i).bind fun j => fin sym (evIndex tc sym.isSome t v j)
  | .slice t x lo hi none => (rd x).bind fun v => (rdO rd lo).bind fun l => (rdO rd hi).bind fun h => fin sym (evSlice tc H sym.isSome t v l h)
  | .binOp op t x y _ => (rd x).bind fun v => (rd y).bind fun u => fin sym (evBin tc sym.isSome op t v u)
  | .unOp op _ x => (rd x).bind fun v => fin sym (evUn op v)
  | .convert s d x => (rd x).bind fun v => fin sym (evConv tc s d v)
  | .extract x i => (rd x).bind fun v => fin sym (evExtract v i)
  | .call { callee := .builtin b, args := xs, argTypes := ts } => (rds rd xs.toList).bind fun vs => match b with
    | .len => match ts.toList, vs with
      | [t], [v] => fin sym (evLen tc t v)
      | _, _ => none
    | .max => fin sym (evMM true vs)
    | .min => fin sym (evMM false vs)
    | _ => none
  | .call { callee := .value y, args := xs, argTypes := ts } => (rd y).bind fun g => (evFn g).bind fun f => (rds rd xs.toList).bind fun vs => cr.bind fun c => evCall P tc H (o.dst.getD 0) f ts.toList vs c
  | _ => none

section
variable {P : Program} {w w' : World} {φ φ' : Phi} {X : Nat → Prop} {tc : List (Nat × TI)} {H H2 new : List (Nat × Blk)} {sym : Option V} {cr : Option CR} {o : List Prop} {v x y : V} {u ux uy : Value}
  {rd : Operand → Option V} {rdc : Bool → Tmp → Operand → Option V} {a : Act}

theorem rds_ok (hrd : ∀ y x, rd y = some x → Rel (Imm φ X w) w φ x (a.eval y)) : ∀ {xs : List Operand} {vs : List V}, rds rd xs = some vs → Rels (Imm φ X w) w φ vs (xs.map a.eval)
  | [], vs, h => by cases h; exact .nil
  | x :: r, vs, h => by
    unfold rds at h
    split at h
    · rename_i v vs' hv hvs
      cases h
      exact .cons (hrd _ _ hv) (rds_ok hrd hvs)
    · cases h
theorem Rels.tup {I : Nat → Prop} {vs : List V} {us : List Value} (h : Rels I w φ vs us) : us.length = vs.length ∧ ∀ i (hi : i < vs.length), Rel I w φ vs[i] (us.getD i undef) := by
  induction h with
  | nil => exact ⟨rfl, fun i hi => by simp at hi⟩
  | cons h1 _ ih =>
    refine ⟨by simp [ih.1], fun i hi => ?_⟩
    cases i with
    | zero => simpa using h1
    | succ i => simpa using ih.2 i (by simpa using hi)
theorem rdsP_ok (hrd : ∀ y x, rd y = some x → Rel (Imm φ X w) w φ x (a.eval y)) : ∀ {xs : List (Nat × Operand)} {vs : List (Nat × V)}, rdsP rd xs = some vs → RelsP (Imm φ X w) w φ vs (xs.map fun p => (p.1, a.eval p.2))
  | [], vs, h => by cases h; exact .nil
  | (i, x) :: r, vs, h => by
    unfold rdsP at h
    split at h
    · rename_i v vs' hv hvs
      cases h
      exact .cons (hrd _ _ hv) (rdsP_ok hrd hvs)
    · cases h
theorem fin_snd {op : Oper} {out : Out} {r : R} (h : fin sym out = some r) (ho : AllP r.obl)
    (k : ∀ o v, out = some (o, v) → AllP o → ∃ z, (execOp a.eval op).run P w = .ok (.value z) w ∧ Rel (Imm φ X w) w φ v z) : OpSnd P op a w φ X r := by
  unfold fin at h
  split at h
  · rename_i o' v'
    split at h
    · cases h
      exact OpSnd.pure_ (k _ _ rfl ho)
    · cases h
      obtain ⟨h1, h2, _⟩ := AllP.append.1 ho
      subst h2
      exact OpSnd.pure_ (k _ _ rfl h1)
  · cases h
theorem evNil_ok {d : Nat} {t : TypeId} {r : R} (h : evNil tc d t = some r) (hd : φ d = .none) {op : Oper} (hrun : (execOp a.eval op).run P w = .ok (.value (.slice none 0 0)) w) : OpSnd P op a w φ X r := by
  unfold evNil at h
  split at h
  · rename_i e _ _ _ _ hti
    split at h
    · rename_i ei hei
      cases h
      intro Q K hK
      unfold Oper.wp
      rw [hrun]
      have hl : ∀ id, lk [(d, (⟨[], true, 0, some (e, ei.size)⟩ : Blk))] id ≠ none → id = d := fun id hid => by
        simp only [lk] at hid
        split at hid
        · simp_all
        · simp at hid
      refine hK _ _ (φ.upd d .nil) ⟨rfl, rfl, rfl, Nat.le_refl _, fun _ _ => rfl, fun id hid => ?_, fun id b c' hid hs => ?_, fun i j b c' c'' hi hj _ _ => by rw [hl i hi, hl j hj]⟩ (.slnil (upd_same _ _ _)) (fun id blk hb => ?_)
      · have : id ≠ d := fun e => by subst e; simp [lk] at hid
        simp [Phi.upd, this]
      · have := hl id hid
        subst this
        rw [upd_same] at hs
        cases hs
      · have := hl id (by rw [show lk [(d, (⟨[], true, 0, some (e, ei.size)⟩ : Blk))] id = some blk from hb]; simp)
        subst this
        simp [lk] at hb
        subst hb
        rw [upd_same]
        exact ⟨rfl, rfl⟩
    · cases h
  · cases h
theorem evPick_ok (hrd : ∀ y x, rd y = some x → Rel (Imm φ X w) w φ x (a.eval y)) (hrdc : ∀ b t y x, rdc b t y = some x → a.tmps.getD t undef = .bool b → Rel (Imm φ X w) w φ x (a.eval y))
    {op : Oper} {c p q : Operand} (hop : op.op = .pick c p q) (h : evPick rd rdc c p q = some (o, v)) : ∃ z, (execOp a.eval op).run P w = .ok (.value z) w ∧ Rel (Imm φ X w) w φ v z := by
  unfold evPick at h
  split at h
  · rename_i t b hc
    have hcv := (hrd _ _ hc).val_inv
    have hc' : a.tmps.getD t undef = .bool b := hcv
    have hrun : (execOp a.eval op).run P w = .ok (.value (if b = true then a.eval p else a.eval q)) w := by
      simp only [execOp, hop, Sem.run_bind, asBool, hcv, Sem.run_pure, Result.andThen_ok]
    rw [hrun]
    split at h
    · split at h
      · rename_i z hz
        cases h
        refine ⟨_, rfl, ?_⟩
        cases b with
        | true =>
          have := (hrdc _ _ _ _ hz hc').val_inv
          simp only [if_true, this, Bool.true_and]
          exact .val rfl
        | false =>
          simp only [Bool.false_eq_true, if_false, Bool.false_and]
          exact .val rfl
      · cases h
    · split at h
      · split at h
        · rename_i z hz
          cases h
          refine ⟨_, rfl, ?_⟩
          cases b with
          | true =>
            simp only [if_true, Bool.true_or]
            exact .val rfl
          | false =>
            have := (hrdc _ _ _ _ hz hc').val_inv
            simp only [Bool.false_eq_true, if_false, this, Bool.false_or]
            exact .val rfl
        · cases h
      · cases h
  · cases h
theorem run_v {s : Sem Value} {z : Value} (h : s.run P w = .ok z w) : (do pure (Next.value (← s)) : Sem Next).run P w = .ok (.value z) w := by
  rw [Sem.run_bind, h]
  rfl
theorem bndV_of {rd : Operand → Option V} (hrd : ∀ y x, rd y = some x → Rel (Imm φ X w) w φ x (a.eval y)) {lo : Option Operand} {l : Option V} {n : Nat} {i : Int} (h : rdO rd lo = some l) (hb : bnd l n = some i) : bndV l (lo.map a.eval) := by
  cases lo with
  | none =>
    simp only [rdO, Option.some.injEq] at h
    subst h
    trivial
  | some y =>
    simp only [rdO, Option.map_eq_some_iff] at h
    obtain ⟨x, hx, rfl⟩ := h
    unfold bnd at hb
    split at hb
    · rename_i e; cases e
    · rename_i k j _ e
      cases e
      have := (hrd _ _ hx).val_inv
      simp [bndV, this]
    · cases hb

theorem stepV_ok (hT : TCok P tc) (hφ : Phi.ok φ X w H2) (hX : ∀ b, X b → b < w.heap.size) (hH : HR (Imm φ X w) w φ H) (hG : GOk (Imm φ X w) w)
    (hrd : ∀ y x, rd y = some x → Rel (Imm φ X w) w φ x (a.eval y)) (hrdc : ∀ b t y x, rdc b t y = some x → a.tmps.getD t undef = .bool b → Rel (Imm φ X w) w φ x (a.eval y))
    {op : Oper} {r : R} (h : stepV P tc H sym cr rd rdc op = some r) (ho : AllP r.obl) (hnew : ∀ id, lk r.new id ≠ none → φ id = .none) : OpSnd P op a w φ X r := by
  have hev : ∀ {d : Nat} {blk : Blk} {o v}, r = ⟨o, v, [(d, blk)]⟩ → φ d = .none := fun {d blk o v} e => hnew d (by subst e; simp [lk])
  obtain ⟨dst, o, type, pos, after, guard⟩ := op
  cases o
  case move x =>
    simp only [stepV, Option.bind_eq_some_iff] at h
    obtain ⟨z, hz, h⟩ := h
    refine fin_snd h ho (fun o v e _ => ?_)
    cases e
    exact ⟨_, rfl, hrd _ _ hz⟩
  case assign x =>
    simp only [stepV] at h
    split at h
    · rename_i d hn
      have hx : x = .const (.slice none 0 0) := by
        unfold isNilSl at hn
        split at hn
        · rfl
        · cases hn
      subst hx
      have h' := h
      unfold evNil at h'
      split at h'
      · split at h'
        · cases h'
          exact evNil_ok h (hev rfl) rfl
        · cases h'
      · cases h'
    · cases h
    · simp only [Option.bind_eq_some_iff] at h
      obtain ⟨z, hz, h⟩ := h
      refine fin_snd h ho (fun o v e _ => ?_)
      cases e
      exact ⟨_, rfl, hrd _ _ hz⟩
  case pick c p q =>
    simp only [stepV] at h
    exact fin_snd h ho (fun o v e _ => evPick_ok hrd hrdc rfl e)
  case alloc e =>
    simp only [stepV, Option.bind_eq_some_iff] at h
    obtain ⟨d, hd, h⟩ := h
    refine evAlloc_ok hT h ?_ rfl
    unfold evAlloc at h
    split at h
    · split at h
      · cases h
        exact hev rfl
      · cases h
    · cases h
  case box e x =>
    simp only [stepV, Option.bind_eq_some_iff] at h
    obtain ⟨d, hd, z, hz, h⟩ := h
    refine evBox_ok h ho ?_ rfl (hrd _ _ hz)
    unfold evBox at h
    split at h
    · simp only [Option.map_eq_some_iff] at h
      obtain ⟨o', _, rfl⟩ := h
      exact hev rfl
    · cases h
  case build t ps =>
    simp only [stepV, Option.bind_eq_some_iff] at h
    obtain ⟨z, hz, h⟩ := h
    refine fin_snd h ho (fun o v e _ => ?_)
    obtain ⟨r, h1, h2⟩ := evBuild_ok (w := w) hT e (rdsP_ok hrd hz)
    refine ⟨r, ?_, h2⟩
    have e2 : (ps.map fun p => (p.1, a.eval p.2)) = (ps.toList.map fun p => (p.1, a.eval p.2)).toArray := by
      rw [← Array.toList_map]
    show (do pure (Next.value (← Instr.build t (ps.map fun p => (p.1, a.eval p.2)))) : Sem Next).run P w = _
    rw [e2]
    exact run_v h1
  case buildSlice t len ps =>
    simp only [stepV, Option.bind_eq_some_iff] at h
    obtain ⟨d, hd, z, hz, h⟩ := h
    refine evBuildSlice_ok hT h ?_ (rdsP_ok hrd hz) ?_
    · unfold evBuildSlice at h
      split at h
      · split at h
        · split at h
          · simp only [Option.map_eq_some_iff] at h
            obtain ⟨_, _, rfl⟩ := h
            exact hev rfl
          · cases h
        · cases h
      · cases h
    · have e2 : (ps.map fun p => (p.1, a.eval p.2)) = (ps.toList.map fun p => (p.1, a.eval p.2)).toArray := by
        rw [← Array.toList_map]
      show (do pure (Next.value (← Instr.buildSlice t len (ps.map fun p => (p.1, a.eval p.2)))) : Sem Next).run P w = _
      rw [e2]
  case makeSlice t l c =>
    simp only [stepV, Option.bind_eq_some_iff] at h
    obtain ⟨d, hd, vl, hvl, vc, hvc, h⟩ := h
    refine evMakeSlice_ok hT h ho ?_ (hrd _ _ hvl) (hrd _ _ hvc) rfl
    unfold evMakeSlice at h
    split at h
    · split at h
      · split at h
        · simp only [Option.map_eq_some_iff] at h
          obtain ⟨_, _, rfl⟩ := h
          exact hev rfl
        · cases h
      · cases h
    · cases h
  case load t x =>
    simp only [stepV, Option.bind_eq_some_iff] at h
    obtain ⟨z, hz, h⟩ := h
    refine fin_snd h ho (fun o v e ho' => ?_)
    obtain ⟨r, h1, h2⟩ := evLoad_ok hT e ho' (hrd _ _ hz) hH
    exact ⟨r, run_v h1, h2⟩
  case nilCheck x =>
    simp only [stepV, Option.bind_eq_some_iff] at h
    obtain ⟨z, hz, h⟩ := h
    refine fin_snd h ho (fun o v e ho' => ?_)
    have hr := hrd _ _ hz
    unfold evNC at e
    split at e
    · cases e
      generalize hu : a.eval x = u at hr
      cases hr with
      | ptr hs => exact ⟨_, by simp [execOp, hu], .ptr hs⟩
    · cases e
      generalize hu : a.eval x = u at hr
      cases hr with
      | vp q1 q2 q3 q4 => exact ⟨_, by simp [execOp, hu], .vp q1 q2 q3 q4⟩
    · cases e
      exact ho'.1.elim
    · cases e
  case makeFunc fn fs cs =>
    simp only [stepV, Option.bind_eq_some_iff] at h
    obtain ⟨as, has, bs, hbs, h⟩ := h
    refine fin_snd h ho (fun o v e ho' => ?_)
    cases e
    refine ⟨.func fn (fs.map a.eval) (cs.map a.eval), run_v (by simp [Instr.makeFunc]), ?_⟩
    have h1 := rds_ok hrd has
    have h2 := rds_ok hrd hbs
    have gen : Rel (Imm φ X w) w φ (.clo fn as bs) (.func fn (fs.map a.eval) (cs.map a.eval)) := by
      have q1 := h1.tup
      have q2 := h2.tup
      exact .clo (by simpa using q1.1) (fun i hi => by simpa using q1.2 i hi) (by simpa using q2.1) (fun i hi => by simpa using q2.2 i hi)
    unfold mkClo
    split
    · cases gen with
      | clo g1 g2 g3 g4 =>
        have e1 : fs.map a.eval = #[] := by apply Array.eq_empty_of_size_eq_zero; simpa using g1
        have e2 : cs.map a.eval = #[] := by apply Array.eq_empty_of_size_eq_zero; simpa using g3
        rw [e1, e2]
        exact .val rfl
    · exact gen
  case fieldAddr s x f =>
    simp only [stepV, Option.bind_eq_some_iff] at h
    obtain ⟨z, hz, h⟩ := h
    refine fin_snd h ho (fun o v e ho' => ?_)
    obtain ⟨r, h1, h2⟩ := evFieldAddr_ok hT e (hrd _ _ hz)
    exact ⟨r, run_v h1, h2⟩
  case field s x f =>
    simp only [stepV, Option.bind_eq_some_iff] at h
    obtain ⟨z, hz, h⟩ := h
    refine fin_snd h ho (fun o v e ho' => ?_)
    obtain ⟨r, h1, h2⟩ := evField_ok hT e ho' (hrd _ _ hz)
    exact ⟨r, run_v h1, h2⟩
  case indexAddr t x i =>
    simp only [stepV, Option.bind_eq_some_iff] at h
    obtain ⟨z, hz, j, hj, h⟩ := h
    refine fin_snd h ho (fun o v e ho' => ?_)
    obtain ⟨r, h1, h2⟩ := evIndexAddr_ok hT e ho' (hrd _ _ hz) (hrd _ _ hj)
    exact ⟨r, run_v h1, h2⟩
  case index t x i =>
    simp only [stepV, Option.bind_eq_some_iff] at h
    obtain ⟨z, hz, j, hj, h⟩ := h
    refine fin_snd h ho (fun o v e ho' => ?_)
    obtain ⟨r, h1, h2⟩ := evIndex_ok hT e ho' (hrd _ _ hz) (hrd _ _ hj)
    exact ⟨r, run_v h1, h2⟩
  case slice t x lo hi mx =>
    cases mx with
    | some m => simp [stepV] at h
    | none =>
      simp only [stepV, Option.bind_eq_some_iff] at h
      obtain ⟨z, hz, l, hl, q, hq, h⟩ := h
      refine fin_snd h ho (fun o v e ho' => ?_)
      have e' := e
      unfold evSlice at e'
      split at e'
      · cases e'
      rename_i l' hl'
      have hb1 := bndV_of hrd hl hl'
      have hb2 : bndV q (hi.map a.eval) := by
        cases hi with
        | none =>
          simp only [rdO, Option.some.injEq] at hq
          subst hq
          trivial
        | some y =>
          simp only [rdO, Option.map_eq_some_iff] at hq
          obtain ⟨x', hx', rfl⟩ := hq
          by_cases hbb : ∃ i, bnd (some x') 0 = some i
          · obtain ⟨i, hi'⟩ := hbb
            exact bndV_of (n := 0) hrd (lo := some y) (l := some x') (by simp [rdO, hx']) hi'
          · exfalso
            have hno : ∀ n, bnd (some x') n = none := fun n => by
              cases hbn : bnd (some x') n with
              | none => rfl
              | some i =>
                exfalso
                refine hbb ⟨i, ?_⟩
                unfold bnd at hbn ⊢
                split at hbn <;> first | (rename_i e0; cases e0; done) | (cases hbn; rename_i e0; cases e0; rfl) | cases hbn
            unfold evSlice at e
            simp only [hl', hno] at e
            split at e <;> (try split at e) <;> (try split at e) <;> (try split at e) <;> (try split at e) <;> (try split at e) <;> simp at e
      obtain ⟨r, h1, h2⟩ := evSlice_ok hT hH e ho' (hrd _ _ hz) hb1 hb2
      exact ⟨r, run_v h1, h2⟩
  case binOp op t x y t2 =>
    simp only [stepV, Option.bind_eq_some_iff] at h
    obtain ⟨z, hz, j, hj, h⟩ := h
    refine fin_snd h ho (fun o v e ho' => ?_)
    obtain ⟨r, h1, h2⟩ := evBin_ok hT x y e ho' (hrd _ _ hz) (hrd _ _ hj)
    exact ⟨r, run_v h1, h2⟩
  case unOp op t x =>
    simp only [stepV, Option.bind_eq_some_iff] at h
    obtain ⟨z, hz, h⟩ := h
    refine fin_snd h ho (fun o v e ho' => ?_)
    obtain ⟨r, h1, h2⟩ := evUn_ok e (hrd _ _ hz)
    exact ⟨r, run_v h1, h2⟩
  case convert s d x =>
    simp only [stepV, Option.bind_eq_some_iff] at h
    obtain ⟨z, hz, h⟩ := h
    refine fin_snd h ho (fun o v e ho' => ?_)
    obtain ⟨r, h1, h2⟩ := evConv_ok hT e ho' (hrd _ _ hz)
    exact ⟨r, run_v h1, h2⟩
  case extract x i =>
    simp only [stepV, Option.bind_eq_some_iff] at h
    obtain ⟨z, hz, h⟩ := h
    refine fin_snd h ho (fun o v e ho' => ?_)
    obtain ⟨r, h1, h2⟩ := evExtract_ok e (hrd _ _ hz)
    exact ⟨r, run_v h1, h2⟩
  case call c =>
    obtain ⟨callee, xs, ts⟩ := c
    cases callee with
    | builtin b =>
      simp only [stepV, Option.bind_eq_some_iff] at h
      obtain ⟨vs, hvs, h⟩ := h
      have hr := rds_ok hrd hvs
      have exs : xs.map a.eval = (xs.toList.map a.eval).toArray := by rw [← Array.toList_map]
      generalize hus : xs.toList.map a.eval = us at hr exs
      have hrun : ∀ (z : Value) (s : Sem Value), s.run P w = .ok z w → (∀ cs, builtin b ts type cs us.toArray = (do pure (.value (← s)))) → (execOp a.eval ⟨dst, .call { callee := .builtin b, args := xs, argTypes := ts }, type, pos, after, guard⟩).run P w = .ok (.value z) w := fun z s hs hb => by
        simp only [execOp, resolve, Sem.run_bind, Sem.run_pure, Result.andThen_ok, exs, invoke, hb]
        rw [hs]
        rfl
      split at h
      · split at h
        · rename_i t z hts
          refine fin_snd h ho (fun o v e ho' => ?_)
          cases hr with
          | cons h1 h2 =>
            cases h2 with
            | nil =>
              obtain ⟨r, q1, q2⟩ := evLen_ok (ty := type) hT e h1
              have ets : ts = #[t] := by cases ts; simp_all
              subst ets
              exact ⟨r, hrun _ _ q1 (fun _ => rfl), q2⟩
        · cases h
      · refine fin_snd h ho (fun o v e ho' => ?_)
        obtain ⟨r, q1, q2⟩ := evMM_ok (P := P) (w := w) e hr ts type
        exact ⟨r, hrun _ _ q1 (fun _ => rfl), q2⟩
      · refine fin_snd h ho (fun o v e ho' => ?_)
        obtain ⟨r, q1, q2⟩ := evMM_ok (P := P) (w := w) e hr ts type
        exact ⟨r, hrun _ _ q1 (fun _ => rfl), q2⟩
      · cases h
    | value y =>
      simp only [stepV, Option.bind_eq_some_iff] at h
      obtain ⟨g, hg, f, hf, vs, hvs, c, hc, h⟩ := h
      have hgf : a.eval y = .func (.func f) #[] #[] := by
        unfold evFn at hf
        split at hf
        · cases hf
          exact (hrd _ _ hg).val_inv
        · cases hf
      have hr := rds_ok hrd hvs
      have exs : xs.map a.eval = (xs.toList.map a.eval).toArray := by rw [← Array.toList_map]
      refine evCall_ok hφ hX hH hG h ho hnew (us := xs.toList.map a.eval) ?_ hr
      simp only [execOp, resolve, Sem.run_bind, Sem.run_pure, Result.andThen_ok, exs, Deferred.ofValue, hgf, invoke]
      simp
    | invoke r m => simp [stepV] at h
  all_goals simp [stepV] at h
end
end Go.Ab
