/- Values that are put together; calls. -/
import Derived.Test.YtmeiemdnhjnpcaaAb7
set_option linter.unusedSimpArgs false
set_option linter.unusedVariables false
namespace Go.Ab
open Go.RowKit
section
variable {P : Program} {I : Nat → Prop} {w w' : World} {φ φ' : Phi} {X : Nat → Prop} {tc : List (Nat × TI)} {H new : List (Nat × Blk)} {sym : Bool} {o : List Prop} {v x y : V} {u ux uy : Value}

def putAt (cs : List V) (off : Nat) (ds : List V) : List V := cs.take off ++ (ds ++ cs.drop (off + ds.length))
def putAtU (us : List Value) (off : Nat) (vs : List Value) : List Value := us.take off ++ (vs ++ us.drop (off + vs.length))
theorem RelL.putAt {cs ds : List V} {us vs : List Value} (h : RelL I w φ cs us) (k : RelL I w φ ds vs) (off : Nat) : RelL I w φ (putAt cs off ds) (putAtU us off vs) := by
  unfold Ab.putAt putAtU
  rw [k.1]
  exact (h.take off).append (k.append (h.drop _))

theorem fold_put (off : Nat) : ∀ (vs : List Value) (k : Nat) (us : Array Value), off + k + vs.length ≤ us.size →
    ((vs.zipIdx k).foldl (fun (cs : Array Value) (p : Value × Nat) => cs.setIfInBounds (off + p.2) p.1) us).toList = us.toList.take (off + k) ++ (vs ++ us.toList.drop (off + k + vs.length))
  | [], k, us, h => by simp
  | v :: vs, k, us, h => by
    simp only [List.zipIdx_cons, List.foldl_cons, List.length_cons] at h ⊢
    rw [fold_put off vs (k + 1) _ (by simp; omega)]
    have hlt : off + k < us.toList.length := by simp; omega
    simp only [Array.toList_setIfInBounds]
    apply List.ext_getElem?
    intro i
    simp only [List.getElem?_append, List.length_take, List.length_set, List.getElem?_take, List.getElem?_set, List.getElem?_drop, List.length_cons, List.getElem?_cons]
    by_cases h1 : i < off + k
    · have : i < min (off + (k + 1)) us.toList.length := by omega
      have h2 : i < min (off + k) us.toList.length := by omega
      simp only [this, h2, if_true, h1, show i < off + (k + 1) by omega, show ¬ (off + k = i) by omega, if_false]
    · by_cases h3 : i = off + k
      · subst h3
        have h4 : off + k < min (off + (k + 1)) us.toList.length := by omega
        have h5 : ¬ off + k < min (off + k) us.toList.length := by omega
        have e : off + k - min (off + k) us.toList.length = 0 := by omega
        simp only [h4, h5, if_true, if_false, show off + k < off + (k + 1) by omega, hlt, e]
        simp
      · have h4 : ¬ i < min (off + (k + 1)) us.toList.length := by omega
        have h5 : ¬ i < min (off + k) us.toList.length := by omega
        have e1 : i - min (off + (k + 1)) us.toList.length = i - (off + k + 1) := by omega
        have e2 : i - min (off + k) us.toList.length = i - (off + k + 1) + 1 := by omega
        simp only [h4, h5, if_false, e1, e2]
        have e3 : (i - (off + k + 1) + 1 = 0) = False := by simp
        simp only [e3, if_false, Nat.add_sub_cancel]
        have e4 : (i - (off + k + 1) + 1 < vs.length + 1) = (i - (off + k + 1) < vs.length) := by simp
        simp only [e4]
        split
        · rfl
        · have e5 : off + (k + 1) + vs.length + (i - (off + k + 1) - vs.length) = off + k + (vs.length + 1) + (i - (off + k + 1) + 1 - (vs.length + 1)) := by omega
          rw [e5]
          have : ¬ (off + k = off + k + (vs.length + 1) + (i - (off + k + 1) + 1 - (vs.length + 1))) := by omega
          simp only [this, if_false]

/-- The parts that a value is put together of. -/
inductive RelsP (I : Nat → Prop) (w : World) (φ : Phi) : List (Nat × V) → List (Nat × Value) → Prop
  | nil : RelsP I w φ [] []
  | cons {i x u xs us} : Rel I w φ x u → RelsP I w φ xs us → RelsP I w φ ((i, x) :: xs) ((i, u) :: us)
def evFill (place : Nat → Option (Nat × Nat)) (cells : List V) : List (Nat × V) → Option (List V)
  | [] => some cells
  | (i, x) :: r => match place i, x.cells with
    | some (off, sz), some ds => if Nat.beq ds.length sz && Nat.ble (off + sz) cells.length then evFill place (putAt cells off ds) r else none
    | _, _ => none
def allFlat : List (Nat × V) → Bool
  | [] => true
  | (_, x) :: r => flat x && allFlat r
theorem evFill_ok {place : Nat → Option (Nat × Nat)} : ∀ {parts : List (Nat × V)} {pu : List (Nat × Value)} {cells cs : List V} {us : Array Value} (fl : Bool), evFill place cells parts = some cs → RelsP I w φ parts pu → (fl = true → allFlat parts = true) →
    RelL I w (bFlat φ fl) cells us.toList → ∃ us', Instr.fill place us pu = some us' ∧ RelL I w (bFlat φ fl) cs us'.toList
  | [], _, cells, cs, us, fl, h, hr, _, hc => by
    cases hr
    cases h
    exact ⟨us, rfl, hc⟩
  | (i, x) :: r, _, cells, cs, us, fl, h, hr, hf, hc => by
    cases hr with
    | cons h1 h2 =>
      rename_i u us2
      unfold evFill at h
      split at h
      · rename_i off sz ds hp hds
        split at h
        · rename_i hb
          simp only [Bool.and_eq_true, Nat.ble_eq] at hb
          have hb1 : ds.length = sz := Nat.eq_of_beq_eq_true hb.1
          have hd := h1.cellsB hds
          have hd' : RelL I w (bFlat φ fl) ds u.cells.toList := by
            cases fl with
            | true =>
              have := hf rfl
              simp only [allFlat, Bool.and_eq_true] at this
              rw [this.1] at hd
              exact hd
            | false =>
              refine hd.mono (fun _ h => ⟨h, rfl⟩) (fun id b c hs => ?_) (fun id hs => ?_)
              · unfold bFlat at hs
                split at hs
                · cases hs
                · exact hs
              · unfold bFlat at hs
                split at hs
                · cases hs
                · exact hs
          have hul : u.cells.size = ds.length := by have := hd.1; simpa using this
          have hcl := hc.1
          simp only [Array.length_toList] at hcl
          have := evFill_ok (us := (u.cells.zipIdx.foldl (fun cs (c, j) => cs.setIfInBounds (off + j) c) us)) fl h h2 (fun e => by
              have := hf e
              simp only [allFlat, Bool.and_eq_true] at this
              exact this.2) (by
            have e : (u.cells.zipIdx.foldl (fun cs (c, j) => cs.setIfInBounds (off + j) c) us).toList = putAtU us.toList off u.cells.toList := by
              rw [← Array.foldl_toList, Array.toList_zipIdx]
              have := fold_put off u.cells.toList 0 us (by simp; omega)
              simpa [putAtU] using this
            rw [e]
            exact hc.putAt hd' off)
          obtain ⟨us', q1, q2⟩ := this
          refine ⟨us', ?_, q2⟩
          unfold Instr.fill
          simp only [hp]
          rw [if_neg]
          · exact q1
          · simp only [Bool.or_eq_true, decide_eq_true_eq, ne_eq]
            omega
        · cases h
      · cases h

def placesOf (tc : List (Nat × TI)) : List Field → Option (List (Nat × Nat))
  | [] => some []
  | f :: fs => match lk tc f.type, placesOf tc fs with
    | some ti, some r => some ((f.offset, ti.size) :: r)
    | _, _ => none
theorem placesOf_ok (hT : TCok P tc) : ∀ {fs : List Field} {ps : List (Nat × Nat)}, placesOf tc fs = some ps → (fs.mapM fun f => do pure (f.offset, ← sizeOf f.type) : Sem (List (Nat × Nat))).run P w = .ok ps w
  | [], ps, h => by cases h; rfl
  | f :: fs, ps, h => by
    unfold placesOf at h
    split at h
    · rename_i ti r hti hr
      cases h
      have := placesOf_ok hT hr
      simp only [List.mapM_cons, Sem.run_bind, (hT.get hti).sizeOf w, Result.andThen_ok, Sem.run_pure, this]
    · cases h
def evBuild (tc : List (Nat × TI)) (t : TypeId) (parts : List (Nat × V)) : Out :=
  match lk tc t with
  | some ti => if ti.zero.all scalar then match ti.desc with
    | .struct fields => match placesOf tc fields.toList with
      | some ps => (evFill (fun i => ps[i]?) (vals ti.zero) parts).map fun cs => ([], .agg (allFlat parts) cs)
      | none => none
    | .array _ e => match lk tc e with
      | some ei => (evFill (fun i => some (i * ei.size, ei.size)) (vals ti.zero) parts).map fun cs => ([], .agg (allFlat parts) cs)
      | none => none
    | _ => none
    else none
  | none => none
theorem RelL.agg {fl : Bool} {cs : List V} {us : Array Value} (h : RelL I w (bFlat φ fl) cs us.toList) : Rel I w φ (.agg fl cs) (.agg us) :=
  .agg (by simpa using h.1) h.2.1 h.2.2
theorem evBuild_ok (hT : TCok P tc) {t : TypeId} {parts : List (Nat × V)} {pu : List (Nat × Value)} (h : evBuild tc t parts = some (o, v)) (hp : RelsP I w φ parts pu) : ∃ r, (Instr.build t pu.toArray).run P w = .ok r w ∧ Rel I w φ v r := by
  unfold evBuild at h
  split at h
  · rename_i ti hti
    have ht := hT.get hti
    obtain ⟨z, hz1, hz2⟩ := ht.zeroValue w
    split at h
    · rename_i hsc
      have hz : RelL I w (bFlat φ (allFlat parts)) (vals ti.zero) z.cells.toList := by rw [hz2]; exact vals_rel _ hsc _
      split at h
      · rename_i fields hd
        split at h
        · rename_i ps hps
          simp only [Option.map_eq_some_iff, Prod.mk.injEq] at h
          obtain ⟨cs, hcs, rfl, rfl⟩ := h
          obtain ⟨us', q1, q2⟩ := evFill_ok _ hcs hp (fun e => e) hz
          refine ⟨.agg us', ?_, q2.agg⟩
          have hpl : (fields.mapM fun f => do pure (f.offset, ← sizeOf f.type) : Sem (Array (Nat × Nat))).run P w = .ok ps.toArray w := by
            have e : fields = fields.toList.toArray := by simp
            rw [e, List.mapM_toArray]
            simp only [Sem.run_map, placesOf_ok hT hps, Result.andThen_ok]
          have hdu := ht.und w
          rw [hd] at hdu
          simp only [Instr.build, Sem.run_bind, hz1, Result.andThen_ok, hdu, hpl]
          have e2 : (fun i : Nat => (ps.toArray)[i]?) = fun i : Nat => ps[i]? := by funext i; simp
          simp only [e2, q1, Sem.run_pure]
        · cases h
      · rename_i n e hd
        split at h
        · rename_i ei hei
          have he := hT.get hei
          simp only [Option.map_eq_some_iff, Prod.mk.injEq] at h
          obtain ⟨cs, hcs, rfl, rfl⟩ := h
          obtain ⟨us', q1, q2⟩ := evFill_ok _ hcs hp (fun e => e) hz
          refine ⟨.agg us', ?_, q2.agg⟩
          have hdu := ht.und w
          rw [hd] at hdu
          simp only [Instr.build, Sem.run_bind, hz1, Result.andThen_ok, hdu, he.sizeOf w, q1, Sem.run_pure]
        · cases h
      · cases h
    · cases h
  · cases h
end

/-! ### Calls -/
/-- The function is there, and has a body. -/
def FnOk (P : Program) (f : FuncId) : Prop := ∃ fn, P.funcs[f]? = some fn ∧ (fn.name == "runtime.NumGoroutine") = false ∧ fn.body.isNone = false

/-- What a function does: handed values that stand so, and own blocks Hin, it returns r, and leaves Hout; all else is as it was. -/
def Con (P : Program) (f : FuncId) (Hin : List (Nat × Blk)) (args : List V) (Hout : List (Nat × Blk)) (r : V) : Prop :=
  FnOk P f ∧ ∀ (X : Nat → Prop) (φ : Phi) (w : World) (us : List Value), Phi.ok φ X w Hin → (∀ b, X b → b < w.heap.size) → HR (Imm φ X w) w φ Hin → Rels (Imm φ X w) w φ args us → GOk (Imm φ X w) w →
    Calls P f us.toArray w fun e w' => ∃ u φ', e = .returned u ∧ Frm φ w w' ∧ Phi.ok φ' X w' Hout ∧ (∀ id b c, φ' id = .at b c → (∃ id0 c0, φ id0 = .at b c0) ∨ w.heap.size ≤ b) ∧
      HR (Imm φ' X w') w' φ' Hout ∧ Rel (Imm φ' X w') w' φ' r u ∧ (∀ id b, BIG ≤ id → φ id = .at b none → φ' id = .at b none ∨ lk Hout id = none)

mutual
/-- Other numbers for the own blocks. -/
def ren (k : Nat) : V → V
  | .ptr id off => .ptr (id + k) off
  | .sl id off n => .sl (id + k) off n
  | .agg false cs => .agg false (renL k cs)
  | .tup cs => .tup (renL k cs)
  | .clo fn a b => .clo fn (renL k a) (renL k b)
  | x => x
  termination_by structural x => x
def renL (k : Nat) : List V → List V
  | [] => []
  | x :: r => ren k x :: renL k r
  termination_by structural x => x
end
theorem renL_eq (k : Nat) (l : List V) : renL k l = l.map (ren k) := by
  induction l with
  | nil => simp [renL]
  | cons x r ih => simp [renL, ih]
def renB (k : Nat) (b : Blk) : Blk := if b.flat then b else { b with cells := renL k b.cells }
def renH (k : Nat) : List (Nat × Blk) → List (Nat × Blk)
  | [] => []
  | (id, b) :: r => (id + k, renB k b) :: renH k r
section
variable {P : Program} {I : Nat → Prop} {w w' : World} {φ φ' : Phi} {X : Nat → Prop} {tc : List (Nat × TI)} {H new : List (Nat × Blk)} {sym : Bool} {o : List Prop} {v x y : V} {u ux uy : Value}
theorem Rel.ren {k : Nat} (h : Rel I w φ x u) : ∀ φ2 : Phi, (∀ id, φ id ≠ .none → φ2 (id + k) = φ id) → Rel I w φ2 (Ab.ren k x) u := by
  induction h with
  | val h => exact fun _ _ => by simpa [Ab.ren] using Rel.val h
  | ptr h =>
      intro φ2 hk
      simp only [Ab.ren]
      exact .ptr (by rw [hk _ (by rw [h]; simp)]; exact h)
  | sl h a b c =>
      intro φ2 hk
      simp only [Ab.ren]
      exact .sl (by rw [hk _ (by rw [h]; simp)]; exact h) a b c
  | slnil h =>
      intro φ2 hk
      simp only [Ab.ren]
      exact .slnil (by rw [hk _ (by rw [h]; simp)]; exact h)
  | vs a b c d e f g => exact fun _ _ => by simpa [Ab.ren] using Rel.vs a b c d e f g
  | vp a b c d => exact fun _ _ => by simpa [Ab.ren] using Rel.vp a b c d
  | @agg φ fl cs us hl hr h1 ih =>
    intro φ2 hk
    cases fl with
    | true => simpa [Ab.ren] using Rel.agg (φ := φ2) (fl := true) hl (by simpa using hr) h1
    | false =>
      simp only [Ab.ren, renL_eq]
      refine .agg (by simpa using hl) (fun i hi => ?_) h1
      have hi' : i < cs.length := by simpa using hi
      simpa using ih i hi' φ2 (by simpa using hk)
  | @tup φ cs us hl hr ih =>
    intro φ2 hk
    simp only [Ab.ren, renL_eq]
    refine .tup (by simpa using hl) (fun i hi => ?_)
    have hi' : i < cs.length := by simpa using hi
    simpa using ih i hi' φ2 hk
  | @clo φ fn fs cap us vs hl hr hl2 hr2 ih ih2 =>
    intro φ2 hk
    simp only [Ab.ren, renL_eq]
    refine .clo (by simpa using hl) (fun i hi => ?_) (by simpa using hl2) (fun i hi => ?_)
    · have hi' : i < fs.length := by simpa using hi
      simpa using ih i hi' φ2 hk
    · have hi' : i < cap.length := by simpa using hi
      simpa using ih2 i hi' φ2 hk
  | bo => exact fun _ _ => by simpa [Ab.ren] using Rel.bo
  | top => exact fun _ _ => by simpa [Ab.ren] using Rel.top
theorem RelL.ren {k : Nat} {cs : List V} {us : List Value} (h : RelL I w φ cs us) (φ2 : Phi) (hk : ∀ id, φ id ≠ .none → φ2 (id + k) = φ id) : RelL I w φ2 (renL k cs) us := by
  rw [renL_eq]
  refine ⟨by simpa using h.1, fun i hi => ?_, h.2.2⟩
  have hi' : i < cs.length := by simpa using hi
  simpa using (h.2.1 i hi').ren φ2 hk
theorem BlkRel.ren {k : Nat} {s : Slot} {blk : Blk} (h : BlkRel I w φ s blk) (φ2 : Phi) (hk : ∀ id, φ id ≠ .none → φ2 (id + k) = φ id) : BlkRel I w φ2 s (renB k blk) := by
  unfold renB
  cases hf : blk.flat with
  | true =>
    simp only [if_true]
    cases s with
    | none => trivial
    | nil => exact h
    | «at» b c =>
      obtain ⟨us, el, h1, h2, h3⟩ := h
      refine ⟨us, el, h1, ?_, h3⟩
      rw [hf] at h2 ⊢
      exact h2
  | false =>
    simp only [Bool.false_eq_true, if_false]
    cases s with
    | none => trivial
    | nil =>
      obtain ⟨h1, h2⟩ := h
      exact ⟨by simp [h1, renL], h2⟩
    | «at» b c =>
      obtain ⟨us, el, h1, h2, h3⟩ := h
      have hl : (renL k blk.cells).length = blk.cells.length := by simp [renL_eq]
      rw [hf] at h2
      refine ⟨us, el, h1, ?_, ?_⟩
      · simp only [hl]
        exact h2.ren φ2 hk
      · simp only [hl]
        exact h3
theorem lk_renH {k : Nat} : ∀ {H : List (Nat × Blk)} {j : Nat} {blk : Blk}, lk (renH k H) j = some blk → ∃ id b0, j = id + k ∧ lk H id = some b0 ∧ blk = renB k b0
  | [], _, _, h => by cases h
  | (id, b) :: r, j, blk, h => by
    simp only [renH, lk] at h
    split at h
    · rename_i e
      simp at e
      cases h
      exact ⟨id, b, e, by simp [lk], rfl⟩
    · rename_i e
      obtain ⟨id', b0, h1, h2, h3⟩ := lk_renH h
      refine ⟨id', b0, h1, ?_, h3⟩
      simp only [lk]
      rw [if_neg]
      · exact h2
      · intro e'
        simp at e'
        subst e'
        subst h1
        simp at e
theorem lk_renH_of {k : Nat} : ∀ {H : List (Nat × Blk)} {id : Nat} {b0 : Blk}, lk H id = some b0 → lk (renH k H) (id + k) = some (renB k b0)
  | [], _, _, h => by cases h
  | (i, b) :: r, id, b0, h => by
    simp only [lk] at h
    simp only [renH, lk]
    split at h
    · rename_i e
      simp at e
      subst e
      cases h
      simp
    · rename_i e
      rw [if_neg]
      · exact lk_renH_of h
      · intro e'
        simp at e'
        subst e'
        simp at e
end
end Go.Ab
