/- Slices that grow, copies. -/
import Derived.Test.YtcekfepgdfcinaaGreatDoorAb14
import Derived.Laws.OwnMore
import Derived.Laws.CopyOwn
set_option linter.unusedSimpArgs false
set_option linter.unusedVariables false
namespace Go.Ab
open Go.RowKit

def putC (one : Bool) (cs : List V) (off : Nat) (ds : List V) : List V :=
  match one, ds with
  | true, [d] => cs.set off d
  | _, ds => putAt cs off ds
theorem set_putAt {cs : List V} {off : Nat} {d : V} (h : off < cs.length) : cs.set off d = putAt cs off [d] := by
  unfold putAt
  rw [List.set_eq_take_append_cons_drop, if_pos h]
  simp
theorem putC_eq {one : Bool} {cs ds : List V} {off : Nat} (h : off + ds.length ≤ cs.length) : putC one cs off ds = putAt cs off ds := by
  unfold putC
  split
  · rename_i d
    simp only [List.length_cons, List.length_nil] at h
    exact set_putAt (by omega)
  · rfl
def evStore (tc : List (Nat × TI)) (H : List (Nat × Blk)) (sym : Bool) (t : TypeId) (x y : V) : Option (List Prop × List (Nat × Blk)) :=
  match x, y.cells, lk tc t with
  | .ptr id off, some ds, some ti => match lkC H id, chk sym (Nat.beq ds.length ti.size) (ds.length = ti.size) with
    | some blk, some o1 => match blk.bld.isNone && blk.size == ti.size with
      | true => (chk sym (off == 0) (off = 0)).map fun o2 => (o1 ++ o2, ins id { blk with cells := ds, flat := flat y } H)
      | false => (chk sym (Nat.ble (off + ti.size) blk.cells.length) (off + ti.size ≤ blk.cells.length)).map fun o2 =>
          (o1 ++ o2, ins id { blk with cells := putC (ti.size == 1) blk.cells off ds, flat := blk.flat && flat y } H)
    | _, _ => none
  | _, _, _ => none

section
variable {C : Cx} {G : Gl} {P : Program} {φ φ' : Phi} {a : Act} {w w' : World} {s s' : St} {tc : List (Nat × TI)} {H : List (Nat × Blk)} {sym : Bool} {o : List Prop} {x y : V} {ux uy : Value}

theorem setCells_heap (b : Nat) (el : TypeId) (off : Nat) : ∀ (vs : List Value) (k : Nat) (w : World) (us : Array Value), w.heap[b]? = some (.cells us el) →
    (w.setCells b (off + k) vs).heap[b]? = some (.cells ((vs.zipIdx k).foldl (fun (cs : Array Value) (p : Value × Nat) => cs.setIfInBounds (off + p.2) p.1) us) el)
  | [], k, w, us, h => by simpa [World.setCells] using h
  | v :: r, k, w, us, h => by
    simp only [World.setCells, List.zipIdx_cons, List.foldl_cons]
    refine setCells_heap b el off r (k + 1) _ _ ?_
    have hlt : b < w.heap.size := (Array.getElem?_eq_some_iff.1 h).1
    have hv : w.heap[b] = .cells us el := (Array.getElem?_eq_some_iff.1 h).2
    unfold World.setCell
    rw [Array.getElem?_eq_getElem (by simpa using hlt), Array.getElem_modify]
    simp [hv]
theorem setCells_other (b : Nat) {b' : Nat} (hne : b' ≠ b) : ∀ (vs : List Value) (off : Nat) (w : World), (w.setCells b off vs).heap[b']? = w.heap[b']?
  | [], _, _ => rfl
  | v :: r, off, w => by
    rw [World.setCells, setCells_other b hne r]
    simp [World.setCell, Array.getElem?_modify, Ne.symm hne]
theorem setCells_size (b : Nat) : ∀ (vs : List Value) (off : Nat) (w : World), (w.setCells b off vs).heap.size = w.heap.size
  | [], _, _ => rfl
  | v :: r, off, w => by
    rw [World.setCells, setCells_size b r]
    simp [World.setCell]
theorem setCells_os (b : Nat) : ∀ (vs : List Value) (off : Nat) (w : World), (w.setCells b off vs).os = w.os ∧ (w.setCells b off vs).tape = w.tape ∧ (w.setCells b off vs).output = w.output
  | [], _, _ => ⟨rfl, rfl, rfl⟩
  | v :: r, off, w => by
    rw [World.setCells]
    exact setCells_os b r _ _

/-- One own block is written. -/
theorem Inv.write (hI : Inv C G s φ a w) {id b : Nat} {c : Option Nat} (hs : φ id = .at b c) {blk' : Blk} (hid : lk s.H id ≠ none)
    (hos : w'.os = w.os ∧ w'.tape = w.tape ∧ w'.output = w.output) (hsz : w'.heap.size = w.heap.size) (hot : ∀ b', b' ≠ b → w'.heap[b']? = w.heap[b']?)
    (hb : BlkRel (Imm φ G.X w') w' φ (.at b c) blk') : Inv C G ⟨s.tm, ins id blk' s.H⟩ φ a w' := by
  have im : ∀ b', Imm φ G.X w b' → Imm φ G.X w' b' ∧ w'.heap[b']? = w.heap[b']? := fun b' h =>
    ⟨⟨by rw [hsz]; exact h.1, h.2⟩, hot b' (fun e => h.2.1 id c (e ▸ hs))⟩
  refine ⟨hI.size, hI.defers, fun t x hx => ?_, fun i blk hl => ?_, ⟨hI.ok.inj, fun i b c h => by rw [hsz]; exact hI.ok.lt i b c h, hI.ok.free, fun i hi => ?_⟩, hI.x.to (by rw [hsz]; exact Nat.le_refl _) (fun b' hb' => hot b' (fun e => hI.ok.free _ _ _ hs (e ▸ hb'))), ?_, hI.own, fun i hb h0 => (hI.fix i hb h0).imp (fun h => h) (fun e => by
    show lk (ins id blk' s.H) i = none
    rw [lk_ins, if_neg (fun e2 => hid (by rw [← e2]; exact e))]
    exact e)⟩
  · have := hI.tm t x hx
    cases x with
    | plain y => exact Rel.mono im this _ (fun _ _ _ h => h) (fun _ h => h)
    | gd d want y => exact ⟨fun e => (this.1 e).mono im _ (fun _ _ _ h => h) (fun _ h => h), this.2⟩
  · rw [lk_ins] at hl
    split at hl
    · rename_i e
      subst e
      cases hl
      rw [hs]
      exact hb
    · rename_i e
      refine (hI.hr i blk hl).mono im (fun b' c' hs' => hot b' (fun eb => ?_)) (fun _ _ _ h => h) (fun _ h => h)
      subst eb
      exact e (hI.ok.inj _ _ _ _ _ hs' hs)
  · rw [lk_ins] at hi
    split at hi
    · cases hi
    · exact hI.ok.dom i hi
  · refine ⟨hos.1.trans hI.frm.os, hos.2.1.trans hI.frm.tape, hos.2.2.trans hI.frm.output, by rw [hsz]; exact hI.frm.size, fun b' hb' h0 hx' => ?_⟩
    rw [hot b' ?_]
    · exact hI.frm.block b' hb' h0 hx'
    · intro e
      subst e
      rcases hI.own id b' c hs with ⟨id0, c0, h⟩ | h
      · exact h0 id0 c0 h
      · omega

theorem RelL.put {I : Nat → Prop} {f1 f2 : Bool} {cs ds : List V} {us vs : List Value} (h : RelL I w (bFlat φ f1) cs us) (k : RelL I w (bFlat φ f2) ds vs) (off : Nat) : RelL I w (bFlat φ (f1 && f2)) (Ab.putAt cs off ds) (putAtU us off vs) := by
  have up : ∀ {f : Bool} {cs : List V} {us : List Value}, RelL I w (bFlat φ f) cs us → RelL I w φ cs us := fun {f cs us} h => by
    refine h.mono (fun _ h => ⟨h, rfl⟩) (fun id b c hs => ?_) (fun id hs => ?_)
    · cases f
      · exact hs
      · cases hs
    · cases f
      · exact hs
      · cases hs
  cases f1 with
  | false => exact RelL.putAt (up h) (up k) off
  | true =>
    cases f2 with
    | false => exact RelL.putAt (up h) (up k) off
    | true => exact RelL.putAt h k off

theorem evStore_ok (hT : TCok C.P C.tc) (hI : Inv C G s φ a w) {t : TypeId} {H' : List (Nat × Blk)} (h : evStore C.tc s.H sym t x y = some (o, H')) (ho : AllP o)
    (hx : Rel (Imm φ G.X w) w φ x ux) (hy : Rel (Imm φ G.X w) w φ y uy) : ∃ w', (Instr.storeAt t ux uy).run C.P w = .ok () w' ∧ Inv C G ⟨s.tm, H'⟩ φ a w' := by
  unfold evStore at h
  split at h
  case h_2 => cases h
  rename_i id off ds ti hds hti
  have ht := hT.get hti
  split at h
  case h_2 => cases h
  rename_i blk o1 hb hk1
  cases hx with
  | ptr hs =>
  rename_i b c
  obtain ⟨us, el, hh, hr, hkk⟩ := slot_blk hI.hr hb hs
  have hd := hy.cellsB hds
  have hdl : uy.cells.size = ds.length := by have := hd.1; simpa using this
  have hcl := hr.1
  simp only [List.length_take, Array.length_toList] at hcl
  -- the run, where there is room
  have hrun : ds.length = ti.size → off + ti.size ≤ blk.cells.length → (Instr.storeAt t (.pointer (some ⟨b, off, none⟩)) uy).run C.P w = .ok () (w.setCells b off uy.cells.toList) := fun h1 h2 => by
    have hcell : ∀ j, j < uy.cells.toList.length → (w.cell? ⟨b, off + 0 + j, none⟩).isSome = true ∧ w.frozen? ⟨b, off + 0 + j, none⟩ = false := fun j hj => by
      have hj' : off + j < us.size := by simp at hj; omega
      refine ⟨?_, ?_⟩
      · simp [World.cell?, hh, hj']
      · simp [World.frozen?, hh]
    have := run_storeCells_cells (P := C.P) b off uy.cells.toList 0 w (fun j hj => (hcell j hj).1) (fun j hj => (hcell j hj).2) hd.2.2
    simp only [Instr.storeAt, Instr.sureAddr, Sem.run_bind, Sem.run_pure, Result.andThen_ok, storeVar, ht.sizeOf w]
    rw [if_neg (by omega)]
    simpa using this
  have hsetH : ∀ w1 : World, w1.heap[b]? = w.heap[b]? → True := fun _ _ => trivial
  -- the block behind it
  have hnew : ds.length = ti.size → off + ti.size ≤ blk.cells.length → ∃ us' : Array Value, (w.setCells b off uy.cells.toList).heap[b]? = some (.cells us' el) ∧ us'.size = us.size ∧ us'.toList = putAtU us.toList off uy.cells.toList := fun h1 h2 => by
    have h3 := setCells_heap b el off uy.cells.toList 0 w us hh
    have h4 := fold_put off uy.cells.toList 0 us (by simp; omega)
    refine ⟨_, h3, ?_, by simpa [putAtU] using h4⟩
    have := congrArg List.length h4
    simp only [Nat.add_zero, List.length_append, List.length_take, List.length_drop, Array.length_toList] at this
    omega
  have im : ∀ b', Imm φ G.X w b' → Imm φ G.X (w.setCells b off uy.cells.toList) b' ∧ (w.setCells b off uy.cells.toList).heap[b']? = w.heap[b']? := fun b' h =>
    ⟨⟨by rw [setCells_size]; exact h.1, h.2⟩, setCells_other b (fun e => h.2.1 id c (by rw [e]; exact hs)) _ _ _⟩
  split at h
  · rename_i hw
    simp only [Option.map_eq_some_iff, Prod.mk.injEq] at h
    obtain ⟨o2, hk2, rfl, rfl⟩ := h
    obtain ⟨p1, p2⟩ := AllP.append.1 ho
    have hn := chk_ok hk1 (fun e => Nat.eq_of_beq_eq_true e) p1
    have h0 := chk_ok hk2 (by simp) p2
    subst h0
    simp only [Bool.and_eq_true, beq_iff_eq] at hw
    obtain ⟨hbn, hsz⟩ := hw
    cases hbl : blk.bld with
    | some q => simp [hbl] at hbn
    | none =>
      simp only [hbl] at hkk
      obtain ⟨k1, k2, k3⟩ := hkk
      obtain ⟨us', q1, q2, q3⟩ := hnew hn (by omega)
      refine ⟨_, hrun hn (by omega), hI.write hs (by rw [(lkC_lk hb).1]; simp) (setCells_os _ _ _ _) (setCells_size _ _ _ _) (fun b' hne => setCells_other b hne _ _ _) (CRel.blk ⟨us', el, q1, ?_, ?_⟩ (by first | exact (lkC_lk hb).2 | rfl))⟩
      · have e : us'.toList.take ds.length = uy.cells.toList := by
          rw [q3]
          unfold putAtU
          simp only [List.take_zero, List.nil_append]
          have : ds.length = uy.cells.toList.length := by simp; omega
          rw [this, List.take_left]
        show RelL _ _ _ ds (us'.toList.take ds.length)
        rw [e]
        refine hd.mono im ?_ ?_
        · cases flat y
          · exact fun _ _ _ h => h
          · exact fun _ _ _ h => h
        · cases flat y
          · exact fun _ h => h
          · exact fun _ h => h
      · simp only [hbl]
        exact ⟨by omega, by omega, k3⟩
  · simp only [Option.map_eq_some_iff, Prod.mk.injEq] at h
    obtain ⟨o2, hk2, rfl, rfl⟩ := h
    obtain ⟨p1, p2⟩ := AllP.append.1 ho
    have hn := chk_ok hk1 (fun e => Nat.eq_of_beq_eq_true e) p1
    have h0 := chk_ok hk2 (by simp) p2
    obtain ⟨us', q1, q2, q3⟩ := hnew hn h0
    have hcells := putC_eq (one := ti.size == 1) (cs := blk.cells) (off := off) (ds := ds) (by omega)
    have hpl : (putAt blk.cells off ds).length = blk.cells.length := by simp [putAt]; omega
    refine ⟨_, hrun hn h0, ?_⟩
    rw [hcells]
    refine hI.write hs (by rw [(lkC_lk hb).1]; simp) (setCells_os _ _ _ _) (setCells_size _ _ _ _) (fun b' hne => setCells_other b hne _ _ _) (CRel.blk ⟨us', el, q1, ?_, ?_⟩ (lkC_lk hb).2)
    · have e : us'.toList.take (putAt blk.cells off ds).length = putAtU (us.toList.take blk.cells.length) off uy.cells.toList := by
        rw [q3, hpl]
        unfold putAtU
        have l1 : off ≤ blk.cells.length := by omega
        have hvl : uy.cells.toList.length = ds.length := by simpa using hdl
        apply List.ext_getElem?
        intro i
        simp only [List.getElem?_take, List.getElem?_append, List.length_take, List.getElem?_drop, Array.length_toList, hvl]
        have l2 : min off us.size = off := by omega
        have l3 : min off (min blk.cells.length us.size) = off := by omega
        simp only [l2, l3]
        by_cases hi : i < blk.cells.length
        · simp only [hi, if_true]
          by_cases h5 : i < off
          · simp [h5]
          · simp only [h5, if_false]
            by_cases h6 : i - off < ds.length
            · simp [h6]
            · simp only [h6, if_false]
              have : off + ds.length + (i - off - ds.length) < blk.cells.length := by omega
              simp [this]
        · simp only [hi, if_false]
          have h5 : ¬ i < off := by omega
          have h6 : ¬ i - off < ds.length := by omega
          have : ¬ off + ds.length + (i - off - ds.length) < blk.cells.length := by omega
          simp [h5, h6, this]
      show RelL _ _ _ (putAt blk.cells off ds) (us'.toList.take (putAt blk.cells off ds).length)
      rw [e]
      refine (RelL.put hr hd off).mono im ?_ ?_
      · cases blk.flat && flat y
        · exact fun _ _ _ h => h
        · exact fun _ _ _ h => h
      · cases blk.flat && flat y
        · exact fun _ h => h
        · exact fun _ h => h
    · show (match blk.bld with | none => _ | some (e, sz) => _)
      cases hbl : blk.bld with
      | none =>
        simp only [hbl] at hkk
        show us'.size = _ ∧ _ ∧ _
        simp only [hpl]
        exact ⟨by omega, hkk.2.1, hkk.2.2⟩
      | some q =>
        simp only [hbl] at hkk
        obtain ⟨r1, cap, n, r2, r3, r4, r5, r6⟩ := hkk
        exact ⟨r1, cap, n, r2, by rw [← r3]; exact hpl, r4, r5, by rw [q2]; exact r6⟩
/-- The same blocks. -/
theorem Inv.congr (hI : Inv C G s φ a w) {H1 : List (Nat × Blk)} (h : ∀ i, lk H1 i = lk s.H i) : Inv C G ⟨s.tm, H1⟩ φ a w :=
  ⟨hI.size, hI.defers, hI.tm, fun i blk hl => hI.hr i blk (by rw [← h i]; exact hl), ⟨hI.ok.inj, hI.ok.lt, hI.ok.free, fun i hi => hI.ok.dom i (by rw [← h i]; exact hi)⟩, hI.x, hI.frm, hI.own, fun i hb h0 => (hI.fix i hb h0).imp (fun h => h) (fun e => (h i).trans e)⟩
/-- A store, and what the block holds behind it in another word. -/
def evStoreA (tc : List (Nat × TI)) (H : List (Nat × Blk)) (sym : Option V) (t : TypeId) (x y : V) : Option (List Prop × List (Nat × Blk)) :=
  match sym, x with
  | some (.agg _ cs'), .ptr id off => match evStore tc H true t (.ptr id off) y with
    | some (o, H') => match lk H' id with
      | some blk => some (o ++ [blk.cells = cs'], ins id { blk with cells := cs' } H')
      | none => none
    | none => none
  | sym, x => evStore tc H sym.isSome t x y
theorem evStoreA_ok (hT : TCok C.P C.tc) (hI : Inv C G s φ a w) {t : TypeId} {sym : Option V} {H' : List (Nat × Blk)} (h : evStoreA C.tc s.H sym t x y = some (o, H')) (ho : AllP o)
    (hx : Rel (Imm φ G.X w) w φ x ux) (hy : Rel (Imm φ G.X w) w φ y uy) : ∃ w', (Instr.storeAt t ux uy).run C.P w = .ok () w' ∧ Inv C G ⟨s.tm, H'⟩ φ a w' := by
  unfold evStoreA at h
  split at h
  · split at h
    · rename_i o1 H1 h1
      split at h
      · rename_i blk hb
        cases h
        obtain ⟨p1, p2⟩ := AllP.append.1 ho
        obtain ⟨w', q1, q2⟩ := evStore_ok hT hI h1 p1 hx hy
        refine ⟨w', q1, q2.congr (fun i => ?_)⟩
        have e : blk.cells = _ := p2.1
        rw [← e, lk_ins]
        split
        · rename_i e1
          subst e1
          exact hb.symm
        · rfl
      · cases h
    · cases h
  · exact evStore_ok hT hI h ho hx hy
theorem evStore_inv {t : TypeId} {sb : Bool} {H H' : List (Nat × Blk)} (h : evStore tc H sb t x y = some (o, H')) : ∃ id off, x = .ptr id off ∧ ∀ j, j ≠ id → lk H' j = lk H j := by
  unfold evStore at h
  split at h
  case h_2 => cases h
  rename_i id off ds ti hds hti
  refine ⟨id, off, rfl, fun j hj => ?_⟩
  split at h
  case h_2 => cases h
  split at h
  · simp only [Option.map_eq_some_iff, Prod.mk.injEq] at h
    obtain ⟨_, _, _, rfl⟩ := h
    rw [lk_ins, if_neg hj]
  · simp only [Option.map_eq_some_iff, Prod.mk.injEq] at h
    obtain ⟨_, _, _, rfl⟩ := h
    rw [lk_ins, if_neg hj]
theorem evStoreA_inv {t : TypeId} {sym : Option V} {H H' : List (Nat × Blk)} (h : evStoreA tc H sym t x y = some (o, H')) : ∃ id off, x = .ptr id off ∧ ∀ j, j ≠ id → lk H' j = lk H j := by
  unfold evStoreA at h
  split at h
  · rename_i cs' id off
    split at h
    · rename_i o1 H1 h1
      split at h
      · cases h
        obtain ⟨id', off', e, h2⟩ := evStore_inv h1
        cases e
        refine ⟨id, off, rfl, fun j hj => ?_⟩
        rw [lk_ins, if_neg hj]
        exact h2 j hj
      · cases h
    · cases h
  · exact evStore_inv h
end
end Go.Ab

set_option linter.unusedSimpArgs false
set_option linter.unusedVariables false
namespace Go.Ab
open Go.RowKit

mutual
/-- Does it lead to own blocks of these numbers alone? -/
def inIds (ok : Nat → Bool) : V → Bool
  | .ptr id _ => ok id
  | .sl id _ _ => ok id
  | .agg false cs => inIdsL ok cs
  | .tup cs => inIdsL ok cs
  | .clo _ a b => inIdsL ok a && inIdsL ok b
  | .mp id => ok id
  | _ => true
  termination_by structural x => x
def inIdsL (ok : Nat → Bool) : List V → Bool
  | [] => true
  | x :: r => inIds ok x && inIdsL ok r
  termination_by structural x => x
end
theorem inIdsL_get {ok : Nat → Bool} : ∀ {l : List V}, inIdsL ok l = true → ∀ i (h : i < l.length), inIds ok l[i] = true
  | [], _, i, h => by simp at h
  | x :: r, hl, i, h => by
    simp only [inIdsL, Bool.and_eq_true] at hl
    cases i with
    | zero => exact hl.1
    | succ i => exact inIdsL_get hl.2 i (by simpa using h)
section
variable {I I' : Nat → Prop} {w w' : World} {φ φ' : Phi} {x : V} {u : Value}
theorem Rel.only {ok : Nat → Bool} (h : Rel I w φ x u) : inIds ok x = true → ∀ φ2 : Phi, (∀ id, ok id = true → φ id ≠ .none → φ2 id = φ id) → Rel I w φ2 x u := by
  induction h with
  | val h => exact fun _ _ _ => .val h
  | ptr h =>
    intro hi φ2 hk
    exact .ptr (by rw [hk _ (by simpa [inIds] using hi) (by rw [h]; simp)]; exact h)
  | sl h a b c =>
    intro hi φ2 hk
    exact .sl (by rw [hk _ (by simpa [inIds] using hi) (by rw [h]; simp)]; exact h) a b c
  | slnil h =>
    intro hi φ2 hk
    exact .slnil (by rw [hk _ (by simpa [inIds] using hi) (by rw [h]; simp)]; exact h)
  | vs a b c d e f g => exact fun _ _ _ => .vs a b c d e f g
  | vp a b c d => exact fun _ _ _ => .vp a b c d
  | @agg φ fl cs us hl hr h1 ih =>
    intro hi φ2 hk
    cases fl with
    | true => exact .agg hl (by simpa using hr) h1
    | false =>
      simp only [inIds] at hi
      exact .agg hl (fun i h => by simpa using ih i h (inIdsL_get hi i h) φ2 (by simpa using hk)) h1
  | @tup φ cs us hl hr ih =>
    intro hi φ2 hk
    simp only [inIds] at hi
    exact .tup hl (fun i h => ih i h (inIdsL_get hi i h) φ2 hk)
  | @clo φ fn fs cap us vs hl hr hl2 hr2 ih ih2 =>
    intro hi φ2 hk
    simp only [inIds, Bool.and_eq_true] at hi
    exact .clo hl (fun i h => ih i h (inIdsL_get hi.1 i h) φ2 hk) hl2 (fun i h => ih2 i h (inIdsL_get hi.2 i h) φ2 hk)
  | mp h =>
    intro hi φ2 hk
    exact .mp (by rw [hk _ (by simpa [inIds] using hi) (by rw [h]; simp)]; exact h)
  | bo => exact fun _ _ _ => .bo
  | top => exact fun _ _ _ => .top
end
def blkIn (ok : Nat → Bool) (b : Blk) : Bool := b.flat || inIdsL ok b.cells
def tIn (ok : Nat → Bool) : T → Bool
  | .plain x => inIds ok x
  | .gd _ _ x => inIds ok x
def tmIn (ok : Nat → Bool) : List (Nat × T) → Bool
  | [] => true
  | (_, x) :: r => tIn ok x && tmIn ok r
def HIn (ok : Nat → Bool) : List (Nat × Blk) → Bool
  | [] => true
  | (_, b) :: r => blkIn ok b && HIn ok r
theorem tmIn_get {ok : Nat → Bool} : ∀ {tm : List (Nat × T)} {t : Nat} {x : T}, tmIn ok tm = true → lk tm t = some x → tIn ok x = true
  | [], _, _, _, h => by cases h
  | (k, y) :: r, t, x, hi, h => by
    simp only [tmIn, Bool.and_eq_true] at hi
    simp only [lk] at h
    split at h
    · cases h; exact hi.1
    · exact tmIn_get hi.2 h
theorem HIn_get {ok : Nat → Bool} : ∀ {H : List (Nat × Blk)} {t : Nat} {x : Blk}, HIn ok H = true → lk H t = some x → blkIn ok x = true
  | [], _, _, _, h => by cases h
  | (k, y) :: r, t, x, hi, h => by
    simp only [HIn, Bool.and_eq_true] at hi
    simp only [lk] at h
    split at h
    · cases h; exact hi.1
    · exact HIn_get hi.2 h
/-- The blocks of these numbers alone. -/
def onlyH (ok : Nat → Bool) : List (Nat × Blk) → List (Nat × Blk)
  | [] => []
  | (id, b) :: r => if ok id then (id, b) :: onlyH ok r else onlyH ok r
theorem lk_onlyH {ok : Nat → Bool} : ∀ {H : List (Nat × Blk)} (id : Nat), lk (onlyH ok H) id = if ok id then lk H id else none
  | [], id => by simp [onlyH, lk]
  | (k, b) :: r, id => by
    simp only [onlyH]
    split
    · rename_i hk
      simp only [lk]
      by_cases e : id = k
      · subst e; simp [hk]
      · have e' : (id == k) = false := by simpa using e
        simp only [e', Bool.false_eq_true, if_false]
        exact lk_onlyH id
    · rename_i hk
      rw [lk_onlyH id]
      simp only [lk]
      by_cases e : id = k
      · subst e; simp [hk]
      · have e' : (id == k) = false := by simpa using e
        simp [e']
def Phi.only (φ : Phi) (ok : Nat → Bool) : Phi := fun id => if ok id then φ id else .none
theorem only_imm {φ : Phi} {ok : Nat → Bool} {X : Nat → Prop} {w : World} {b : Nat} (h : Imm φ X w b) : Imm (φ.only ok) X w b :=
  ⟨h.1, ⟨(fun id c hs => by
    unfold Phi.only at hs
    split at hs
    · exact h.2.1 id c hs
    · cases hs), h.2.2⟩⟩
theorem Rel.onlyOk {φ : Phi} {ok : Nat → Bool} {X : Nat → Prop} {w : World} {x : V} {u : Value} (h : Rel (Imm φ X w) w φ x u) (hi : inIds ok x = true) : Rel (Imm (φ.only ok) X w) w (φ.only ok) x u :=
  (h.only hi (φ.only ok) (fun id h _ => by simp [Phi.only, h])).mono (fun _ hb => ⟨only_imm hb, rfl⟩) _ (fun _ _ _ h => h) (fun _ h => h)
theorem BlkRel.onlyOk {φ : Phi} {ok : Nat → Bool} {X : Nat → Prop} {w : World} {s : Slot} {b : Blk} (h : BlkRel (Imm φ X w) w φ s b) (hi : blkIn ok b = true) : BlkRel (Imm (φ.only ok) X w) w (φ.only ok) s b := by
  refine h.to (fun _ _ _ => rfl) (fun x hx u hu => ?_)
  cases hf : b.flat with
  | true =>
    rw [hf] at hu
    exact hu.mono (fun _ hb => ⟨only_imm hb, rfl⟩) _ (fun _ _ _ h => h) (fun _ h => h)
  | false =>
    rw [hf] at hu
    simp only [blkIn, hf, Bool.false_or] at hi
    obtain ⟨i, hl, rfl⟩ := List.getElem_of_mem hx
    exact Rel.onlyOk hu (inIdsL_get hi i hl)

end Go.Ab

set_option linter.unusedSimpArgs false
set_option linter.unusedVariables false
namespace Go.Ab
open Go.RowKit

def neId (id j : Nat) : Bool := !(Nat.beq j id)
theorem neId_self {id : Nat} : neId id id = false := by simp [neId]
theorem neId_ne {id j : Nat} (h : neId id j = true) : j ≠ id := fun e => by
  subst e
  rw [neId_self] at h
  cases h
/-- What leads to a block that moves is let go. -/
def killT (id : Nat) : List (Nat × T) → List (Nat × T)
  | [] => []
  | (t, x) :: r => (t, match tIn (neId id) x with | true => x | false => .plain .top) :: killT id r
theorem lk_killT {id t : Nat} {x : T} : ∀ {tm : List (Nat × T)}, lk (killT id tm) t = some x → x = .plain .top ∨ (lk tm t = some x ∧ tIn (neId id) x = true)
  | [], h => by cases h
  | (k, y) :: r, h => by
    simp only [killT, lk] at h ⊢
    split at h
    · rename_i e
      rw [if_pos e]
      split at h
      · rename_i hy
        cases h
        exact .inr ⟨rfl, hy⟩
      · cases h
        exact .inl rfl
    · rename_i e
      rw [if_neg e]
      exact lk_killT h
/-- Do the others not lead to it? -/
def restIn (id : Nat) : List (Nat × Blk) → Bool
  | [] => true
  | (j, b) :: r => (Nat.beq j id || blkIn (neId id) b) && restIn id r
theorem restIn_get {id j : Nat} {b : Blk} : ∀ {H : List (Nat × Blk)}, restIn id H = true → lk H j = some b → j ≠ id → blkIn (neId id) b = true
  | [], _, h, _ => by cases h
  | (k, y) :: r, hi, h, hne => by
    simp only [restIn, Bool.and_eq_true, Bool.or_eq_true] at hi
    simp only [lk] at h
    split at h
    · rename_i e
      simp at e
      subst e
      cases h
      rcases hi.1 with h1 | h1
      · exact absurd (Nat.eq_of_beq_eq_true h1) hne
      · exact h1
    · exact restIn_get hi.2 h hne

theorem BlkRel.weak {I : Nat → Prop} {w : World} {φ : Phi} {s : Slot} {blk : Blk} (fl : Bool) (h : BlkRel I w φ s blk) : BlkRel I w φ s { blk with flat := blk.flat && fl } := by
  have := h.imp (I' := I) (w' := w) (φ' := φ) (fun x => x) (blk.flat && fl) (fun _ _ _ => rfl) (fun x _ u hu => by
    cases hf : blk.flat with
    | false => rw [hf] at hu; simpa using hu
    | true =>
      rw [hf] at hu
      cases fl with
      | true => exact hu
      | false => exact hu.of_emp)
  simpa only [List.map_id'] using this
section
variable {C : Cx} {G : Gl} {P : Program} {φ φ' : Phi} {a : Act} {w w' : World} {s s' : St} {tc : List (Nat × TI)} {H : List (Nat × Blk)} {sym : Option V} {o : List Prop} {x y v : V} {u ux uy : Value}

theorem bld_fix {I : Nat → Prop} (hH : HR I w φ H) {id : Nat} {blk : Blk} (hb : lkC H id = some blk) {q : Nat × Nat} (hq : blk.bld = some q) (hid : id < BIG2) : ¬ stayS id (φ id) := fun h => by
  cases hs : φ id with
  | none => rw [hs] at h; exact h
  | nil => rw [hs] at h; exact absurd h (by unfold stayS; omega)
  | «at» b c =>
    rw [hs] at h
    rcases h with rfl | h
    · obtain ⟨us, el, _, _, k⟩ := slot_blk hH hb hs
      rw [hq] at k
      obtain ⟨_, cap, n, k2, _⟩ := k
      cases k2
    · omega
/-- One own block is written, or laid anew elsewhere. -/
theorem Inv.regrow (hI : Inv C G s φ a w) {id : Nat} (hid : lk s.H id ≠ none) {sl : Slot} {row : Option Nat} (hrow : ∀ b, row = some b → ∃ c, φ id = .at b c)
    (hos : w'.os = w.os ∧ w'.tape = w.tape ∧ w'.output = w.output) (hsz : w.heap.size ≤ w'.heap.size) (hot : ∀ b', b' < w.heap.size → some b' ≠ row → w'.heap[b']? = w.heap[b']?)
    (hsl : ∀ b c, sl = .at b c → ((∃ c0, φ id = .at b c0) ∨ w.heap.size ≤ b) ∧ b < w'.heap.size) (hrest : restIn id s.H = true) (hfx : ¬ stayS id (φ id)) {blk' : Blk}
    (hb : BlkRel (Imm (φ.upd id sl) G.X w') w' (φ.upd id sl) sl blk') : Inv C G ⟨killT id s.tm, ins id blk' s.H⟩ (φ.upd id sl) a w' ∧ (∀ b', Imm φ G.X w b' → Imm (φ.upd id sl) G.X w' b' ∧ w'.heap[b']? = w.heap[b']?) := by
  have hXw : ∀ b, G.X b → b < w.heap.size := hI.x.lt
  have im : ∀ b', Imm φ G.X w b' → Imm (φ.upd id sl) G.X w' b' ∧ w'.heap[b']? = w.heap[b']? := fun b' h => by
    refine ⟨⟨Nat.lt_of_lt_of_le h.1 hsz, fun i c hs => ?_, h.2.2⟩, hot b' h.1 (fun e => ?_)⟩
    · unfold Phi.upd at hs
      split at hs
      · rcases (hsl b' c hs).1 with ⟨c0, h1⟩ | h1
        · exact h.2.1 _ _ h1
        · have := h.1
          omega
      · exact h.2.1 _ _ hs
    · obtain ⟨c, hc⟩ := hrow b' e.symm
      exact h.2.1 _ _ hc
  have hupd : ∀ j, neId id j = true → φ j ≠ .none → (φ.upd id sl) j = φ j := fun j hj _ => by simp [Phi.upd, neId_ne hj]
  have move : ∀ {z : V} {uz : Value}, Rel (Imm φ G.X w) w φ z uz → inIds (neId id) z = true → Rel (Imm (φ.upd id sl) G.X w') w' (φ.upd id sl) z uz := fun h hi =>
    (h.only hi _ hupd).mono im _ (fun _ _ _ h => h) (fun _ h => h)
  refine ⟨⟨hI.size, hI.defers, fun t x hx => ?_, fun i blk hl => ?_, ⟨fun i j b c c' hi hj => ?_, fun i b c hi => ?_, fun i b c hi => ?_, fun i hi => ?_⟩, hI.x.to hsz (fun b' hb' => hot b' (hXw b' hb') (fun e => by obtain ⟨c, hc⟩ := hrow b' e.symm; exact hI.ok.free _ _ _ hc hb')), ?_, fun i b c hs => ?_, fun i hbg h0 => ?_⟩, im⟩
  rotate_right
  · show _ ∨ lk (ins id blk' s.H) i = none
    rw [lk_ins]
    by_cases e : i = id
    · subst e
      rcases hI.fix i hbg h0 with h | h
      · rw [← h] at h0
        exact absurd h0 hfx
      · exact absurd h hid
    · rw [if_neg e]
      simp only [Phi.upd, e, if_false]
      exact hI.fix i hbg h0
  · rcases lk_killT hx with rfl | ⟨h1, h2⟩
    · exact Rel.top
    · have := hI.tm t x h1
      cases x with
      | plain y => exact move this h2
      | gd d want y => exact ⟨fun e => move (this.1 e) h2, this.2⟩
  · rw [lk_ins] at hl
    split at hl
    · rename_i e
      subst e
      cases hl
      rw [upd_same]
      exact hb
    · rename_i e
      have h1 := restIn_get hrest hl e
      have h2 := hI.hr i blk hl
      have e2 : (φ.upd id sl) i = φ i := by simp [Phi.upd, e]
      rw [e2]
      refine h2.to (fun b c hs => ?_) (fun x hx u hu => ?_)
      · have hblt := hI.ok.lt _ _ _ hs
        refine hot b hblt (fun eb => ?_)
        obtain ⟨c', hc'⟩ := hrow b eb.symm
        exact e (hI.ok.inj _ _ _ _ _ hs hc')
      · cases hf : blk.flat with
        | true =>
          rw [hf] at hu
          exact hu.mono im _ (fun _ _ _ h => h) (fun _ h => h)
        | false =>
          rw [hf] at hu
          simp only [blkIn, hf, Bool.false_or] at h1
          obtain ⟨i, hl, rfl⟩ := List.getElem_of_mem hx
          exact move hu (inIdsL_get h1 i hl)
  · unfold Phi.upd at hi hj
    split at hi <;> split at hj
    · omega
    · rename_i e1 e2
      rcases (hsl b c hi).1 with ⟨c0, h1⟩ | h1
      · have := hI.ok.inj _ _ _ _ _ h1 hj
        omega
      · have := hI.ok.lt _ _ _ hj
        omega
    · rename_i e1 e2
      rcases (hsl b c' hj).1 with ⟨c0, h1⟩ | h1
      · have := hI.ok.inj _ _ _ _ _ h1 hi
        omega
      · have := hI.ok.lt _ _ _ hi
        omega
    · exact hI.ok.inj _ _ _ _ _ hi hj
  · unfold Phi.upd at hi
    split at hi
    · exact (hsl b c hi).2
    · exact Nat.lt_of_lt_of_le (hI.ok.lt _ _ _ hi) hsz
  · unfold Phi.upd at hi
    split at hi
    · rcases (hsl b c hi).1 with ⟨c0, h1⟩ | h1
      · exact hI.ok.free _ _ _ h1
      · intro hX
        have := hXw b hX
        omega
    · exact hI.ok.free _ _ _ hi
  · rw [lk_ins] at hi
    split at hi
    · cases hi
    · rename_i e
      simp only [Phi.upd, e, if_false]
      exact hI.ok.dom i hi
  · refine ⟨hos.1.trans hI.frm.os, hos.2.1.trans hI.frm.tape, hos.2.2.trans hI.frm.output, Nat.le_trans hI.frm.size hsz, fun b' hb' h0 hx' => ?_⟩
    rw [hot b' (Nat.lt_of_lt_of_le hb' hI.frm.size) ?_]
    · exact hI.frm.block b' hb' h0 hx'
    · intro e
      obtain ⟨c, hc⟩ := hrow b' e.symm
      rcases hI.own id b' c hc with ⟨id0, c0, h⟩ | h
      · exact h0 id0 c0 h
      · omega
  · unfold Phi.upd at hs
    split at hs
    · rcases (hsl b c hs).1 with ⟨c0, h1⟩ | h1
      · exact hI.own _ _ _ h1
      · exact .inr (Nat.le_trans hI.frm.size h1)
    · exact hI.own _ _ _ hs

/-! ### append -/
/-- What is appended: owed, whether it leads to no own block, the cells, how many elements. -/
def evNews (H : List (Nat × Blk)) (full : Bool) (sz : Nat) (y : V) : Option (List Prop × Bool × List V × Nat) :=
  match y with
  | .sl id off m => match lkC H id with
    | some blk => match full with
      | true => match Nat.beq off 0 && Nat.beq (m * sz) blk.cells.length with
        | true => some ([], blk.flat, blk.cells, m)
        | false => match Nat.ble (off + m * sz) blk.cells.length with
          | true => some ([], blk.flat, (blk.cells.drop off).take (m * sz), m)
          | false => none
      | false => some ([off + m * sz ≤ blk.cells.length], blk.flat, (blk.cells.drop off).take (m * sz), m)
    | none => none
  | .vs cs m => match full with
    | true => match Nat.beq (m * sz) cs.length with
      | true => some ([], true, cs, m)
      | false => none
    | false => some ([m * sz ≤ cs.length], true, cs.take (m * sz), m)
  | .val (.slice none 0 0) => some ([], true, [], 0)
  | _ => none
theorem evNews_ok (hH : HR (Imm φ G.X w) w φ H) {full : Bool} {sz : Nat} {fl : Bool} {ds : List V} {m : Nat} (h : evNews H full sz y = some (o, fl, ds, m)) (ho : AllP o) (hy : Rel (Imm φ G.X w) w φ y uy) :
    ∃ us A cap, uy = .slice A m cap ∧ RelL (Imm φ G.X w) w (bFlat φ fl) ds us ∧ ds.length = m * sz ∧ (A = none → m = 0 ∧ cap = 0) ∧ ∀ ad, A = some ad → ∀ j u, us[j]? = some u → w.cell? (ad.add j) = some u := by
  unfold evNews at h
  split at h
  · rename_i id off m'
    split at h
    case h_2 => cases h
    rename_i blk hb
    -- the cells, wherever the slice lies
    have key : off + m' * sz ≤ blk.cells.length → ∃ us A cap, uy = .slice A m' cap ∧ RelL (Imm φ G.X w) w (bFlat φ blk.flat) ((blk.cells.drop off).take (m' * sz)) us ∧ (A = none → m' = 0 ∧ cap = 0) ∧ ∀ ad, A = some ad → ∀ j u, us[j]? = some u → w.cell? (ad.add j) = some u := fun hle => by
      cases hy with
      | sl hs h1 h2 h3 =>
        rename_i cap b c
        have hm := (mem_blk (slot_blk hH hb hs)).drop off
        cases hm with
        | mk hr hc hsp =>
          rename_i us
          refine ⟨us.take (m' * sz), _, _, rfl, hr.take _, fun e => (by cases e), fun ad e j u hu => ?_⟩
          cases e
          rw [List.getElem?_take] at hu
          split at hu
          · have := hc j u hu
            simpa [Addr.add_mid] using this
          · cases hu
      | slnil hs =>
        refine ⟨[], none, 0, rfl, ?_, fun _ => ⟨rfl, rfl⟩, fun ad e => (by cases e)⟩
        simp only [Nat.zero_mul, List.take_zero]
        exact RelL.nil
    split at h
    · split at h
      case h_2 =>
        split at h
        case h_2 => cases h
        rename_i hc
        cases h
        have e2 := Nat.le_of_ble_eq_true hc
        obtain ⟨us, A, cap, k1, k2, k3, k4⟩ := key e2
        exact ⟨us, A, cap, k1, k2, by simp; omega, k3, k4⟩
      rename_i hc
      cases h
      simp only [Bool.and_eq_true] at hc
      have e1 : off = 0 := Nat.eq_of_beq_eq_true hc.1
      have e2 := Nat.eq_of_beq_eq_true hc.2
      subst e1
      obtain ⟨us, A, cap, k1, k2, k3, k4⟩ := key (by omega)
      rw [List.drop_zero, List.take_of_length_le (by omega)] at k2
      exact ⟨us, A, cap, k1, k2, e2.symm, k3, k4⟩
    · cases h
      obtain ⟨us, A, cap, k1, k2, k3, k4⟩ := key ho.1
      have := ho.1
      exact ⟨us, A, cap, k1, k2, by simp; omega, k3, k4⟩
  · rename_i cs m'
    have key : m' * sz ≤ cs.length → ∃ us A cap, uy = .slice A m' cap ∧ RelL (Imm φ G.X w) w (bFlat φ true) (cs.take (m' * sz)) us ∧ (A = none → m' = 0 ∧ cap = 0) ∧ ∀ ad, A = some ad → ∀ j u, us[j]? = some u → w.cell? (ad.add j) = some u := fun hle => by
      cases hy with
      | vs hl hr h1 hc hA hlc hcm =>
        rename_i us cap A
        have hrl : RelL (Imm φ G.X w) w Phi.emp cs us := ⟨hl, hr, h1⟩
        refine ⟨us.take (m' * sz), A, cap, rfl, hrl.take _, fun e => ?_, fun ad e j u hu => ?_⟩
        · have := hA e
          omega
        · rw [List.getElem?_take] at hu
          split at hu
          · obtain ⟨b, o, e', _, hcell⟩ := hc j u hu
            rw [e] at e'
            cases e'
            simpa [Addr.add_mid] using hcell
          · cases hu
    split at h
    · split at h
      case h_2 => cases h
      rename_i hc
      cases h
      have e2 := Nat.eq_of_beq_eq_true hc
      obtain ⟨us, A, cap, k1, k2, k3, k4⟩ := key (by omega)
      rw [List.take_of_length_le (by omega)] at k2
      exact ⟨us, A, cap, k1, k2, e2.symm, k3, k4⟩
    · cases h
      obtain ⟨us, A, cap, k1, k2, k3, k4⟩ := key ho.1
      have := ho.1
      exact ⟨us, A, cap, k1, k2, by simp; omega, k3, k4⟩
  · cases h
    obtain rfl := hy.val_inv
    exact ⟨[], none, 0, rfl, RelL.nil, by simp, fun _ => ⟨rfl, rfl⟩, fun ad e => (by cases e)⟩
  · cases h

def evAppend (tc : List (Nat × TI)) (H : List (Nat × Blk)) (sym : Option V) (tx ty : TypeId) (x y : V) : Option (List Prop × Nat × Nat × Blk) :=
  match x, lk tc tx with
  | .sl id off n, some ⟨.slice e, _, _, _, _⟩ => match lkC H id, lk tc e with
    | some blk, some ei => match blk.bld, Nat.beq tx ty && (Nat.beq off 0 && (Nat.blt 0 ei.size && (Nat.beq ei.zero.length ei.size && Nat.blt id BIG2))) with
      | some (e', sz), true => match Nat.beq e' e && Nat.beq sz ei.size with
        | true => match sym with
          | none => match evNews H true sz y with
            | some (o, fl, ds, m) => match Nat.beq (n * sz) blk.cells.length && (Nat.ble (n + m) 9223372036854775807 && Nat.ble ((n + m) * ei.bytes) 140737488355328) with
              | true => some (o, id, n + m, { blk with cells := blk.cells ++ ds, flat := blk.flat && fl })
              | false => none
            | none => none
          | some (.tup [.agg _ cs', .sl _ _ k]) => match evNews H false sz y with
            | some (o, fl, ds, m) => some (o ++ [n * sz = blk.cells.length, n + m ≤ 9223372036854775807, (n + m) * ei.bytes ≤ 140737488355328, blk.cells ++ ds = cs', n + m = k], id, k, { blk with cells := cs', flat := blk.flat && fl })
            | none => none
          | _ => none
        | false => none
      | _, _ => none
    | _, _ => none
  | _, _ => none
theorem RelL.both {f1 f2 : Bool} {cs ds : List V} {us vs : List Value} {I : Nat → Prop} (h : RelL I w (bFlat φ f1) cs us) (k : RelL I w (bFlat φ f2) ds vs) : RelL I w (bFlat φ (f1 && f2)) (cs ++ ds) (us ++ vs) := by
  have up : ∀ {f : Bool} {cs : List V} {us : List Value}, RelL I w (bFlat φ f) cs us → RelL I w φ cs us := fun {f cs us} h => by
    refine h.mono (fun _ h => ⟨h, rfl⟩) (fun id b c hs => ?_) (fun id hs => ?_)
    · cases f
      · exact hs
      · cases hs
    · cases f
      · exact hs
      · cases hs
  cases f1 with
  | false => exact RelL.append (up h) (up k)
  | true =>
    cases f2 with
    | false => exact RelL.append (up h) (up k)
    | true => exact RelL.append h k

theorem evAppend_ok (hT : TCok C.P C.tc) (hI : Inv C G s φ a w) {tx ty t : TypeId} {id m : Nat} {blk' : Blk} (h : evAppend C.tc s.H sym tx ty x y = some (o, id, m, blk')) (ho : AllP o) (hrest : restIn id s.H = true) (hin : blkIn (neId id) blk' = true)
    (hx : Rel (Imm φ G.X w) w φ x ux) (hy : Rel (Imm φ G.X w) w φ y uy) :
    ∃ v' w' φ', (Builtin.append_ #[tx, ty] t #[ux, uy]).run C.P w = .ok v' w' ∧ Inv C G ⟨killT id s.tm, ins id blk' s.H⟩ φ' a w' ∧ Rel (Imm φ' G.X w') w' φ' (.sl id 0 m) v' ∧ ∀ k, φ k = .none → φ' k = .none := by
  unfold evAppend at h
  split at h
  case h_2 => cases h
  rename_i id' off n e _ _ _ _ hti
  have ht := hT.get hti
  split at h
  case h_2 => cases h
  rename_i blk ei hb hei
  have he := hT.get hei
  split at h
  case h_2 => cases h
  rename_i e' sz hbld hc
  simp only [Bool.and_eq_true] at hc
  obtain ⟨c1, c2, c3, c4, c5⟩ := hc
  have c1 := Nat.eq_of_beq_eq_true c1
  have c2 := Nat.eq_of_beq_eq_true c2
  rw [Nat.blt_eq] at c3 c5
  have c4 := Nat.eq_of_beq_eq_true c4
  subst c1 c2
  split at h
  case h_2 => cases h
  rename_i hc2
  simp only [Bool.and_eq_true] at hc2
  obtain ⟨d1, d2⟩ := hc2
  have d1 := (Nat.eq_of_beq_eq_true d1).symm
  have d2 := Nat.eq_of_beq_eq_true d2
  subst d1 d2
  -- what both ways come to
  have hcom : ∃ (full : Bool) (o' : List Prop) (fl : Bool) (ds : List V) (m' : Nat), evNews s.H full ei.size y = some (o', fl, ds, m') ∧ AllP o' ∧ n * ei.size = blk.cells.length ∧ n + m' ≤ 9223372036854775807 ∧ (n + m') * ei.bytes ≤ 140737488355328 ∧
      id = id' ∧ m = n + m' ∧ blk' = { blk with cells := blk.cells ++ ds, flat := blk.flat && fl } := by
    split at h
    · split at h
      case h_2 => cases h
      rename_i o' fl ds m' hn
      split at h
      case h_2 => cases h
      rename_i hcc
      cases h
      simp only [Bool.and_eq_true] at hcc
      obtain ⟨g1, g2, g3⟩ := hcc
      exact ⟨true, _, fl, ds, m', hn, ho, Nat.eq_of_beq_eq_true g1, Nat.le_of_ble_eq_true g2, Nat.le_of_ble_eq_true g3, rfl, rfl, rfl⟩
    · split at h
      case h_2 => cases h
      rename_i cs' o' fl ds m' hn
      cases h
      obtain ⟨p1, p2, p3, p4, p5, p6, _⟩ := AllP.append.1 ho
      exact ⟨false, _, fl, ds, m', hn, p1, p2, p3, p4, rfl, p6.symm, by rw [p5]⟩
    · cases h
  obtain ⟨full, o', fl, ds, m', hn, ho', h1, h2, h3, rfl, rfl, rfl⟩ := hcom
  obtain ⟨vs, A, capy, rfl, hvs, hvl, hA, hcell⟩ := evNews_ok (G := G) hI.hr hn ho' hy
  obtain ⟨i, hi, hi1, hi2, z, hz, hz2, _⟩ := he.info
  have hzs : z.cells.size = ei.size := by
    have := congrArg List.length hz2
    simpa [c4] using this
  have hvslen : vs.length = m' * ei.size := by rw [hvs.1, hvl]
  -- the row as it is
  have hown : ∃ us : List Value, w.ownsRow 0 e ei.size ux n us ∧ RelL (Imm φ G.X w) w (bFlat φ blk.flat) blk.cells us ∧ ((ux = .slice none 0 0 ∧ φ id = .nil) ∨ ∃ b cap, ux = .slice (some ⟨b, 0, none⟩) n cap ∧ φ id = .at b (some cap)) := by
    cases hx with
    | sl hs q1 q2 q3 =>
      rename_i cap b c
      obtain ⟨us, el, hh, hr, hk⟩ := slot_blk hI.hr hb hs
      simp only [hbld] at hk
      obtain ⟨rfl, cap', n', rfl, k2, k3, k4, k5⟩ := hk
      have : cap = cap' := q3 cap' rfl rfl
      subst this
      have hn' : n * ei.size = n' * ei.size := by omega
      refine ⟨us.toList.take blk.cells.length, ⟨by rw [hr.1, h1], .inr ⟨b, cap, us, rfl, Nat.zero_le _, hh, q1, by simpa [maxLen] using k4, k5, by rw [h1]⟩⟩, hr, .inr ⟨b, cap, rfl, hs⟩⟩
    | slnil hs =>
      have hk := hI.hr id blk (lkC_lk hb).1
      rw [hs] at hk
      have hcn : blk.cells = [] := hk.1
      refine ⟨[], ⟨by simp, .inl ⟨rfl, rfl⟩⟩, by rw [hcn]; exact RelL.nil, .inl ⟨rfl, hs⟩⟩
  obtain ⟨us, hown, hus, hwhere⟩ := hown
  have hidn : lk s.H id ≠ none := by rw [(lkC_lk hb).1]; simp
  have hfx := bld_fix hI.hr hb hbld c5
  have hnew : RelL (Imm φ G.X w) w (bFlat φ (blk.flat && fl)) (blk.cells ++ ds) (us ++ vs) := RelL.both hus hvs
  -- there is nothing to append
  cases A with
  | none =>
    obtain ⟨rfl, rfl⟩ := hA rfl
    have hrun := run_append_owned_none (P := C.P) (w := w) 0 tx t e i ei.size ht.desc hi ux n us hown
    have hds : ds = [] := List.eq_nil_of_length_eq_zero (by simpa using hvl)
    subst hds
    have hvs0 : vs = [] := List.eq_nil_of_length_eq_zero (by simpa using hvslen)
    subst hvs0
    have e0 : φ.upd id (φ id) = φ := by
      funext j
      unfold Phi.upd
      split
      · rename_i e; rw [e]
      · rfl
    refine ⟨ux, w, φ.upd id (φ id), hrun, ?_, ?_, fun k hk => by rw [e0]; exact hk⟩
    · refine (hI.regrow (row := none) hidn (fun b e => (by cases e)) ⟨rfl, rfl, rfl⟩ (Nat.le_refl _) (fun _ _ _ => rfl) (fun b c e => ⟨.inl ⟨c, e⟩, hI.ok.lt _ _ _ e⟩) hrest hfx ?_).1
      have e0 : φ.upd id (φ id) = φ := by
        funext j
        unfold Phi.upd
        split
        · rename_i e; rw [e]
        · rfl
      rw [e0]
      have hk := hI.hr id blk (lkC_lk hb).1
      simp only [List.append_nil] at hnew ⊢
      exact hk.weak fl
    · have e0 : φ.upd id (φ id) = φ := by
        funext j
        unfold Phi.upd
        split
        · rename_i e; rw [e]
        · rfl
      rw [e0]
      exact hx
  | some ad =>
    obtain ⟨v', w', hrun, hown', hgr, hnil, hat⟩ := run_append_own_at (P := C.P) w 0 tx t e i z ei.size ei.bytes ht.desc hi hz hi1 hi2 hzs c3 ux n us hown ad m' capy vs hvslen (hcell ad rfl) hvs.2.2 (by simpa [maxLen] using h2) h3 (Nat.zero_le _)
    -- where it lies now
    have hslot : ∃ sl : Slot, (∀ b c, sl = .at b c → ((∃ c0, φ id = .at b c0) ∨ w.heap.size ≤ b) ∧ b < w'.heap.size) ∧ ((sl = .nil ∧ v' = .slice none 0 0 ∧ n + m' = 0 ∧ us ++ vs = []) ∨ ∃ g cap cur, sl = .at g (some cap) ∧ v' = .slice (some ⟨g, 0, none⟩) (n + m') cap ∧ w'.heap[g]? = some (.cells cur e (0, 0)) ∧ n + m' ≤ cap ∧ cap ≤ maxLen ∧ cur.size = cap * ei.size ∧ cur.toList.take ((n + m') * ei.size) = us ++ vs) := by
      rcases hown'.2 with ⟨q1, q2⟩ | ⟨g, cap, cur, q1, _, q3, q4, q5, q6, q7⟩
      · refine ⟨.nil, fun b c e => (by cases e), .inl ⟨rfl, q1, q2, ?_⟩⟩
        have := hown'.1
        rw [q2] at this
        exact List.eq_nil_of_length_eq_zero (by simpa using this)
      · refine ⟨.at g (some cap), fun b c e => ?_, .inr ⟨g, cap, cur, rfl, q1, q3, q4, q5, q6, q7⟩⟩
        cases e
        refine ⟨?_, (Array.getElem?_eq_some_iff.1 q3).1⟩
        rw [q1] at hat
        rcases hat with hat | hat
        · rcases hwhere with ⟨e1, _⟩ | ⟨b, cap0, e1, e2⟩
          · rw [e1] at hat
            simp [Value.ownBlock] at hat
          · rw [e1] at hat
            simp only [Value.ownBlock, Option.some.injEq] at hat
            subst hat
            exact .inl ⟨_, e2⟩
        · simp only [Value.ownBlock, Option.some.injEq] at hat
          exact .inr (by omega)
    obtain ⟨sl, hsl, hcase⟩ := hslot
    have hrow : ∀ b, ux.ownBlock = some b → ∃ c, φ id = .at b c := fun b e => by
      rcases hwhere with ⟨e1, _⟩ | ⟨b0, cap0, e1, e2⟩
      · rw [e1] at e
        simp [Value.ownBlock] at e
      · rw [e1] at e
        simp only [Value.ownBlock, Option.some.injEq] at e
        subst e
        exact ⟨_, e2⟩
    -- what the cells are, then
    have im : ∀ b', Imm φ G.X w b' → Imm (φ.upd id sl) G.X w' b' ∧ w'.heap[b']? = w.heap[b']? := fun b' h => by
      refine ⟨⟨Nat.lt_of_lt_of_le h.1 hgr.size, fun i c hs => ?_, h.2.2⟩, hgr.block b' h.1 (fun e => ?_)⟩
      · unfold Phi.upd at hs
        split at hs
        · rcases (hsl b' c hs).1 with ⟨c0, h1⟩ | h1
          · exact h.2.1 _ _ h1
          · have := h.1
            omega
        · exact h.2.1 _ _ hs
      · obtain ⟨c, hc⟩ := hrow b' e.symm
        exact h.2.1 _ _ hc
    have hcells : RelL (Imm (φ.upd id sl) G.X w') w' (bFlat (φ.upd id sl) (blk.flat && fl)) (blk.cells ++ ds) (us ++ vs) := by
      cases hf : (blk.flat && fl) with
      | true =>
        rw [hf] at hnew
        exact hnew.mono im (fun _ _ _ h => h) (fun _ h => h)
      | false =>
        rw [hf] at hnew
        simp only [blkIn, hf, Bool.false_or] at hin
        exact ⟨hnew.1, fun i hl => ((hnew.2.1 i hl).only (inIdsL_get hin i hl) (φ.upd id sl) (fun j hj _ => by simp [Phi.upd, neId_ne hj, bFlat])).mono im _ (fun _ _ _ h => h) (fun _ h => h), hnew.2.2⟩
    have hlen : (blk.cells ++ ds).length = (n + m') * ei.size := by
      rw [List.length_append, hvl, ← h1, Nat.add_mul]
    refine ⟨v', w', φ.upd id sl, hrun, (hI.regrow (row := ux.ownBlock) hidn hrow ⟨hgr.os, hgr.tape, hgr.output⟩ hgr.size (fun b' h1 h2 => hgr.block b' h1 h2) hsl hrest hfx ?_).1, ?_, fun k hk => ?_⟩
    rotate_right
    · unfold Phi.upd
      split
      · rename_i e
        subst e
        rcases hwhere with ⟨_, e2⟩ | ⟨_, _, _, e2⟩ <;> (rw [e2] at hk; cases hk)
      · exact hk
    · rcases hcase with ⟨rfl, _, _, e4⟩ | ⟨g, cap, cur, rfl, _, q3, q4, q5, q6, q7⟩
      · refine ⟨?_, mv_some hbld c3⟩
        have := hcells.1
        rw [e4] at this
        exact List.eq_nil_of_length_eq_zero (by simpa using this.symm)
      · refine CRel.blk ⟨cur, e, q3, ?_, ?_⟩ (lkC_lk hb).2
        · show RelL _ _ _ (blk.cells ++ ds) (cur.toList.take (blk.cells ++ ds).length)
          rw [hlen, q7]
          exact hcells
        · show (match blk.bld with | none => _ | some (e, sz) => _)
          rw [hbld]
          exact ⟨rfl, cap, n + m', rfl, hlen, q4, by simpa [maxLen] using q5, q6⟩
    · rcases hcase with ⟨rfl, e2, e3, _⟩ | ⟨g, cap, cur, rfl, e2, q3, q4, q5, q6, q7⟩
      · rw [e2, e3]
        exact .slnil (upd_same _ _ _)
      · rw [e2]
        exact .sl (upd_same _ _ _) q4 (by simpa [maxLen] using q5) (fun k hk _ => by cases hk; rfl)

/-! ### copy -/
def evCopy (tc : List (Nat × TI)) (H : List (Nat × Blk)) (sym : Option V) (tx ty : TypeId) (x y : V) : Option (List Prop × List (Nat × Blk) × Int) :=
  match x, lk tc tx with
  | .sl id off n, some ⟨.slice e, _, _, _, _⟩ => match lkC H id, lk tc e with
    | some blk, some ei => match Nat.beq ei.size 1 with
      | true => match sym with
        | none => match y with
          | .sl _ _ m => match evNews H true 1 y with
            | some (o, fl, ds, _) => match Nat.ble (off + min m n) blk.cells.length with
              | true => some (o, ins id { blk with cells := putAt blk.cells off (ds.take (min m n)), flat := blk.flat && fl } H, (min m n : Nat))
              | false => none
            | none => none
          | .vs _ m => match evNews H true 1 y with
            | some (o, fl, ds, _) => match Nat.ble (off + min m n) blk.cells.length with
              | true => some (o, ins id { blk with cells := putAt blk.cells off (ds.take (min m n)), flat := blk.flat && fl } H, (min m n : Nat))
              | false => none
            | none => none
          | _ => none
        | some (.agg _ cs') => match evNews H false 1 y with
          | some (o, fl, ds, m) => some (o ++ [off + min m n ≤ blk.cells.length, putAt blk.cells off (ds.take (min m n)) = cs'], ins id { blk with cells := cs', flat := blk.flat && fl } H, (min m n : Nat))
          | none => none
        | _ => none
      | false => none
    | _, _ => none
  | _, _ => none
theorem evCopy_ok (hT : TCok C.P C.tc) (hI : Inv C G s φ a w) {tx ty t : TypeId} {H' : List (Nat × Blk)} {k : Int} (h : evCopy C.tc s.H sym tx ty x y = some (o, H', k)) (ho : AllP o)
    (hx : Rel (Imm φ G.X w) w φ x ux) (hy : Rel (Imm φ G.X w) w φ y uy) :
    ∃ w', (Builtin.copy_ #[tx, ty] t #[ux, uy]).run C.P w = .ok (goInt k) w' ∧ Inv C G ⟨s.tm, H'⟩ φ a w' := by
  unfold evCopy at h
  split at h
  case h_2 => cases h
  rename_i id off n e _ _ _ _ hti
  have ht := hT.get hti
  split at h
  case h_2 => cases h
  rename_i blk ei hb hei
  have he := hT.get hei
  split at h
  case h_2 => cases h
  rename_i hsz
  have hsz := Nat.eq_of_beq_eq_true hsz
  have hcom : ∃ (full : Bool) (o' : List Prop) (fl : Bool) (ds : List V) (m : Nat), evNews s.H full 1 y = some (o', fl, ds, m) ∧ AllP o' ∧ off + min m n ≤ blk.cells.length ∧
      H' = ins id { blk with cells := putAt blk.cells off (ds.take (min m n)), flat := blk.flat && fl } s.H ∧ k = (min m n : Nat) := by
    have hm : ∀ {full : Bool} {o' : List Prop} {fl : Bool} {ds : List V} {m' m : Nat}, evNews s.H full 1 y = some (o', fl, ds, m') → (∃ i f, y = .sl i f m) ∨ (∃ cs, y = .vs cs m) → m = m' := fun {full o' fl ds m' m} hn hy => by
      unfold evNews at hn
      rcases hy with ⟨i, f, rfl⟩ | ⟨cs, rfl⟩
      · simp only at hn
        split at hn
        · split at hn
          · split at hn
            · cases hn; rfl
            · split at hn
              · cases hn; rfl
              · cases hn
          · cases hn; rfl
        · cases hn
      · simp only at hn
        split at hn
        · split at hn
          · cases hn; rfl
          · cases hn
        · cases hn; rfl
    split at h
    · split at h
      · split at h
        case h_2 => cases h
        rename_i i f m o' fl ds m' hn
        split at h
        case h_2 => cases h
        rename_i hc
        cases h
        have := hm hn (.inl ⟨_, _, rfl⟩)
        subst this
        exact ⟨true, _, fl, ds, _, hn, ho, Nat.le_of_ble_eq_true hc, rfl, rfl⟩
      · split at h
        case h_2 => cases h
        rename_i cs m o' fl ds m' hn
        split at h
        case h_2 => cases h
        rename_i hc
        cases h
        have := hm hn (.inr ⟨_, rfl⟩)
        subst this
        exact ⟨true, _, fl, ds, _, hn, ho, Nat.le_of_ble_eq_true hc, rfl, rfl⟩
      · cases h
    · split at h
      case h_2 => cases h
      rename_i cs' o' fl ds m' hn
      cases h
      obtain ⟨p1, p2, p3, _⟩ := AllP.append.1 ho
      exact ⟨false, _, fl, ds, m', hn, p1, p2, by rw [p3], rfl⟩
    · cases h
  obtain ⟨full, o', fl, ds, m, hn, ho', hle, rfl, rfl⟩ := hcom
  obtain ⟨vs, A, capy, rfl, hvs, hvl, hA, hcell⟩ := evNews_ok (G := G) hI.hr hn ho' hy
  have hvslen : vs.length = m := by rw [hvs.1, hvl, Nat.mul_one]
  have hdl : (ds.take (min m n)).length = min m n := by simp; omega
  have hvs' := hvs.take (min m n)
  have hvl' : (vs.take (min m n)).length = min m n := by simp; omega
  have hidn : lk s.H id ≠ none := by rw [(lkC_lk hb).1]; simp
  have hinfo : (C.P.info? e).map (·.size) = some 1 := by rw [he.info_, hsz]
  have same : ds.take (min m n) = [] → Inv C G ⟨s.tm, ins id { blk with cells := putAt blk.cells off (ds.take (min m n)), flat := blk.flat && fl } s.H⟩ φ a w := fun e0 => by
    have e1 : putAt blk.cells off (ds.take (min m n)) = blk.cells := by
      rw [e0]
      simp [putAt]
    rw [e1]
    have hk := hI.hr id blk (lkC_lk hb).1
    refine ⟨hI.size, hI.defers, hI.tm, fun i bk hl => ?_, ⟨hI.ok.inj, hI.ok.lt, hI.ok.free, fun i hi => ?_⟩, hI.x, hI.frm, hI.own, fun i hb2 h0 => (hI.fix i hb2 h0).imp (fun h => h) (fun e => by show lk (ins id _ s.H) i = none; rw [lk_ins, if_neg (fun e2 => by subst e2; rw [(lkC_lk hb).1] at e; cases e)]; exact e)⟩
    · rw [lk_ins] at hl
      split at hl
      · rename_i e
        subst e
        cases hl
        exact hk.weak fl
      · exact hI.hr i bk hl
    · rw [lk_ins] at hi
      split at hi
      · cases hi
      · exact hI.ok.dom i hi
  by_cases h0 : min m n = 0
  · have hl0 : ds.take (min m n) = [] := by rw [h0]; rfl
    cases hx with
    | sl hs q1 q2 q3 =>
      rename_i cap b c
      refine ⟨w, ?_, same hl0⟩
      have := run_copy_none (P := C.P) w tx ty t e (some ⟨b, off, none⟩) A n cap m capy ht.desc hinfo (by simpa [Nat.min_def] using h0)
      rw [this, h0]
      rfl
    | slnil hs =>
      refine ⟨w, ?_, same (by simp)⟩
      have := run_copy_none (P := C.P) w tx ty t e none A 0 0 m capy ht.desc hinfo (by simp [Nat.min_def])
      rw [this]
      simp
  · cases hx with
    | slnil hs => simp at h0
    | sl hs q1 q2 q3 =>
      rename_i cap b c
      cases A with
      | none => have := (hA rfl).1; simp [this] at h0
      | some ad =>
        obtain ⟨us, el, hh, hr, hkk⟩ := slot_blk hI.hr hb hs
        have hcl := hr.1
        simp only [List.length_take, Array.length_toList] at hcl
        have hrun := run_copy_row (P := C.P) w tx ty t e b off n cap ad m capy us el (vs.take (min m n)) ht.desc hinfo hh (by rw [hvl']) (fun j v hj => by
          rw [List.getElem?_take] at hj
          split at hj
          · exact hcell ad rfl j v hj
          · cases hj) (by rw [hvl']; omega) hvs'.2.2
        rw [hvl'] at hrun
        refine ⟨_, hrun, hI.write hs hidn ⟨rfl, rfl, rfl⟩ (by simp [World.setRow]) (fun b' hne => setRow_other w b b' _ hne) ?_⟩
        have im : ∀ b', Imm φ G.X w b' → Imm φ G.X (w.setRow b (us.toList.take off ++ vs.take (min m n) ++ us.toList.drop (off + min m n)).toArray) b' ∧ (w.setRow b (us.toList.take off ++ vs.take (min m n) ++ us.toList.drop (off + min m n)).toArray).heap[b']? = w.heap[b']? := fun b' h =>
          ⟨⟨by simpa [World.setRow] using h.1, h.2⟩, setRow_other w b b' _ (fun e => h.2.1 id c (e ▸ hs))⟩
        have hpl : (putAt blk.cells off (ds.take (min m n))).length = blk.cells.length := putAt_len (by rw [hdl]; exact hle)
        refine CRel.blk ⟨_, el, setRow_heap w b us _ el _ hh, ?_, ?_⟩ (lkC_lk hb).2
        · have e : (us.toList.take off ++ vs.take (min m n) ++ us.toList.drop (off + min m n)).toArray.toList.take (putAt blk.cells off (ds.take (min m n))).length = putAtU (us.toList.take blk.cells.length) off (vs.take (min m n)) := by
            rw [hpl]
            unfold putAtU
            apply List.ext_getElem?
            intro i
            simp only [List.getElem?_take, List.getElem?_append, List.length_take, List.length_append, List.getElem?_drop, Array.length_toList, hvslen]
            by_cases hi : i < blk.cells.length
            · simp only [hi, if_true]
              have l1 : min off us.size = off := by omega
              have l2 : min off (min blk.cells.length us.size) = off := by omega
              have l3 : min (min m n) m = min m n := by omega
              simp only [l1, l2, l3]
              by_cases h5 : i < off
              · have h5' : i < off + min m n := by omega
                simp [h5, h5']
              · simp only [h5, if_false]
                by_cases h6 : i - off < min m n
                · have h6' : i < off + min m n := by omega
                  simp [h6, h6']
                · have h6' : ¬ i < off + min m n := by omega
                  have e1 : off + min m n + (i - (off + min m n)) = i := by omega
                  have e2 : off + min m n + (i - off - min m n) = i := by omega
                  simp [h6, h6', e1, e2, hi]
            · have l1 : min off us.size = off := by omega
              have l2 : min off (min blk.cells.length us.size) = off := by omega
              have l3 : min (min m n) m = min m n := by omega
              have h5 : ¬ i < off := by omega
              have h6 : ¬ i - off < min m n := by omega
              have : ¬ off + min m n + (i - off - min m n) < blk.cells.length := by omega
              simp [hi, l1, l2, l3, h5, h6, this]
          show RelL _ _ _ (putAt blk.cells off (ds.take (min m n))) _
          rw [e]
          refine (RelL.put hr hvs' off).mono im ?_ ?_
          · cases blk.flat && fl
            · exact fun _ _ _ h => h
            · exact fun _ _ _ h => h
          · cases blk.flat && fl
            · exact fun _ h => h
            · exact fun _ h => h
        · have hsize : (us.toList.take off ++ vs.take (min m n) ++ us.toList.drop (off + min m n)).toArray.size = us.size := by
            simp
            omega
          show (match blk.bld with | none => _ | some (e, sz) => _)
          cases hbl : blk.bld with
          | none =>
            simp only [hbl] at hkk
            show _ ∧ _ ∧ _
            simp only [hpl, hsize]
            exact hkk
          | some q =>
            simp only [hbl] at hkk
            obtain ⟨r1, cap', n', r2, r3, r4, r5, r6⟩ := hkk
            exact ⟨r1, cap', n', r2, by rw [← r3]; exact hpl, r4, r5, by rw [hsize]; exact r6⟩
/-- Bytes of the call's own become bytes that nobody writes: conversion of a slice into its own type. -/
def evMark (tc : List (Nat × TI)) (H : List (Nat × Blk)) (s : TypeId) (id n : Nat) : Option (List Prop × Blk) :=
  match lk tc s, lkC H id with
  | some ⟨.slice e, _, _, _, _⟩, some blk => match lk tc e with
    | some ⟨.int .u8, _, _, _, _⟩ => match blk.bld, blk.flat && (Nat.blt 0 n && Nat.blt id BIG2) with
      | some _, true => some ([], blk)
      | _, _ => none
    | _ => none
  | _, _ => none
theorem freeze_cell (w : World) (b n : Nat) (o : Nat) : (w.freeze ⟨b, n, none⟩ 1).cell? ⟨b, o, none⟩ = w.cell? ⟨b, o, none⟩ := by
  unfold World.freeze World.cell?
  simp only [Nat.one_ne_zero, if_false, Array.getElem?_modify, if_true]
  cases w.heap[b]? with
  | none => rfl
  | some x => cases x <;> rfl
theorem freeze_other (w : World) (b n b' : Nat) (h : b' ≠ b) : (w.freeze ⟨b, n, none⟩ 1).heap[b']? = w.heap[b']? := by
  unfold World.freeze
  simp only [Nat.one_ne_zero, if_false, Array.getElem?_modify, if_neg (Ne.symm h)]
theorem freeze_size (w : World) (b n : Nat) : (w.freeze ⟨b, n, none⟩ 1).heap.size = w.heap.size := by
  unfold World.freeze
  simp
theorem evMark_ok (hT : TCok C.P C.tc) (hI : Inv C G s φ a w) {t : TypeId} {id n : Nat} {blk : Blk} {os : List Prop} (h : evMark C.tc s.H t id n = some (os, blk)) (hrest : restIn id s.H = true) (hx : Rel (Imm φ G.X w) w φ (.sl id 0 n) ux) :
    ∃ w', (convert t t ux).run C.P w = .ok ux w' ∧ Inv C G ⟨killT id s.tm, ins id blk s.H⟩ (φ.upd id .none) a w' ∧ Rel (Imm (φ.upd id .none) G.X w') w' (φ.upd id .none) (.vs blk.cells n) ux := by
  unfold evMark at h
  split at h
  case h_2 => cases h
  rename_i e _ _ _ _ blk0 hti hb
  split at h
  case h_2 => cases h
  rename_i _ _ _ _ hei
  split at h
  case h_2 => cases h
  rename_i q hbld hc
  cases h
  simp only [Bool.and_eq_true, Nat.blt_eq] at hc
  obtain ⟨hfl, hn, hb2⟩ := hc
  cases hx with
  | slnil hs => omega
  | sl hs q1 q2 q3 =>
    rename_i cap b c
    obtain ⟨us, el, hh, hr, hk⟩ := slot_blk hI.hr hb hs
    have ht := (hT.get hti).desc
    have he := (hT.get hei).desc
    have hsh : w.shape? b = some (el, us.size) := by simp [World.shape?, hh]
    refine ⟨w.freeze ⟨b, us.size, none⟩ 1, ?_, ?_⟩
    · simp only [convert, Sem.run_bind, (hT.get hti).und w, Result.andThen_ok]
      simp only [beq_self_eq_true, (hT.get hei).und w, Sem.run_bind, Result.andThen_ok, markStringish, run_shape, hsh, run_freeze, Sem.run_pure]
    · have hreg := hI.regrow (w' := w.freeze ⟨b, us.size, none⟩ 1) (sl := .none) (row := some b) (blk' := blk) (by rw [(lkC_lk hb).1]; simp) (fun b' e => by cases e; exact ⟨c, hs⟩) ⟨by unfold World.freeze; simp, by unfold World.freeze; simp, by unfold World.freeze; simp⟩ (by rw [freeze_size]; exact Nat.le_refl _) (fun b' _ hne => freeze_other w b _ b' (fun e => hne (by rw [e]))) (fun b c e => by cases e) hrest (bld_fix hI.hr hb hbld hb2) trivial
      refine ⟨hreg.1, ?_⟩
      rw [hfl] at hr
      have hr' : RelL (Imm (φ.upd id .none) G.X (w.freeze ⟨b, us.size, none⟩ 1)) (w.freeze ⟨b, us.size, none⟩ 1) Phi.emp blk.cells (us.toList.take blk.cells.length) := hr.mono hreg.2 (fun _ _ _ h => h) (fun _ h => h)
      refine .vs hr'.1 hr'.2.1 hr'.2.2 (fun j u hu => ⟨b, 0, rfl, ⟨?_, fun i c' hi => ?_, hI.ok.free _ _ _ hs⟩, ?_⟩) (fun e => by cases e) q1 q2
      · rw [freeze_size]
        exact hI.ok.lt _ _ _ hs
      · unfold Phi.upd at hi
        split at hi
        · cases hi
        · rename_i hne
          exact hne (hI.ok.inj _ _ _ _ _ hi hs)
      · rw [freeze_cell]
        rw [List.getElem?_take] at hu
        split at hu
        · simp only [Nat.zero_add]
          simp [World.cell?, hh]
          simpa using hu
        · cases hu
end
end Go.Ab
