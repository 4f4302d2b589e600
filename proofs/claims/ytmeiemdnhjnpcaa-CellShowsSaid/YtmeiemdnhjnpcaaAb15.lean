/- Stores. -/
import Derived.Test.YtmeiemdnhjnpcaaAb14
set_option linter.unusedSimpArgs false
set_option linter.unusedVariables false
namespace Go.Ab
open Go.RowKit

def putC (one : Bool) (cs : List V) (off : Nat) (ds : List V) : List V :=
  match one, ds with
  | true, [d] => cs.set off d
  | _, ds => putAt cs off ds
theorem set_putAt {cs : List V} {off : Nat} {d : V} (h : off < cs.length) : cs.set off d = putAt cs off [d] := by
  unfold putAt
  rw [List.set_eq_take_append_cons_drop, if_pos h]
  simp
theorem putC_eq {one : Bool} {cs ds : List V} {off : Nat} (h : off + ds.length ≤ cs.length) : putC one cs off ds = putAt cs off ds := by
  unfold putC
  split
  · rename_i d
    simp only [List.length_cons, List.length_nil] at h
    exact set_putAt (by omega)
  · rfl
def evStore (tc : List (Nat × TI)) (H : List (Nat × Blk)) (sym : Bool) (t : TypeId) (x y : V) : Option (List Prop × List (Nat × Blk)) :=
  match x, y.cells, lk tc t with
  | .ptr id off, some ds, some ti => match lk H id, chk sym (Nat.beq ds.length ti.size) (ds.length = ti.size) with
    | some blk, some o1 => match blk.bld.isNone && blk.size == ti.size with
      | true => (chk sym (off == 0) (off = 0)).map fun o2 => (o1 ++ o2, ins id { blk with cells := ds, flat := flat y } H)
      | false => (chk sym (Nat.ble (off + ti.size) blk.cells.length) (off + ti.size ≤ blk.cells.length)).map fun o2 =>
          (o1 ++ o2, ins id { blk with cells := putC (ti.size == 1) blk.cells off ds, flat := blk.flat && flat y } H)
    | _, _ => none
  | _, _, _ => none

section
variable {C : Cx} {G : Gl} {P : Program} {φ φ' : Phi} {a : Act} {w w' : World} {s s' : St} {tc : List (Nat × TI)} {H : List (Nat × Blk)} {sym : Bool} {o : List Prop} {x y : V} {ux uy : Value}

theorem setCells_heap (b : Nat) (el : TypeId) (off : Nat) : ∀ (vs : List Value) (k : Nat) (w : World) (us : Array Value), w.heap[b]? = some (.cells us el) →
    (w.setCells b (off + k) vs).heap[b]? = some (.cells ((vs.zipIdx k).foldl (fun (cs : Array Value) (p : Value × Nat) => cs.setIfInBounds (off + p.2) p.1) us) el)
  | [], k, w, us, h => by simpa [World.setCells] using h
  | v :: r, k, w, us, h => by
    simp only [World.setCells, List.zipIdx_cons, List.foldl_cons]
    refine setCells_heap b el off r (k + 1) _ _ ?_
    have hlt : b < w.heap.size := (Array.getElem?_eq_some_iff.1 h).1
    have hv : w.heap[b] = .cells us el := (Array.getElem?_eq_some_iff.1 h).2
    unfold World.setCell
    rw [Array.getElem?_eq_getElem (by simpa using hlt), Array.getElem_modify]
    simp [hv]
theorem setCells_other (b : Nat) {b' : Nat} (hne : b' ≠ b) : ∀ (vs : List Value) (off : Nat) (w : World), (w.setCells b off vs).heap[b']? = w.heap[b']?
  | [], _, _ => rfl
  | v :: r, off, w => by
    rw [World.setCells, setCells_other b hne r]
    simp [World.setCell, Array.getElem?_modify, Ne.symm hne]
theorem setCells_size (b : Nat) : ∀ (vs : List Value) (off : Nat) (w : World), (w.setCells b off vs).heap.size = w.heap.size
  | [], _, _ => rfl
  | v :: r, off, w => by
    rw [World.setCells, setCells_size b r]
    simp [World.setCell]
theorem setCells_os (b : Nat) : ∀ (vs : List Value) (off : Nat) (w : World), (w.setCells b off vs).os = w.os ∧ (w.setCells b off vs).tape = w.tape ∧ (w.setCells b off vs).output = w.output
  | [], _, _ => ⟨rfl, rfl, rfl⟩
  | v :: r, off, w => by
    rw [World.setCells]
    exact setCells_os b r _ _

/-- One own block is written. -/
theorem Inv.write (hI : Inv C G s φ a w) {id b : Nat} {c : Option Nat} (hs : φ id = .at b c) {blk' : Blk} (hid : lk s.H id ≠ none)
    (hos : w'.os = w.os ∧ w'.tape = w.tape ∧ w'.output = w.output) (hsz : w'.heap.size = w.heap.size) (hot : ∀ b', b' ≠ b → w'.heap[b']? = w.heap[b']?)
    (hb : BlkRel (Imm φ G.X w') w' φ (.at b c) blk') : Inv C G ⟨s.tm, ins id blk' s.H⟩ φ a w' := by
  have im : ∀ b', Imm φ G.X w b' → Imm φ G.X w' b' ∧ w'.heap[b']? = w.heap[b']? := fun b' h =>
    ⟨⟨by rw [hsz]; exact h.1, h.2⟩, hot b' (fun e => h.2.1 id c (e ▸ hs))⟩
  refine ⟨hI.size, hI.defers, fun t x hx => ?_, fun i blk hl => ?_, ⟨hI.ok.inj, fun i b c h => by rw [hsz]; exact hI.ok.lt i b c h, hI.ok.free, fun i hi => ?_⟩, hI.x, ?_, hI.own, fun i b hb h0 => (hI.fix i b hb h0).imp (fun h => h) (fun e => by
    show lk (ins id blk' s.H) i = none
    rw [lk_ins, if_neg (fun e2 => hid (by rw [← e2]; exact e))]
    exact e)⟩
  · have := hI.tm t x hx
    cases x with
    | plain y => exact Rel.mono im this _ (fun _ _ _ h => h) (fun _ h => h)
    | gd d want y => exact ⟨fun e => (this.1 e).mono im _ (fun _ _ _ h => h) (fun _ h => h), this.2⟩
  · rw [lk_ins] at hl
    split at hl
    · rename_i e
      subst e
      cases hl
      rw [hs]
      exact hb
    · rename_i e
      refine (hI.hr i blk hl).mono im (fun b' c' hs' => hot b' (fun eb => ?_)) (fun _ _ _ h => h) (fun _ h => h)
      subst eb
      exact e (hI.ok.inj _ _ _ _ _ hs' hs)
  · rw [lk_ins] at hi
    split at hi
    · cases hi
    · exact hI.ok.dom i hi
  · refine ⟨hos.1.trans hI.frm.os, hos.2.1.trans hI.frm.tape, hos.2.2.trans hI.frm.output, by rw [hsz]; exact hI.frm.size, fun b' hb' h0 => ?_⟩
    rw [hot b' ?_]
    · exact hI.frm.block b' hb' h0
    · intro e
      subst e
      rcases hI.own id b' c hs with ⟨id0, c0, h⟩ | h
      · exact h0 id0 c0 h
      · omega

theorem RelL.put {I : Nat → Prop} {f1 f2 : Bool} {cs ds : List V} {us vs : List Value} (h : RelL I w (bFlat φ f1) cs us) (k : RelL I w (bFlat φ f2) ds vs) (off : Nat) : RelL I w (bFlat φ (f1 && f2)) (Ab.putAt cs off ds) (putAtU us off vs) := by
  have up : ∀ {f : Bool} {cs : List V} {us : List Value}, RelL I w (bFlat φ f) cs us → RelL I w φ cs us := fun {f cs us} h => by
    refine h.mono (fun _ h => ⟨h, rfl⟩) (fun id b c hs => ?_) (fun id hs => ?_)
    · cases f
      · exact hs
      · cases hs
    · cases f
      · exact hs
      · cases hs
  cases f1 with
  | false => exact RelL.putAt (up h) (up k) off
  | true =>
    cases f2 with
    | false => exact RelL.putAt (up h) (up k) off
    | true => exact RelL.putAt h k off

theorem evStore_ok (hT : TCok C.P C.tc) (hI : Inv C G s φ a w) {t : TypeId} {H' : List (Nat × Blk)} (h : evStore C.tc s.H sym t x y = some (o, H')) (ho : AllP o)
    (hx : Rel (Imm φ G.X w) w φ x ux) (hy : Rel (Imm φ G.X w) w φ y uy) : ∃ w', (Instr.storeAt t ux uy).run C.P w = .ok () w' ∧ Inv C G ⟨s.tm, H'⟩ φ a w' := by
  unfold evStore at h
  split at h
  case h_2 => cases h
  rename_i id off ds ti hds hti
  have ht := hT.get hti
  split at h
  case h_2 => cases h
  rename_i blk o1 hb hk1
  cases hx with
  | ptr hs =>
  rename_i b c
  obtain ⟨us, el, hh, hr, hkk⟩ := slot_blk hI.hr hb hs
  have hd := hy.cellsB hds
  have hdl : uy.cells.size = ds.length := by have := hd.1; simpa using this
  have hcl := hr.1
  simp only [List.length_take, Array.length_toList] at hcl
  -- the run, where there is room
  have hrun : ds.length = ti.size → off + ti.size ≤ blk.cells.length → (Instr.storeAt t (.pointer (some ⟨b, off, none⟩)) uy).run C.P w = .ok () (w.setCells b off uy.cells.toList) := fun h1 h2 => by
    have hcell : ∀ j, j < uy.cells.toList.length → (w.cell? ⟨b, off + 0 + j, none⟩).isSome = true ∧ w.frozen? ⟨b, off + 0 + j, none⟩ = false := fun j hj => by
      have hj' : off + j < us.size := by simp at hj; omega
      refine ⟨?_, ?_⟩
      · simp [World.cell?, hh, hj']
      · simp [World.frozen?, hh]
    have := run_storeCells_cells (P := C.P) b off uy.cells.toList 0 w (fun j hj => (hcell j hj).1) (fun j hj => (hcell j hj).2) hd.2.2
    simp only [Instr.storeAt, Instr.sureAddr, Sem.run_bind, Sem.run_pure, Result.andThen_ok, storeVar, ht.sizeOf w]
    rw [if_neg (by omega)]
    simpa using this
  have hsetH : ∀ w1 : World, w1.heap[b]? = w.heap[b]? → True := fun _ _ => trivial
  -- the block behind it
  have hnew : ds.length = ti.size → off + ti.size ≤ blk.cells.length → ∃ us' : Array Value, (w.setCells b off uy.cells.toList).heap[b]? = some (.cells us' el) ∧ us'.size = us.size ∧ us'.toList = putAtU us.toList off uy.cells.toList := fun h1 h2 => by
    have h3 := setCells_heap b el off uy.cells.toList 0 w us hh
    have h4 := fold_put off uy.cells.toList 0 us (by simp; omega)
    refine ⟨_, h3, ?_, by simpa [putAtU] using h4⟩
    have := congrArg List.length h4
    simp only [Nat.add_zero, List.length_append, List.length_take, List.length_drop, Array.length_toList] at this
    omega
  have im : ∀ b', Imm φ G.X w b' → Imm φ G.X (w.setCells b off uy.cells.toList) b' ∧ (w.setCells b off uy.cells.toList).heap[b']? = w.heap[b']? := fun b' h =>
    ⟨⟨by rw [setCells_size]; exact h.1, h.2⟩, setCells_other b (fun e => h.2.1 id c (by rw [e]; exact hs)) _ _ _⟩
  split at h
  · rename_i hw
    simp only [Option.map_eq_some_iff, Prod.mk.injEq] at h
    obtain ⟨o2, hk2, rfl, rfl⟩ := h
    obtain ⟨p1, p2⟩ := AllP.append.1 ho
    have hn := chk_ok hk1 (fun e => Nat.eq_of_beq_eq_true e) p1
    have h0 := chk_ok hk2 (by simp) p2
    subst h0
    simp only [Bool.and_eq_true, beq_iff_eq] at hw
    obtain ⟨hbn, hsz⟩ := hw
    cases hbl : blk.bld with
    | some q => simp [hbl] at hbn
    | none =>
      simp only [hbl] at hkk
      obtain ⟨k1, k2, k3⟩ := hkk
      obtain ⟨us', q1, q2, q3⟩ := hnew hn (by omega)
      refine ⟨_, hrun hn (by omega), hI.write hs (by simp [hb]) (setCells_os _ _ _ _) (setCells_size _ _ _ _) (fun b' hne => setCells_other b hne _ _ _) ⟨us', el, q1, ?_, ?_⟩⟩
      · have e : us'.toList.take ds.length = uy.cells.toList := by
          rw [q3]
          unfold putAtU
          simp only [List.take_zero, List.nil_append]
          have : ds.length = uy.cells.toList.length := by simp; omega
          rw [this, List.take_left]
        show RelL _ _ _ ds (us'.toList.take ds.length)
        rw [e]
        refine hd.mono im ?_ ?_
        · cases flat y
          · exact fun _ _ _ h => h
          · exact fun _ _ _ h => h
        · cases flat y
          · exact fun _ h => h
          · exact fun _ h => h
      · simp only [hbl]
        exact ⟨by omega, by omega, k3⟩
  · simp only [Option.map_eq_some_iff, Prod.mk.injEq] at h
    obtain ⟨o2, hk2, rfl, rfl⟩ := h
    obtain ⟨p1, p2⟩ := AllP.append.1 ho
    have hn := chk_ok hk1 (fun e => Nat.eq_of_beq_eq_true e) p1
    have h0 := chk_ok hk2 (by simp) p2
    obtain ⟨us', q1, q2, q3⟩ := hnew hn h0
    have hcells := putC_eq (one := ti.size == 1) (cs := blk.cells) (off := off) (ds := ds) (by omega)
    have hpl : (putAt blk.cells off ds).length = blk.cells.length := by simp [putAt]; omega
    refine ⟨_, hrun hn h0, ?_⟩
    rw [hcells]
    refine hI.write hs (by simp [hb]) (setCells_os _ _ _ _) (setCells_size _ _ _ _) (fun b' hne => setCells_other b hne _ _ _) ⟨us', el, q1, ?_, ?_⟩
    · have e : us'.toList.take (putAt blk.cells off ds).length = putAtU (us.toList.take blk.cells.length) off uy.cells.toList := by
        rw [q3, hpl]
        unfold putAtU
        have l1 : off ≤ blk.cells.length := by omega
        have hvl : uy.cells.toList.length = ds.length := by simpa using hdl
        apply List.ext_getElem?
        intro i
        simp only [List.getElem?_take, List.getElem?_append, List.length_take, List.getElem?_drop, Array.length_toList, hvl]
        have l2 : min off us.size = off := by omega
        have l3 : min off (min blk.cells.length us.size) = off := by omega
        simp only [l2, l3]
        by_cases hi : i < blk.cells.length
        · simp only [hi, if_true]
          by_cases h5 : i < off
          · simp [h5]
          · simp only [h5, if_false]
            by_cases h6 : i - off < ds.length
            · simp [h6]
            · simp only [h6, if_false]
              have : off + ds.length + (i - off - ds.length) < blk.cells.length := by omega
              simp [this]
        · simp only [hi, if_false]
          have h5 : ¬ i < off := by omega
          have h6 : ¬ i - off < ds.length := by omega
          have : ¬ off + ds.length + (i - off - ds.length) < blk.cells.length := by omega
          simp [h5, h6, this]
      show RelL _ _ _ (putAt blk.cells off ds) (us'.toList.take (putAt blk.cells off ds).length)
      rw [e]
      refine (RelL.put hr hd off).mono im ?_ ?_
      · cases blk.flat && flat y
        · exact fun _ _ _ h => h
        · exact fun _ _ _ h => h
      · cases blk.flat && flat y
        · exact fun _ h => h
        · exact fun _ h => h
    · show (match blk.bld with | none => _ | some (e, sz) => _)
      cases hbl : blk.bld with
      | none =>
        simp only [hbl] at hkk
        show us'.size = _ ∧ _ ∧ _
        simp only [hpl]
        exact ⟨by omega, hkk.2.1, hkk.2.2⟩
      | some q =>
        simp only [hbl] at hkk
        obtain ⟨r1, cap, n, r2, r3, r4, r5, r6⟩ := hkk
        exact ⟨r1, cap, n, r2, by rw [← r3]; exact hpl, r4, r5, by rw [q2]; exact r6⟩
/-- The same blocks. -/
theorem Inv.congr (hI : Inv C G s φ a w) {H1 : List (Nat × Blk)} (h : ∀ i, lk H1 i = lk s.H i) : Inv C G ⟨s.tm, H1⟩ φ a w :=
  ⟨hI.size, hI.defers, hI.tm, fun i blk hl => hI.hr i blk (by rw [← h i]; exact hl), ⟨hI.ok.inj, hI.ok.lt, hI.ok.free, fun i hi => hI.ok.dom i (by rw [← h i]; exact hi)⟩, hI.x, hI.frm, hI.own, fun i b hb h0 => (hI.fix i b hb h0).imp (fun h => h) (fun e => (h i).trans e)⟩
/-- A store, and what the block holds behind it in another word. -/
def evStoreA (tc : List (Nat × TI)) (H : List (Nat × Blk)) (sym : Option V) (t : TypeId) (x y : V) : Option (List Prop × List (Nat × Blk)) :=
  match sym, x with
  | some (.agg _ cs'), .ptr id off => match evStore tc H true t (.ptr id off) y with
    | some (o, H') => match lk H' id with
      | some blk => some (o ++ [blk.cells = cs'], ins id { blk with cells := cs' } H')
      | none => none
    | none => none
  | sym, x => evStore tc H sym.isSome t x y
theorem evStoreA_ok (hT : TCok C.P C.tc) (hI : Inv C G s φ a w) {t : TypeId} {sym : Option V} {H' : List (Nat × Blk)} (h : evStoreA C.tc s.H sym t x y = some (o, H')) (ho : AllP o)
    (hx : Rel (Imm φ G.X w) w φ x ux) (hy : Rel (Imm φ G.X w) w φ y uy) : ∃ w', (Instr.storeAt t ux uy).run C.P w = .ok () w' ∧ Inv C G ⟨s.tm, H'⟩ φ a w' := by
  unfold evStoreA at h
  split at h
  · split at h
    · rename_i o1 H1 h1
      split at h
      · rename_i blk hb
        cases h
        obtain ⟨p1, p2⟩ := AllP.append.1 ho
        obtain ⟨w', q1, q2⟩ := evStore_ok hT hI h1 p1 hx hy
        refine ⟨w', q1, q2.congr (fun i => ?_)⟩
        have e : blk.cells = _ := p2.1
        rw [← e, lk_ins]
        split
        · rename_i e1
          subst e1
          exact hb.symm
        · rfl
      · cases h
    · cases h
  · exact evStore_ok hT hI h ho hx hy
theorem evStore_inv {t : TypeId} {sb : Bool} {H H' : List (Nat × Blk)} (h : evStore tc H sb t x y = some (o, H')) : ∃ id off, x = .ptr id off ∧ ∀ j, j ≠ id → lk H' j = lk H j := by
  unfold evStore at h
  split at h
  case h_2 => cases h
  rename_i id off ds ti hds hti
  refine ⟨id, off, rfl, fun j hj => ?_⟩
  split at h
  case h_2 => cases h
  split at h
  · simp only [Option.map_eq_some_iff, Prod.mk.injEq] at h
    obtain ⟨_, _, _, rfl⟩ := h
    rw [lk_ins, if_neg hj]
  · simp only [Option.map_eq_some_iff, Prod.mk.injEq] at h
    obtain ⟨_, _, _, rfl⟩ := h
    rw [lk_ins, if_neg hj]
theorem evStoreA_inv {t : TypeId} {sym : Option V} {H H' : List (Nat × Blk)} (h : evStoreA tc H sym t x y = some (o, H')) : ∃ id off, x = .ptr id off ∧ ∀ j, j ≠ id → lk H' j = lk H j := by
  unfold evStoreA at h
  split at h
  · rename_i cs' id off
    split at h
    · rename_i o1 H1 h1
      split at h
      · cases h
        obtain ⟨id', off', e, h2⟩ := evStore_inv h1
        cases e
        refine ⟨id, off, rfl, fun j hj => ?_⟩
        rw [lk_ins, if_neg hj]
        exact h2 j hj
      · cases h
    · cases h
  · exact evStore_inv h
end
end Go.Ab
