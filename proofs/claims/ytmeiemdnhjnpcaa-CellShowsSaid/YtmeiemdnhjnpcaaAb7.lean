/- New blocks, calls: what an operation that writes nothing leaves. -/
import Derived.Test.YtmeiemdnhjnpcaaAb6
set_option linter.unusedSimpArgs false
set_option linter.unusedVariables false
namespace Go.Ab
open Go.RowKit

/-- From w to w' new blocks have come up, of which the own ones are 'new'; what was there stays. -/
structure Gr (φ : Phi) (w : World) (φ' : Phi) (w' : World) (new : List (Nat × Blk)) : Prop where
  os : w'.os = w.os
  tape : w'.tape = w.tape
  output : w'.output = w.output
  size : w.heap.size ≤ w'.heap.size
  block : ∀ b, b < w.heap.size → w'.heap[b]? = w.heap[b]?
  old : ∀ id, lk new id = none → φ' id = φ id
  fresh : ∀ id b c, lk new id ≠ none → φ' id = .at b c → w.heap.size ≤ b ∧ b < w'.heap.size
  inj : ∀ i j b c c', lk new i ≠ none → lk new j ≠ none → φ' i = .at b c → φ' j = .at b c' → i = j
section
variable {P : Program} {I : Nat → Prop} {w w' : World} {φ φ' : Phi} {X : Nat → Prop} {tc : List (Nat × TI)} {H new : List (Nat × Blk)} {sym : Bool} {o : List Prop} {v x y : V} {u ux uy : Value}

theorem Gr.refl (φ : Phi) (w : World) : Gr φ w φ w [] :=
  ⟨rfl, rfl, rfl, Nat.le_refl _, fun _ _ => rfl, fun _ _ => rfl, fun _ _ _ h => absurd rfl h, fun _ _ _ _ _ h => absurd rfl h⟩
theorem Gr.skip (hn : ∀ id, lk new id ≠ none → φ id = .none) : Gr φ w φ w new :=
  ⟨rfl, rfl, rfl, Nat.le_refl _, fun _ _ => rfl, fun _ _ => rfl, fun id b c h hs => (by rw [hn id h] at hs; cases hs), fun i j b c c' h _ hs _ => (by rw [hn i h] at hs; cases hs)⟩
theorem Gr.xt (h : Gr φ w φ' w' new) (hn : ∀ id, lk new id ≠ none → φ id = .none) : XT (Imm φ X w) w φ (Imm φ' X w') w' φ' := by
  refine ⟨fun id b c hs => ?_, fun id hs => ?_, fun b hb => ?_⟩
  · cases hl : lk new id with
    | none => rw [h.old id hl]; exact hs
    | some z => rw [hn id (by simp [hl])] at hs; cases hs
  · cases hl : lk new id with
    | none => rw [h.old id hl]; exact hs
    | some z => rw [hn id (by simp [hl])] at hs; cases hs
  · obtain ⟨h1, h2, h3⟩ := hb
    refine ⟨⟨Nat.lt_of_lt_of_le h1 h.size, fun id c hs => ?_, h3⟩, h.block b h1⟩
    cases hl : lk new id with
    | none => rw [h.old id hl] at hs; exact h2 id c hs
    | some z => have := (h.fresh id b c (by simp [hl]) hs).1; omega
/-- One new block, which is written out. -/
theorem Gr.one (φ : Phi) (w : World) (d : Nat) (blk : Blk) (c : Option Nat) (ob : Obj) : Gr φ w (φ.upd d (.at w.heap.size c)) (w.alloc ob) [(d, blk)] := by
  have hl : ∀ id, lk [(d, blk)] id ≠ none → id = d := fun id hid => by
    simp only [lk] at hid
    split at hid
    · simp_all
    · simp at hid
  have hsz : (w.alloc ob).heap.size = w.heap.size + 1 := by show (w.heap.push ob).size = _; simp
  refine ⟨rfl, rfl, rfl, by omega, fun b hb => Below.heap_alloc w ob b hb, fun id hid => ?_, fun id b c' hid hs => ?_, fun i j b c' c'' hi hj _ _ => by rw [hl i hi, hl j hj]⟩
  · have : id ≠ d := fun e => by subst e; simp [lk] at hid
    simp [Phi.upd, this]
  · have := hl id hid
    subst this
    simp only [Phi.upd, if_true, Slot.at.injEq] at hs
    obtain ⟨rfl, rfl⟩ := hs
    omega

/-! What is asked of an operation that writes nothing. -/
structure R where
  obl : List Prop
  v : V
  new : List (Nat × Blk)
def OpSnd (P : Program) (op : Oper) (a : Act) (w : World) (φ : Phi) (X : Nat → Prop) (r : R) : Prop :=
  ∀ (Q : Exit → Act → World → Prop) (K : Act → World → Prop),
    (∀ u w' φ', Gr φ w φ' w' r.new → Rel (Imm φ' X w') w' φ' r.v u → (∀ id blk, lk r.new id = some blk → BlkRel (Imm φ' X w') w' φ' (φ' id) blk) → K (a.put op.dst u) w') → op.wp P a w K Q
theorem OpSnd.pure_ {op : Oper} {a : Act} (h : ∃ r, (execOp a.eval op).run P w = .ok (.value r) w ∧ Rel (Imm φ X w) w φ v r) : OpSnd P op a w φ X ⟨o, v, []⟩ := by
  obtain ⟨r, h1, h2⟩ := h
  intro Q K hK
  unfold Oper.wp
  rw [h1]
  exact hK r w φ (Gr.refl φ w) h2 (fun id blk hl => by cases hl)

/-! New blocks. -/
def vals (zs : List Value) : List V := zs.map V.val
theorem vals_rel (zs : List Value) (h : zs.all scalar = true) (φ : Phi) : RelL I w φ (vals zs) zs := by
  refine ⟨by simp [vals], fun i hi => ?_, fun u hu => scalar_one (List.all_eq_true.1 h u hu)⟩
  have hi' : i < zs.length := by simpa [vals] using hi
  simp only [vals, List.getElem_map, List.getD_eq_getElem?_getD, List.getElem?_eq_getElem hi', Option.getD_some]
  exact .val (List.all_eq_true.1 h _ (List.getElem_mem hi'))

theorem upd_same (φ : Phi) (d : Nat) (s : Slot) : φ.upd d s d = s := by simp [Phi.upd]
theorem alloc_blk {us : Array Value} {el : TypeId} {cs : List V} {fl : Bool} (hr : RelL I w (bFlat φ fl) cs us.toList) {n : Nat} (hn : cs.length = n) {w1 : World} (hw : w1.heap[w.heap.size]? = some (.cells us el)) {I' : Nat → Prop} {φ' : Phi}
    (im : ∀ b, I b → I' b ∧ w1.heap[b]? = w.heap[b]?) (ha : ∀ id b c, φ id = .at b c → φ' id = .at b c) (hnil : ∀ id, φ id = .nil → φ' id = .nil) :
    BlkRel I' w1 φ' (.at w.heap.size none) ⟨cs, fl, n, none⟩ := by
  refine ⟨us, el, hw, ?_, ?_⟩
  · have hl := hr.1
    have : us.toList.take cs.length = us.toList := List.take_of_length_le (by omega)
    simp only [this]
    refine hr.mono im ?_ ?_
    · cases fl
      · exact ha
      · exact fun _ _ _ h => h
    · cases fl
      · exact hnil
      · exact fun _ h => h
  · have hl := hr.1
    exact ⟨by simpa using hl, hn, rfl⟩
theorem heap_new (w : World) (ob : Obj) : (w.alloc ob).heap[w.heap.size]? = some ob := heap_alloc_new w ob

def evAlloc (tc : List (Nat × TI)) (d : Nat) (e : TypeId) : Option R :=
  match lk tc e with
  | some ti => if ti.zero.all scalar && ti.zero.length == ti.size then some ⟨[], .ptr d 0, [(d, ⟨vals ti.zero, true, ti.size, none⟩)]⟩ else none
  | none => none
theorem new_snd {op : Oper} {a : Act} {d : Nat} {us : Array Value} {el : TypeId} {cs : List V} {fl : Bool} {n : Nat} (hd : φ d = .none)
    (hrun : (execOp a.eval op).run P w = .ok (.value (.pointer (some ⟨w.heap.size, 0, none⟩))) (w.alloc (.cells us el)))
    (hr : RelL (Imm φ X w) w (bFlat φ fl) cs us.toList) (hn : cs.length = n) : OpSnd P op a w φ X ⟨o, .ptr d 0, [(d, ⟨cs, fl, n, none⟩)]⟩ := by
  intro Q K hK
  unfold Oper.wp
  rw [hrun]
  have hg := Gr.one φ w d ⟨cs, fl, n, none⟩ none (.cells us el)
  have hx := hg.xt (X := X) (fun id hid => by
    simp only [lk] at hid
    split at hid
    · rename_i e; simp at e; subst e; exact hd
    · simp at hid)
  refine hK _ _ _ hg (.ptr (upd_same _ _ _)) (fun id blk hl => ?_)
  simp only [lk] at hl
  split at hl
  · rename_i e
    simp at e
    subst e
    cases hl
    rw [upd_same]
    exact alloc_blk hr hn (heap_new w _) hx.im hx.at_ hx.nil_
  · cases hl
theorem evAlloc_ok (hT : TCok P tc) {d : Nat} {e : TypeId} {r : R} (h : evAlloc tc d e = some r) (hd : φ d = .none) {op : Oper} {a : Act} (hop : op.op = .alloc e) : OpSnd P op a w φ X r := by
  unfold evAlloc at h
  split at h
  · rename_i ti hti
    split at h
    · rename_i hz
      cases h
      simp only [Bool.and_eq_true, beq_iff_eq] at hz
      have ht := hT.get hti
      obtain ⟨z, hz1, hz2⟩ := ht.zeroValue w
      refine new_snd (us := z.cells) (el := e) hd ?_ ?_ (by simp [vals, hz.2])
      · simp only [execOp, hop, Instr.alloc, Sem.run_bind, hz1, Result.andThen_ok, newVar, newRow, run_newObj, Sem.run_pure]
        rfl
      · rw [hz2]
        exact vals_rel _ hz.1 _
    · cases h
  · cases h

def evBox (tc : List (Nat × TI)) (sym : Bool) (d : Nat) (e : TypeId) (x : V) : Option R :=
  match lk tc e, x.cells with
  | some ti, some cs => (chk sym (Nat.beq cs.length ti.size) (cs.length = ti.size)).map fun o => ⟨o, .ptr d 0, [(d, ⟨cs, flat x, ti.size, none⟩)]⟩
  | _, _ => none
theorem evBox_ok {d : Nat} {e : TypeId} {r : R} (h : evBox tc sym d e x = some r) (ho : AllP r.obl) (hd : φ d = .none) {op : Oper} {a : Act} {y : Operand} (hop : op.op = .box e y) (hx : Rel (Imm φ X w) w φ x (a.eval y)) : OpSnd P op a w φ X r := by
  unfold evBox at h
  split at h
  · rename_i ti cs hti hcs
    simp only [Option.map_eq_some_iff] at h
    obtain ⟨o', hk, rfl⟩ := h
    have hn := chk_ok hk (by simp) ho
    refine new_snd (us := (a.eval y).cells) (el := e) hd ?_ (hx.cellsB hcs) hn
    simp only [execOp, hop, Instr.box, Sem.run_bind, newVar, newRow, run_newObj, Result.andThen_ok, Sem.run_pure]
    rfl
  · cases h
end
end Go.Ab
