/- Slices that are made: a literal, make. -/
import Derived.Test.YtmeiemdnhjnpcaaAb9
import Derived.IntWalk
set_option linter.unusedSimpArgs false
set_option linter.unusedVariables false
namespace Go.Ab
open Go.RowKit
section
variable {P : Program} {w w' : World} {φ φ' : Phi} {X : Nat → Prop} {tc : List (Nat × TI)} {sym : Bool} {o : List Prop} {x y : V} {u : Value}

theorem new_sl {op : Oper} {a : Act} {d : Nat} {us : Array Value} {e : TypeId} {cs : List V} {fl : Bool} {len sz : Nat} (hd : φ d = .none)
    (hrun : (execOp a.eval op).run P w = .ok (.value (.slice (some ⟨w.heap.size, 0, none⟩) len len)) (w.alloc (.cells us e)))
    (hr : RelL (Imm φ X w) w (bFlat φ fl) cs us.toList) (hn : cs.length = len * sz) (hm : len ≤ 9223372036854775807) : OpSnd P op a w φ X ⟨o, .sl d 0 len, [(d, ⟨cs, fl, 0, some (e, sz)⟩)]⟩ := by
  intro Q K hK
  unfold Oper.wp
  rw [hrun]
  have hg := Gr.one φ w d ⟨cs, fl, 0, some (e, sz)⟩ (some len) (.cells us e)
  have hx := hg.xt (X := X) (fun id hid => by
    simp only [lk] at hid
    split at hid
    · rename_i e; simp at e; subst e; exact hd
    · simp at hid)
  refine hK _ _ _ hg (.sl (upd_same _ _ _) (Nat.le_refl _) hm (fun k hk _ => by cases hk; rfl)) (fun id blk hl => ?_)
  simp only [lk] at hl
  split at hl
  · rename_i e'
    simp at e'
    subst e'
    cases hl
    rw [upd_same]
    have hl2 := hr.1
    refine ⟨us, e, heap_new w _, ?_, rfl, len, len, rfl, hn, Nat.le_refl _, hm, ?_⟩
    · have : us.toList.take cs.length = us.toList := List.take_of_length_le (by omega)
      simp only [this]
      refine hr.mono hx.im ?_ ?_
      · cases fl
        · exact hx.at_
        · exact fun _ _ _ h => h
      · cases fl
        · exact hx.nil_
        · exact fun _ h => h
    · simp at hl2
      omega
  · cases hl

/-- n times what a type is at first. -/
def zeros (zs : List Value) (n : Nat) : List V := (List.range n).map fun i => V.val (zs.getD (i % zs.length) (.bool false))
theorem zeros_rel {I : Nat → Prop} {zs : List Value} (hz : zs.all scalar = true) (z : Array Value) (hzz : z.toList = zs) (hpos : 0 < zs.length) (φ : Phi) (n : Nat) : RelL I w φ (zeros zs n) ((Array.range n).map (fun i => z[i % z.size]!)).toList := by
  have hzs : z.size = zs.length := by rw [← hzz]; simp
  refine ⟨by simp [zeros], fun i hi => ?_, fun u hu => ?_⟩
  · have hi' : i < n := by simpa [zeros] using hi
    have hm : i % zs.length < zs.length := Nat.mod_lt _ hpos
    have e1 : zs.getD (i % zs.length) (.bool false) = zs[i % zs.length] := by simp [List.getD_eq_getElem?_getD, hm]
    have e2 : ((Array.range n).map (fun i => z[i % z.size]!)).toList.getD i undef = zs[i % zs.length] := by
      have : i % z.size < z.size := by rw [hzs]; exact hm
      simp [List.getD_eq_getElem?_getD, hi', hzs]
      have h3 : i % zs.length < z.size := by omega
      rw [getElem!_pos z _ h3]
      simp [← hzz]
    simp only [zeros, List.getElem_map, List.getElem_range, e1, e2]
    exact .val (List.all_eq_true.1 hz _ (List.getElem_mem hm))
  · simp only [Array.toList_map, List.mem_map] at hu
    obtain ⟨i, _, rfl⟩ := hu
    have hm : i % zs.length < zs.length := Nat.mod_lt _ hpos
    have h3 : i % z.size < z.size := by rw [hzs]; exact hm
    rw [getElem!_pos z _ h3]
    refine scalar_one (List.all_eq_true.1 hz _ ?_)
    rw [← hzz]
    simp
theorem putAt_len {cs ds : List V} {off : Nat} (h : off + ds.length ≤ cs.length) : (putAt cs off ds).length = cs.length := by
  simp [putAt]
  omega
theorem evFill_len {place : Nat → Option (Nat × Nat)} : ∀ {parts : List (Nat × V)} {cells cs : List V}, evFill place cells parts = some cs → cs.length = cells.length
  | [], cells, cs, h => by cases h; rfl
  | (i, x) :: r, cells, cs, h => by
    unfold evFill at h
    split at h
    · rename_i off sz ds hp hds
      split at h
      · rename_i hb
        simp only [Bool.and_eq_true, Nat.ble_eq] at hb
        have hb1 : ds.length = sz := Nat.eq_of_beq_eq_true hb.1
        rw [evFill_len h, putAt_len (by omega)]
      · cases h
    · cases h
def evBuildSlice (tc : List (Nat × TI)) (d : Nat) (t : TypeId) (len : Nat) (parts : List (Nat × V)) : Option R :=
  match lk tc t with
  | some ⟨.slice e, _, _, _, _⟩ => match lk tc e with
    | some ei => if ei.zero.all scalar && (Nat.blt 0 ei.size && (ei.zero.length == ei.size && Nat.ble (len * ei.size) 16777216)) then
        (evFill (fun i => some (i * ei.size, ei.size)) (zeros ei.zero (len * ei.size)) parts).map fun cs => ⟨[], .sl d 0 len, [(d, ⟨cs, allFlat parts, 0, some (e, ei.size)⟩)]⟩
      else none
    | none => none
  | _ => none
theorem evBuildSlice_ok (hT : TCok P tc) {d : Nat} {t : TypeId} {len : Nat} {parts : List (Nat × V)} {pu : List (Nat × Value)} {r : R} (h : evBuildSlice tc d t len parts = some r) (hd : φ d = .none) {op : Oper} {a : Act} (hp : RelsP (Imm φ X w) w φ parts pu)
    (hrun : (execOp a.eval op).run P w = (do pure (Next.value (← Instr.buildSlice t len pu.toArray)) : Sem Next).run P w) : OpSnd P op a w φ X r := by
  unfold evBuildSlice at h
  split at h
  · rename_i e _ _ _ _ hti
    split at h
    · rename_i ei hei
      split at h
      · rename_i hc
        simp only [Bool.and_eq_true, beq_iff_eq, Nat.ble_eq] at hc
        obtain ⟨c1, c2, c3, c5⟩ := hc
        rw [Nat.blt_eq] at c2
        simp only [Option.map_eq_some_iff] at h
        obtain ⟨cs, hcs, rfl⟩ := h
        have ht := hT.get hti
        have he := hT.get hei
        obtain ⟨z, hz1, hz2⟩ := he.zeroValue w
        have hz : RelL (Imm φ X w) w (bFlat φ (allFlat parts)) (zeros ei.zero (len * ei.size)) ((Array.range (len * ei.size)).map (fun i => z.cells[i % z.cells.size]!)).toList := zeros_rel c1 z.cells hz2 (by omega) _ _
        obtain ⟨us', q1, q2⟩ := evFill_ok _ hcs hp (fun e => e) hz
        have hlen : cs.length = len * ei.size := by rw [evFill_len hcs]; simp [zeros]
        have hle : len ≤ len * ei.size := Nat.le_mul_of_pos_right _ c2
        refine new_sl (us := us') (e := e) hd ?_ q2 hlen (by omega)
        rw [hrun]
        have h1 : ¬ len * ei.size > 2 ^ 24 := by omega
        by_cases h0 : len = 0
        · subst h0
          have q1' := q1
          simp only [Nat.zero_mul] at q1'
          have er : ∀ f : Nat → Value, (Array.range 0).map f = #[] := fun f => by simp
          rw [er] at q1'
          simp only [Instr.buildSlice, Sem.run_bind, ht.und w, Result.andThen_ok, he.sizeOf w, Nat.zero_mul, if_true, Sem.run_pure, er, q1', newRow, run_newObj]
          rfl
        · have h2 : ¬ len * ei.size = 0 := by
            have := Nat.mul_pos (Nat.pos_of_ne_zero h0) c2
            omega
          simp only [Instr.buildSlice, Sem.run_bind, ht.und w, Result.andThen_ok, he.sizeOf w, h1, h2, if_false, Sem.run_pure, hz1, q1, newRow, run_newObj]
          rfl
      · cases h
    · cases h
  · cases h
def evMakeSlice (tc : List (Nat × TI)) (sym : Bool) (d : Nat) (t : TypeId) (l c : V) : Option R :=
  match lk tc t, l, c with
  | some ⟨.slice e, _, _, _, _⟩, .val (.int _ n), .val (.int _ m) => match lk tc e with
    | some ei => if ei.zero.all scalar && (Nat.blt 0 ei.size && ei.zero.length == ei.size) then
        (chk sym (decide (n = m) && (decide (0 ≤ n) && decide (n * ei.bytes ≤ 140737488355328) && decide (n < 9223372036854775808))) (n = m ∧ 0 ≤ n ∧ n * ei.bytes ≤ 140737488355328 ∧ n < 9223372036854775808)).map fun o =>
          ⟨o, .sl d 0 n.toNat, [(d, ⟨(match ei.zero with | [z] => List.replicate n.toNat (V.val z) | zs => zeros zs (n.toNat * ei.size)), true, 0, some (e, ei.size)⟩)]⟩
      else none
    | none => none
  | _, _, _ => none
theorem zeros_one (z : Value) (n : Nat) : zeros [z] n = List.replicate n (V.val z) := by
  apply List.ext_getElem (by simp [zeros])
  intro i h1 h2
  simp [zeros, Nat.mod_one]
theorem evMakeSlice_ok (hT : TCok P tc) {d : Nat} {t : TypeId} {l c : V} {ul uc : Value} {r : R} (h : evMakeSlice tc sym d t l c = some r) (ho : AllP r.obl) (hd : φ d = .none) {op : Oper} {a : Act} (hl : Rel (Imm φ X w) w φ l ul) (hc : Rel (Imm φ X w) w φ c uc)
    (hrun : (execOp a.eval op).run P w = (do pure (Next.value (← Instr.makeSlice t ul uc)) : Sem Next).run P w) : OpSnd P op a w φ X r := by
  unfold evMakeSlice at h
  split at h
  · rename_i e _ _ _ _ k n k' m hti
    obtain rfl := hl.val_inv
    obtain rfl := hc.val_inv
    split at h
    · rename_i ei hei
      split at h
      · rename_i hcc
        simp only [Bool.and_eq_true, beq_iff_eq] at hcc
        obtain ⟨c1, c2, c3⟩ := hcc
        rw [Nat.blt_eq] at c2
        simp only [Option.map_eq_some_iff] at h
        obtain ⟨o', hk, rfl⟩ := h
        obtain ⟨rfl, h0, hb, h63⟩ := chk_ok hk (by simp; omega) ho
        have ht := hT.get hti
        have he := hT.get hei
        obtain ⟨i, hi1, hi2, hi3⟩ := he.typeInfo w
        obtain ⟨z, hz1, hz2⟩ := he.zeroValue w
        have hcells : (match ei.zero with | [z] => List.replicate n.toNat (V.val z) | zs => zeros zs (n.toNat * ei.size)) = zeros ei.zero (n.toNat * ei.size) := by
          split
          · rename_i z' hz'
            rw [hz']
            rw [hz'] at c3
            rw [← c3, zeros_one]
            simp
          · rfl
        rw [hcells]
        have hz : RelL (Imm φ X w) w (bFlat φ true) (zeros ei.zero (n.toNat * ei.size)) ((Array.range (n.toNat * ei.size)).map (fun i => z.cells[i % z.cells.size]!)).toList := zeros_rel c1 z.cells hz2 (by omega) _ _
        by_cases hn0 : n.toNat * ei.size = 0
        · have hz' : RelL (Imm φ X w) w (bFlat φ true) (zeros ei.zero (n.toNat * ei.size)) (#[] : Array Value).toList := by
            rw [hn0]
            exact RelL.nil
          refine new_sl (us := #[]) (e := e) hd ?_ hz' (by simp [zeros]) (by omega)
          rw [hrun]
          have hw : IntKind.i64.wrap n = n := IntWalk.i64_in n (by omega)
          have hnot : ¬ (ei.bytes : Int) * n > 2 ^ 48 := by rw [Int.mul_comm]; omega
          simp only [Instr.makeSlice, Sem.run_bind, ht.und w, Result.andThen_ok, asInt, asIntOf, Sem.run_pure, hi1, hw, hi3]
          simp only [show ¬ n < 0 by omega, hnot, decide_false, Bool.or_false, show ¬ n > n by omega, Bool.false_eq_true, if_false, Sem.run_bind, run_askRoom, Result.andThen_ok, he.sizeOf w, hn0, if_true, Sem.run_pure, newRow, run_newObj]
          have e0 : ((Array.range 0).map (fun x => (#[] : Array Value)[x % (#[] : Array Value).size]!)) = #[] := by simp
          rw [e0]
          rfl
        · refine new_sl (us := (Array.range (n.toNat * ei.size)).map (fun i => z.cells[i % z.cells.size]!)) (e := e) hd ?_ hz (by simp [zeros]) (by omega)
          rw [hrun]
          have hw : IntKind.i64.wrap n = n := IntWalk.i64_in n (by omega)
          have hnot : ¬ (ei.bytes : Int) * n > 2 ^ 48 := by rw [Int.mul_comm]; omega
          simp only [Instr.makeSlice, Sem.run_bind, ht.und w, Result.andThen_ok, asInt, asIntOf, Sem.run_pure, hi1, hw, hi3]
          simp only [show ¬ n < 0 by omega, hnot, decide_false, Bool.or_false, show ¬ n > n by omega, Bool.false_eq_true, if_false, Sem.run_bind, run_askRoom, Result.andThen_ok, he.sizeOf w, hn0, hz1, Sem.run_pure, newRow, run_newObj]
          rfl
      · cases h
    · cases h
  · cases h
end
end Go.Ab
