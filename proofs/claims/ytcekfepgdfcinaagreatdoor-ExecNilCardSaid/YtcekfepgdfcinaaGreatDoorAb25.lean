/- A run on plain data in which each test is known: what is owed is checked on the way. -/
import Derived.Test.YtcekfepgdfcinaaGreatDoorAb24
set_option linter.unusedSimpArgs false
set_option linter.unusedVariables false
namespace Go.Ab
open Go.RowKit

/-! ### What stands for the same value wherever memory lies -/
mutual
def voB : V → Bool
  | .val _ => true
  | .ptr _ _ => true
  | .sl _ _ _ => true
  | .mp _ => true
  | .bo => true
  | .top => true
  | .vs [] _ => true
  | .agg _ cs => voLB cs
  | .tup cs => voLB cs
  | _ => false
  termination_by structural x => x
def voLB : List V → Bool
  | [] => true
  | x :: r => voB x && voLB r
  termination_by structural x => x
end
mutual
theorem voB_ok : ∀ (x : V), voB x = true → VO x
  | .val _, _ => VO.val _
  | .ptr _ _, _ => VO.ptr _ _
  | .sl _ _ _, _ => VO.sl _ _ _
  | .mp _, _ => VO.mp _
  | .bo, _ => fun _ _ _ _ _ _ h => by cases h; exact .bo
  | .top, _ => fun _ _ _ _ _ _ h => .top
  | .vs [] _, _ => VO.vs_nil _
  | .vs (_ :: _) _, h => by simp [voB] at h
  | .vp _, h => by simp [voB] at h
  | .agg _ cs, h => VO.agg (voLB_ok cs (by simpa [voB] using h))
  | .tup cs, h => VO.tup (voLB_ok cs (by simpa [voB] using h))
  | .clo _ _ _, h => by simp [voB] at h
  termination_by structural x => x
theorem voLB_ok : ∀ (l : List V), voLB l = true → ∀ x ∈ l, VO x
  | [], _ => fun x h => by simp at h
  | y :: r, h => fun x hx => by
    simp only [voLB, Bool.and_eq_true] at h
    rcases List.mem_cons.1 hx with e | hx
    · rw [e]; exact voB_ok y h.1
    · exact voLB_ok r h.2 x hx
  termination_by structural x => x
end
def vohB : List (Nat × Blk) → Bool
  | [] => true
  | (_, b) :: r => voLB b.cells && vohB r
theorem vohB_ok : ∀ (l : List (Nat × Blk)), vohB l = true → VOH l
  | [], _ => trivial
  | (_, b) :: r, h => by
    simp only [vohB, Bool.and_eq_true] at h
    exact ⟨voLB_ok _ h.1, vohB_ok r h.2⟩

/-! ### What is handed over, checked -/
def frzLC (f : V → Option V) : List V → Option (List V)
  | [] => some []
  | x :: r => match f x, frzLC f r with
    | some y, some ys => some (y :: ys)
    | _, _ => none
def frzC (H : List (Nat × Blk)) (lent : List (Nat × Bool)) : Nat → V → Option V
  | 0, _ => none
  | n + 1, x => if flat x then some x else match x with
    | .sl id off m => match lk lent id, lkC H id with
      | some true, some blk => match (if blk.flat then some blk.cells else frzLC (frzC H lent n) blk.cells) with
        | some cs => if Nat.beq off 0 then some (.vs cs m) else none
        | none => none
      | some false, some blk => if blk.flat && Nat.ble (off + m) blk.cells.length then some (.vs ((blk.cells.drop off).take m) m) else none
      | _, _ => none
    | .agg false cs => match frzLC (frzC H lent n) cs with
      | some ds => some (.agg true ds)
      | none => none
    | .ptr id off => match lk lent id, lkC H id with
      | some _, some blk => match (if blk.flat then some blk.cells else frzLC (frzC H lent n) blk.cells) with
        | some cs => some (.vp (dropC off cs))
        | none => none
      | _, _ => none
    | .mp _ => some .top
    | _ => none
theorem frzLC_ok {f : V → Option (List Prop × V)} {g : V → Option V} (hfg : ∀ x y, g x = some y → ∃ o, f x = some (o, y) ∧ AllP o) : ∀ {l ys : List V}, frzLC g l = some ys → ∃ o, frzL f l = some (o, ys) ∧ AllP o
  | [], ys, h => by cases h; exact ⟨[], rfl, trivial⟩
  | x :: r, ys, h => by
    unfold frzLC at h
    split at h
    · rename_i y ys' hy hys
      cases h
      obtain ⟨o1, h1, h2⟩ := hfg _ _ hy
      obtain ⟨o2, h3, h4⟩ := frzLC_ok hfg hys
      exact ⟨o1 ++ o2, by simp only [frzL, h1, h3], AllP.append.2 ⟨h2, h4⟩⟩
    · cases h
theorem frzC_ok {H : List (Nat × Blk)} {lent : List (Nat × Bool)} : ∀ (n : Nat) (x y : V), frzC H lent n x = some y → ∃ o, frz H lent n x = some (o, y) ∧ AllP o
  | 0, _, _, h => by cases h
  | n + 1, x, y, h => by
    unfold frzC at h
    unfold frz
    split at h
    · rename_i hf
      cases h
      rw [if_pos hf]
      exact ⟨[], rfl, trivial⟩
    · rename_i hf
      rw [if_neg hf]
      split at h
      · split at h
        · rename_i blk h1 h2
          split at h
          · rename_i cs hcs
            split at h
            · rename_i hoff
              cases h
              have e0 := Nat.eq_of_beq_eq_true hoff
              simp only [h1, h2]
              split at hcs
              · rename_i hb
                cases hcs
                rw [if_pos hb]
                exact ⟨_, rfl, e0, trivial⟩
              · rename_i hb
                rw [if_neg hb]
                obtain ⟨o, h3, h4⟩ := frzLC_ok (fun x y => frzC_ok n x y) hcs
                rw [h3]
                exact ⟨_, rfl, e0, h4⟩
            · cases h
          · cases h
        · rename_i blk h1 h2
          split at h
          · rename_i hb
            cases h
            simp only [Bool.and_eq_true, Nat.ble_eq] at hb
            simp only [h1, h2]
            rw [if_pos hb.1]
            exact ⟨_, rfl, hb.2, trivial⟩
          · cases h
        · cases h
      · rename_i cs _
        split at h
        · rename_i ds hds
          cases h
          obtain ⟨o, h3, h4⟩ := frzLC_ok (fun x y => frzC_ok n x y) hds
          simp only [h3]
          exact ⟨_, rfl, h4⟩
        · cases h
      · split at h
        · rename_i full blk h1 h2
          split at h
          · rename_i cs hcs
            cases h
            simp only [h1, h2]
            split at hcs
            · rename_i hb
              cases hcs
              rw [if_pos hb]
              exact ⟨_, rfl, trivial⟩
            · rename_i hb
              rw [if_neg hb]
              obtain ⟨o, h3, h4⟩ := frzLC_ok (fun x y => frzC_ok n x y) hcs
              rw [h3]
              exact ⟨_, rfl, h4⟩
          · cases h
        · cases h
      · cases h
        exact ⟨_, rfl, trivial⟩
      · cases h
def hand0C (tc : List (Nat × TI)) (H : List (Nat × Blk)) (lent : List (Nat × Bool)) (t : TypeId) (x : V) : Option V :=
  if flat x then some x else
  match x with
  | .sl id off n => match lk lent id, lkC H id, lk tc t with
    | some full, some blk, some ⟨.slice e, _, _, _, _⟩ => match lk tc e with
      | some ei => if blk.flat then
          if full then (if Nat.beq off 0 && Nat.beq (n * ei.size) blk.cells.length then some (.vs blk.cells n) else none)
          else (if Nat.ble (off + n * ei.size) blk.cells.length then some (.vs ((blk.cells.drop off).take (n * ei.size)) n) else none)
        else none
      | none => none
    | _, _, _ => none
  | .ptr id off => match lk lent id, lkC H id with
    | some _, some blk => if blk.flat then some (.vp (dropC off blk.cells)) else none
    | _, _ => none
  | _ => none
theorem hand0C_ok {tc : List (Nat × TI)} {H : List (Nat × Blk)} {lent : List (Nat × Bool)} {t : TypeId} {x y : V} (h : hand0C tc H lent t x = some y) : ∃ o, hand0 tc H lent t x = some (o, y) ∧ AllP o := by
  unfold hand0C at h
  unfold hand0
  split at h
  · rename_i hf
    cases h
    rw [if_pos hf]
    exact ⟨[], rfl, trivial⟩
  · rename_i hf
    rw [if_neg hf]
    split at h
    · split at h
      · rename_i h1 h2 h3
        split at h
        · rename_i ei h4
          simp only [h1, h2, h3, h4]
          split at h
          · rename_i hb
            rw [if_pos hb]
            split at h
            · rename_i hfull
              rw [if_pos hfull]
              split at h
              · rename_i hc
                cases h
                simp only [Bool.and_eq_true] at hc
                exact ⟨_, rfl, Nat.eq_of_beq_eq_true hc.1, Nat.eq_of_beq_eq_true hc.2, trivial⟩
              · cases h
            · rename_i hfull
              rw [if_neg hfull]
              split at h
              · rename_i hc
                cases h
                exact ⟨_, rfl, Nat.le_of_ble_eq_true hc, trivial⟩
              · cases h
          · cases h
        · cases h
      · cases h
    · split at h
      · rename_i h1 h2
        simp only [h1, h2]
        split at h
        · rename_i hb
          cases h
          rw [if_pos hb]
          exact ⟨_, rfl, trivial⟩
        · cases h
      · cases h
    · cases h
/-- hand's own order: what hand0 does not take, frz may. -/
def handC (tc : List (Nat × TI)) (H : List (Nat × Blk)) (lent : List (Nat × Bool)) (t : TypeId) (x : V) : Option V :=
  match hand0 tc H lent t x with
  | some _ => hand0C tc H lent t x
  | none => frzC H lent 4 x
theorem handC_ok {tc : List (Nat × TI)} {H : List (Nat × Blk)} {lent : List (Nat × Bool)} {t : TypeId} {x y : V} (h : handC tc H lent t x = some y) : ∃ o, hand tc H lent t x = some (o, y) ∧ AllP o := by
  unfold handC at h
  unfold hand
  cases h0 : hand0 tc H lent t x with
  | some r =>
    rw [h0] at h
    obtain ⟨o, h1, h2⟩ := hand0C_ok h
    rw [h0] at h1
    cases h1
    exact ⟨o, rfl, h2⟩
  | none =>
    rw [h0] at h
    exact frzC_ok 4 x y h
def handsC (tc : List (Nat × TI)) (H : List (Nat × Blk)) (lent : List (Nat × Bool)) : List TypeId → List V → Option (List V)
  | [], [] => some []
  | t :: ts, x :: xs => match handC tc H lent t x, handsC tc H lent ts xs with
    | some y, some ys => some (y :: ys)
    | _, _ => none
  | _, _ => none
theorem handsC_ok {tc : List (Nat × TI)} {H : List (Nat × Blk)} {lent : List (Nat × Bool)} : ∀ {ts : List TypeId} {xs ys : List V}, handsC tc H lent ts xs = some ys → ∃ o, hands tc H lent ts xs = some (o, ys) ∧ AllP o
  | [], [], ys, h => by cases h; exact ⟨[], rfl, trivial⟩
  | [], _ :: _, _, h => by cases h
  | _ :: _, [], _, h => by cases h
  | t :: ts, x :: xs, ys, h => by
    unfold handsC at h
    split at h
    · rename_i y ys' hy hys
      cases h
      obtain ⟨o1, h1, h2⟩ := handC_ok hy
      obtain ⟨o2, h3, h4⟩ := handsC_ok hys
      exact ⟨o1 ++ o2, by simp only [hands, h1, h3], AllP.append.2 ⟨h2, h4⟩⟩
    · cases h

/-! ### Which own blocks a value leads to -/
mutual
def idsV : V → List Nat
  | .ptr id _ => [id]
  | .sl id _ _ => [id]
  | .mp id => [id]
  | .agg false cs => idsL cs
  | .tup cs => idsL cs
  | .clo _ a b => idsL a ++ idsL b
  | _ => []
  termination_by structural x => x
def idsL : List V → List Nat
  | [] => []
  | x :: r => idsV x ++ idsL r
  termination_by structural x => x
end
def blkIds (H : List (Nat × Blk)) (i : Nat) : List Nat := match lk H i with
  | some b => if b.flat then [] else idsL b.cells
  | none => []
/-- All that is reached from here, in the order in which it is met. -/
def reach (H : List (Nat × Blk)) : Nat → List Nat → List Nat → List Nat
  | 0, _, acc => acc
  | _, [], acc => acc
  | n + 1, x :: todo, acc => if acc.contains x then reach H n todo acc else reach H n (blkIds H x ++ todo) (acc ++ [x])

/-! ### A call -/
abbrev CallF := FuncId → List (Nat × Blk) → List V → Option (List (Nat × Blk) × V)
def CallF.Ok (P : Program) (call : CallF) : Prop := ∀ f Hin ys Hout r, call f Hin ys = some (Hout, r) → Con P f Hin ys Hout r
def offOf : List V → Nat → Bool
  | [], _ => true
  | .sl i off _ :: r, id => (if Nat.beq i id then Nat.beq off 0 else true) && offOf r id
  | _ :: r, id => offOf r id
def lentIn (H : List (Nat × Blk)) (vs : List V) : List Nat → List (Nat × Bool)
  | [] => []
  | id :: r => (id, match lk H id with | some b => b.bld.isSome && offOf vs id | none => true) :: lentIn H vs r
def crC (call : CallF) (tc : List (Nat × TI)) (H : List (Nat × Blk)) (rd : Operand → Option V) (o : Oper) : Option CR :=
  match o.op with
  | .call { callee := .value y, args := xs, argTypes := ts } => match (rd y).bind evFn, rds rd xs.toList with
    | some f, some vs =>
      let lent := lentIn H vs (reach H 500 (idsL vs) [])
      match handsC tc H lent ts.toList vs with
      | some ys => match call f [] ys with
        | some (Hout, r) => if lent.isEmpty || (voB r && vohB Hout) then some ⟨r, Hout, lent⟩ else none
        | none => none
      | none => none
    | _, _ => none
  | _ => none
theorem crC_ok {P : Program} {call : CallF} (hc : call.Ok P) {tc : List (Nat × TI)} {H : List (Nat × Blk)} {rd : Operand → Option V} {rdc : Bool → Tmp → Operand → Option V} {o : Oper} {c : CR} {r : R}
    (h : crC call tc H rd o = some c) (hs : stepV P tc H none (some c) rd rdc o = some r) : AllP r.obl := by
  obtain ⟨dst, op, type, pos, after, guard⟩ := o
  unfold crC at h
  dsimp only at h
  split at h
  case h_2 => cases h
  rename_i y xs ts hop
  cases hop
  split at h
  case h_2 => cases h
  rename_i f vs hf hvs
  split at h
  case h_2 => cases h
  rename_i ys hys
  split at h
  case h_2 => cases h
  rename_i Hout r0 hcall
  split at h
  case isFalse => cases h
  rename_i hvo
  cases h
  obtain ⟨g, hg, hf⟩ := Option.bind_eq_some_iff.1 hf
  simp only [stepV, hg, hf, hvs, Option.bind_some] at hs
  unfold evCall at hs
  obtain ⟨o1, h1, h2⟩ := handsC_ok hys
  simp only [h1] at hs
  cases hs
  refine AllP.append.2 ⟨?_, hc _ _ _ _ _ hcall, h2⟩
  split
  · trivial
  · rename_i hne
    rcases Bool.or_eq_true_iff.1 hvo with e | e
    · exact absurd e hne
    · simp only [Bool.and_eq_true] at e
      exact ⟨vo_of (voB_ok _ e.1), vohB_ok _ e.2, trivial⟩
/-- A text made of bytes. -/
def cvC (rd : Operand → Option V) (o : Oper) : Bool := match o.op with
  | .convert _ _ x => match rd x with
    | some (.vs cs n) => Nat.ble n cs.length && allU8 (cs.take n)
    | _ => false
  | _ => false
theorem cvC_ok {P : Program} {tc : List (Nat × TI)} {H : List (Nat × Blk)} {cr : Option CR} {rd : Operand → Option V} {rdc : Bool → Tmp → Operand → Option V} {o : Oper} {r : R}
    (h : cvC rd o = true) (hs : stepV P tc H none cr rd rdc o = some r) : AllP r.obl := by
  obtain ⟨dst, op, type, pos, after, guard⟩ := o
  unfold cvC at h
  dsimp only at h
  split at h
  case h_2 => cases h
  rename_i s d x
  split at h
  case h_2 => cases h
  rename_i cs n hx
  simp only [Bool.and_eq_true, Nat.ble_eq] at h
  simp only [stepV, hx, Option.bind_some, fin] at hs
  split at hs
  case h_2 => cases hs
  rename_i o v he
  cases hs
  unfold evConv at he
  split at he
  · rename_i e
    cases e
  · rename_i e
    cases e
  · rename_i e
    cases e
    split at he
    · cases he
      exact ⟨h.1, h.2, trivial⟩
    · cases he
  · cases he
def isCallV : Op → Bool
  | .call { callee := .value _, .. } => true
  | _ => false
/-! ### One operation that writes nothing -/
def condsB (tm : List (Nat × T)) : List (Nat × Bool) → Option Bool
  | [] => some true
  | (d, w) :: r => match lk tm d, condsB tm r with
    | some (.plain (.val (.bool b))), some q => some ((b == w) && q)
    | some (.gd _ _ (.val (.bool b))), some q => some ((b == w) && q)
    | _, _ => none
theorem condsB_false {tm : List (Nat × T)} : ∀ {ch : List (Nat × Bool)} {cs : List Prop}, condsOf tm ch = some cs → condsB tm ch = some false → ¬AllP cs
  | [], cs, _, h => by cases h
  | (d, w) :: r, cs, h, hb => by
    unfold condsOf at h
    unfold condsB at hb
    split at h
    · rename_i b ps h1 h2
      cases h
      cases hq : condsB tm r with
      | none => simp [h1, hq] at hb
      | some q =>
        simp only [h1, hq, Option.some.injEq, Bool.and_eq_false_iff] at hb
        rintro ⟨e, hps⟩
        rcases hb with hb | hb
        · subst e
          simp at hb
        · subst hb
          exact condsB_false h2 hq hps
    · rename_i b ps h1 h2
      cases h
      cases hq : condsB tm r with
      | none => simp [h1, hq] at hb
      | some q =>
        simp only [h1, hq, Option.some.injEq, Bool.and_eq_false_iff] at hb
        rintro ⟨e, hps⟩
        rcases hb with hb | hb
        · subst e
          simp at hb
        · subst hb
          exact condsB_false h2 hq hps
    · cases h
theorem imp_of {p : Prop} (h : p) : ∀ cs : List Prop, imp cs p
  | [] => h
  | _ :: r => fun _ => imp_of h r
theorem imp_no : ∀ {cs : List Prop}, ¬AllP cs → imp cs False
  | [], h => h trivial
  | _ :: _, h => fun hc => imp_no (fun hr => h ⟨hc, hr⟩)
/-- What it is told: nothing, a call's result, or that it is never wanted. -/
def hintC (call : CallF) (C : Cx) (ops : List Oper) (s : St) (o : Oper) : Option Hint :=
  match o.guard with
  | none => match isCallV o.op with
    | true => (crC call C.tc s.H (rdA s.tm []) o).map fun c => ⟨none, some c⟩
    | false => some ⟨none, none⟩
  | some (j, want) => match (ops[j]?).bind (·.dst) with
    | some d => match condsB s.tm (chainOf s.tm 20 d want) with
      | some true => match isCallV o.op with
        | true => (crC call C.tc s.H (rdA s.tm (chainOf s.tm 20 d want)) o).map fun c => ⟨none, some c⟩
        | false => some ⟨none, none⟩
      | some false => some ⟨some (.tup [.val (.bool false)]), none⟩
      | none => none
    | none => none
def okOne (C : Cx) (ops : List Oper) (s : St) (o : Oper) (r : Out1) : Bool :=
  match o.guard with
  | none => isCallV o.op || (r.obl.isEmpty || cvC (rdA s.tm []) o)
  | some (j, want) => match (ops[j]?).bind (·.dst) with
    | some d => match condsB s.tm (chainOf s.tm 20 d want) with
      | some false => true
      | _ => isCallV o.op || (r.obl.isEmpty || cvC (rdA s.tm (chainOf s.tm 20 d want)) o)
    | none => false
theorem symOf_one (i : Nat) (h : Hint) : symOf [(i, h)] i = h.sym := by simp [symOf, lk]
theorem crOf_one (i : Nat) (h : Hint) : crOf [(i, h)] i = h.cr := by simp [crOf, lk]
theorem empty_all {os : List Prop} (h : os.isEmpty = true) : AllP os := by
  cases os with
  | nil => trivial
  | cons _ _ => cases h
theorem step1C_ok {call : CallF} {C : Cx} (hc : call.Ok C.P) {ops : List Oper} {i : Nat} {s : St} {o : Oper} {h : Hint} {r : Out1} (hh : hintC call C ops s o = some h) (hs : step1 C ops [(i, h)] i s o = some r) (hok : okOne C ops s o r = true) : AllP r.obl := by
  unfold hintC at hh
  unfold step1 at hs
  unfold okOne at hok
  cases hg : o.guard with
  | none =>
    simp only [hg] at hh hs hok
    simp only [symOf_one, crOf_one] at hs
    split at hs
    case h_2 => cases hs
    rename_i r0 hst
    cases hs
    cases hcv : isCallV o.op with
    | true =>
      simp only [hcv, Option.map_eq_some_iff] at hh
      obtain ⟨c, hcr, rfl⟩ := hh
      exact crC_ok hc hcr hst
    | false =>
      simp only [hcv] at hh
      cases hh
      rw [hcv, Bool.false_or, Bool.or_eq_true] at hok
      rcases hok with h1 | h1
      · exact empty_all h1
      · exact cvC_ok h1 hst
  | some jw =>
    obtain ⟨j, want⟩ := jw
    simp only [hg] at hh hs hok
    split at hh
    case h_2 => cases hh
    rename_i d hd
    simp only [hd] at hs hok
    split at hh
    · rename_i hcb
      simp only [hcb] at hok
      have fin : ∀ {cr : Option CR} {obl : List Prop} {v : V} {new : List (Nat × Blk)} {cs : List Prop}, stepV C.P C.tc s.H none cr (rdA s.tm (chainOf s.tm 20 d want)) (rdC s.tm (chainOf s.tm 20 d want)) o = some ⟨obl, v, new⟩ → AllP obl → r = ⟨if obl.isEmpty then [] else [imp cs (AllP obl)], .gd d want v, new⟩ → AllP r.obl := fun _ ha e => by
        subst e
        dsimp only
        split
        · trivial
        · exact ⟨imp_of ha _, trivial⟩
      cases hcv : isCallV o.op with
      | true =>
        simp only [hcv, Option.map_eq_some_iff] at hh
        obtain ⟨c, hcr, rfl⟩ := hh
        simp only [symOf_one, crOf_one] at hs
        split at hs
        case h_2 => cases hs
        rename_i cs obl v new hcs hst
        cases hs
        exact fin (cs := cs) hst (crC_ok hc hcr hst) rfl
      | false =>
        simp only [hcv] at hh
        cases hh
        simp only [symOf_one, crOf_one] at hs
        split at hs
        case h_2 => cases hs
        rename_i cs obl v new hcs hst
        cases hs
        rw [hcv, Bool.false_or, Bool.or_eq_true] at hok
        rcases hok with h1 | h1
        · exact empty_all h1
        · exact fin (cs := cs) hst (cvC_ok h1 hst) rfl
    · rename_i hcb
      cases hh
      simp only [symOf_one] at hs
      split at hs
      case h_2 => cases hs
      rename_i cs hcs
      cases hs
      exact ⟨imp_no (condsB_false hcs hcb), trivial⟩
    · cases hh
end Go.Ab
