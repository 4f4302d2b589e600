/- Operations one behind another; the order that is drawn. -/
import Derived.Test.YtcekfepgdfcinaaGreatDoorAb8
import Derived.IntWalk
import Derived.MapKept
import Derived.Test.YtcekfepgdfcinaaGreatDoorWr
set_option linter.unusedSimpArgs false
set_option linter.unusedVariables false
namespace Go.Ab
open Go.RowKit

/-- It stands for the same value wherever memory lies. -/
def VO (x : V) : Prop := ∀ (I : Nat → Prop) (w : World) (I' : Nat → Prop) (w' : World) (φ : Phi) (u : Value), Rel I w φ x u → Rel I' w' φ x u
theorem VO.val (v : Value) : VO (.val v) := fun _ _ _ _ _ _ h => by cases h with | val h => exact .val h
theorem VO.ptr (i f : Nat) : VO (.ptr i f) := fun _ _ _ _ _ _ h => by cases h with | ptr h => exact .ptr h
theorem VO.sl (i f n : Nat) : VO (.sl i f n) := fun _ _ _ _ _ _ h => by
  cases h with
  | sl a b c d => exact .sl a b c d
  | slnil h => exact .slnil h
theorem VO.mp (i : Nat) : VO (.mp i) := fun _ _ _ _ _ _ h => by cases h with | mp h => exact .mp h
theorem VO.vs_nil (n : Nat) : VO (.vs [] n) := fun _ _ _ _ _ _ h => by
  cases h with
  | vs a b c d e f g =>
    rename_i us _ _
    obtain rfl : us = [] := List.eq_nil_of_length_eq_zero a
    exact .vs a (fun i h => by simp at h) c (fun j u hu => by simp at hu) e f g
theorem VO.agg {fl : Bool} {cs : List V} (h : ∀ x ∈ cs, VO x) : VO (.agg fl cs) := fun _ _ _ _ _ _ k => by
  cases k with
  | agg a b c => exact .agg a (fun i hi => h _ (List.getElem_mem hi) _ _ _ _ _ _ (b i hi)) c
theorem VO.tup {cs : List V} (h : ∀ x ∈ cs, VO x) : VO (.tup cs) := fun _ _ _ _ _ _ k => by
  cases k with
  | tup a b => exact .tup a (fun i hi => h _ (List.getElem_mem hi) _ _ _ _ _ _ (b i hi))
def VOL (cs : List V) : Prop := ∀ x ∈ cs, VO x
theorem VOL.nil : VOL [] := fun x h => by simp at h
theorem VOL.cons {x : V} {r : List V} (h : VO x) (k : VOL r) : VOL (x :: r) := fun y hy => by
  rcases List.mem_cons.1 hy with rfl | hy
  · exact h
  · exact k y hy
def VOH : List (Nat × Blk) → Prop
  | [] => True
  | (_, b) :: r => VOL b.cells ∧ VOH r

/-- What is told of a call: its result, the new blocks; which own slices are lent. -/
structure CR where
  r : V
  Hout : List (Nat × Blk)
  lent : List (Nat × Bool)

def frzL (f : V → Option (List Prop × V)) : List V → Option (List Prop × List V)
  | [] => some ([], [])
  | x :: r => match f x, frzL f r with
    | some (o, y), some (o', ys) => some (o ++ o', y :: ys)
    | _, _ => none
/-- A value whose own slices, and theirs, are lent. -/
def frz (H : List (Nat × Blk)) (lent : List (Nat × Bool)) : Nat → V → Option (List Prop × V)
  | 0, _ => none
  | n + 1, x => if flat x then some ([], x) else match x with
    | .sl id off m => match lk lent id, lkC H id with
      | some true, some blk => match (if blk.flat then some ([], blk.cells) else frzL (frz H lent n) blk.cells) with
        | some (o, cs) => some ((off = 0) :: o, .vs cs m)
        | none => none
      | some false, some blk => if blk.flat then some ([off + m ≤ blk.cells.length], .vs ((blk.cells.drop off).take m) m) else none
      | _, _ => none
    | .agg false cs => match frzL (frz H lent n) cs with
      | some (o, ds) => some (o, .agg true ds)
      | none => none
    | .ptr id off => match lk lent id, lkC H id with
      | some _, some blk => match (if blk.flat then some ([], blk.cells) else frzL (frz H lent n) blk.cells) with
        | some (o, cs) => some (o, .vp (dropC off cs))
        | none => none
      | _, _ => none
    | .mp _ => some ([], .top)
    | _ => none
/-- A value as it is handed over. -/
def hand0 (tc : List (Nat × TI)) (H : List (Nat × Blk)) (lent : List (Nat × Bool)) (t : TypeId) (x : V) : Option (List Prop × V) :=
  if flat x then some ([], x) else
  match x with
  | .sl id off n => match lk lent id, lkC H id, lk tc t with
    | some full, some blk, some ⟨.slice e, _, _, _, _⟩ => match lk tc e with
      | some ei => if blk.flat then
          if full then some ([off = 0, n * ei.size = blk.cells.length], .vs blk.cells n)
          else some ([off + n * ei.size ≤ blk.cells.length], .vs ((blk.cells.drop off).take (n * ei.size)) n)
        else none
      | none => none
    | _, _, _ => none
  | .ptr id off => match lk lent id, lkC H id with
    | some _, some blk => if blk.flat then some ([], .vp (dropC off blk.cells)) else none
    | _, _ => none
  | _ => none
def hand (tc : List (Nat × TI)) (H : List (Nat × Blk)) (lent : List (Nat × Bool)) (t : TypeId) (x : V) : Option (List Prop × V) :=
  match hand0 tc H lent t x with
  | some r => some r
  | none => frz H lent 4 x
def hands (tc : List (Nat × TI)) (H : List (Nat × Blk)) (lent : List (Nat × Bool)) : List TypeId → List V → Option (List Prop × List V)
  | [], [] => some ([], [])
  | t :: ts, x :: xs => match hand tc H lent t x, hands tc H lent ts xs with
    | some (o, y), some (o', ys) => some (o ++ o', y :: ys)
    | _, _ => none
  | _, _ => none

section
variable {P : Program} {w w' : World} {φ φ' : Phi} {X : Nat → Prop} {tc : List (Nat × TI)} {H H2 new : List (Nat × Blk)} {sym : Bool} {o : List Prop} {v x y : V} {u ux uy : Value}

/-- What the callee may not touch, and what may not be handed back. -/
def Xc (φ : Phi) (X : Nat → Prop) (lent : List (Nat × Bool)) (b : Nat) : Prop := X b ∨ ∃ id c, φ id = .at b c ∧ lk lent id = none

theorem imm_xc {lent : List (Nat × Bool)} {b : Nat} (h : Imm φ X w b) : Imm Phi.emp (Xc φ X lent) w b :=
  ⟨h.1, fun id c h => (by cases h), fun hx => hx.elim h.2.2 (fun ⟨id, c, hs, _⟩ => h.2.1 id c hs)⟩

theorem hand0_ok (hφ : Phi.ok φ X w H2) (hH : HR (Imm φ X w) w φ H) {lent : List (Nat × Bool)} {t : TypeId} (h : hand0 tc H lent t x = some (o, y)) (ho : AllP o) (hx : Rel (Imm φ X w) w φ x u) :
    Rel (Imm Phi.emp (Xc φ X lent) w) w Phi.emp y u := by
  unfold hand0 at h
  split at h
  · rename_i hf
    cases h
    exact (hx.emp hf).mono (fun b hb => ⟨imm_xc hb, rfl⟩) _ (fun _ _ _ h => h) (fun _ h => h)
  · split at h
    · rename_i id off n hf
      split at h
      · rename_i full blk e _ _ _ _ hl hb hti
        split at h
        · rename_i ei hei
          split at h
          · rename_i hfl
            cases hx with
            | sl hs h1 h2 h3 =>
              rename_i cap b c
              have hblk := slot_blk hH hb hs
              have hm := mem_blk hblk
              rw [hfl] at hm
              have hB : b < w.heap.size := hφ.lt _ _ _ hs
              have himm : Imm Phi.emp (Xc φ X lent) w b := ⟨hB, fun id c h => (by cases h), fun hx => hx.elim (hφ.free _ _ _ hs) (fun ⟨id', c', hs', hl'⟩ => by
                have := hφ.inj _ _ _ _ _ hs hs'
                subst this
                rw [hl] at hl'
                cases hl')⟩
              cases hm with
              | mk hr hc hsp =>
                rename_i us
                have hr' : RelL (Imm Phi.emp (Xc φ X lent) w) w Phi.emp blk.cells us := hr.mono (fun b hb => ⟨imm_xc hb, rfl⟩) (fun _ _ _ h => h) (fun _ h => h)
                split at h
                · cases h
                  obtain ⟨rfl, h5, _⟩ := ho
                  refine .vs hr'.1 hr'.2.1 hr'.2.2 (fun j z hz => ⟨b, 0, rfl, himm, ?_⟩) (fun e => by cases e) h1 h2
                  have := hc j z hz
                  simpa using this
                · cases h
                  have hd := (hr'.drop off).take (n * ei.size)
                  refine .vs hd.1 hd.2.1 hd.2.2 (fun j z hz => ⟨b, off, rfl, himm, ?_⟩) (fun e => by cases e) h1 h2
                  rw [List.getElem?_take] at hz
                  split at hz
                  · rw [List.getElem?_drop] at hz
                    have := hc _ z hz
                    simpa using this
                  · cases hz
            | slnil hs =>
              have hblk := hH id blk (lkC_lk hb).1
              rw [hs] at hblk
              have hc : blk.cells = [] := hblk.1
              split at h
              · cases h
                rw [hc]
                exact Rel.vs (us := []) rfl (fun i h => by simp at h) (fun u h => by simp at h) (fun j u hu => by simp at hu) (fun _ => rfl) (Nat.le_refl _) (by omega)
              · cases h
                rw [hc]
                simp only [List.drop_nil, List.take_nil]
                exact Rel.vs (us := []) rfl (fun i h => by simp at h) (fun u h => by simp at h) (fun j u hu => by simp at hu) (fun _ => rfl) (Nat.le_refl _) (by omega)
          · cases h
        · cases h
      · cases h
    · rename_i id off hf
      split at h
      · rename_i full blk hl hb
        split at h
        · rename_i hfl
          cases h
          cases hx with
          | ptr hs =>
            rename_i b c
            have hblk := slot_blk hH hb hs
            have hm := mem_blk hblk
            rw [hfl] at hm
            have himm : Imm Phi.emp (Xc φ X lent) w b := ⟨hφ.lt _ _ _ hs, fun id c h => (by cases h), fun hx => hx.elim (hφ.free _ _ _ hs) (fun ⟨id', c', hs', hl'⟩ => by
              have := hφ.inj _ _ _ _ _ hs hs'
              subst this
              rw [hl] at hl'
              cases hl')⟩
            have hmo := Mem.drop hm off
            rw [dropC_eq]
            cases hmo with
            | mk hr hc hsp =>
              rename_i us
              have hr' : RelL (Imm Phi.emp (Xc φ X lent) w) w Phi.emp (blk.cells.drop off) us := hr.mono (fun b hb => ⟨imm_xc hb, rfl⟩) (fun _ _ _ h => h) (fun _ h => h)
              refine .vp hr'.1 hr'.2.1 hr'.2.2 (fun j z hz => ⟨b, off, rfl, himm, ?_⟩)
              have := hc j z hz
              simpa using this
        · cases h
      · cases h
    · cases h
theorem frzL_ok {I I' : Nat → Prop} {φ' : Phi} {f : V → Option (List Prop × V)} (hf : ∀ x u o y, f x = some (o, y) → AllP o → Rel I w φ x u → Rel I' w φ' y u) : ∀ {cs ys : List V} {us : List Value} {o : List Prop}, frzL f cs = some (o, ys) → AllP o → RelL I w φ cs us → RelL I' w φ' ys us
  | [], ys, us, o, h, _, hr => by
    cases h
    have : us = [] := List.eq_nil_of_length_eq_zero (by simpa using hr.1)
    subst this
    exact RelL.nil
  | x :: r, ys, us, o, h, ho, hr => by
    unfold frzL at h
    split at h
    · rename_i o1 y o2 ys' hy hys
      cases h
      obtain ⟨p1, p2⟩ := AllP.append.1 ho
      cases us with
      | nil => have := hr.1; simp at this
      | cons u us =>
        have h0 := hr.2.1 0 (by simp)
        have ht : RelL I w φ r us := by
          have := hr.drop 1
          simpa using this
        exact RelL.cons (hf _ _ _ _ hy p1 (by simpa using h0)) (hr.2.2 u (by simp)) (frzL_ok hf hys p2 ht)
    · cases h
theorem frz_ok (hφ : Phi.ok φ X w H2) (hH : HR (Imm φ X w) w φ H) {lent : List (Nat × Bool)} : ∀ (n : Nat) (x : V) (u : Value) (o : List Prop) (y : V), frz H lent n x = some (o, y) → AllP o → Rel (Imm φ X w) w φ x u →
    Rel (Imm Phi.emp (Xc φ X lent) w) w Phi.emp y u
  | 0, _, _, _, _, h, _, _ => by cases h
  | n + 1, x, u, o, y, h, ho, hx => by
    unfold frz at h
    split at h
    · rename_i hf
      cases h
      exact (hx.emp hf).mono (fun b hb => ⟨imm_xc hb, rfl⟩) _ (fun _ _ _ h => h) (fun _ h => h)
    · split at h
      · rename_i id off m hf
        split at h
        · rename_i blk hl hb
          split at h
          · rename_i o' cs hcs
            cases h
            obtain ⟨rfl, ho'⟩ := ho
            -- its cells, frozen
            have hcell : ∀ {us : List Value}, RelL (Imm φ X w) w (bFlat φ blk.flat) blk.cells us → RelL (Imm Phi.emp (Xc φ X lent) w) w Phi.emp cs us := fun {us} hr => by
              cases hfl : blk.flat with
              | true =>
                rw [hfl] at hr hcs
                simp only [if_true, Option.some.injEq, Prod.mk.injEq] at hcs
                obtain ⟨_, rfl⟩ := hcs
                exact hr.mono (fun b hb => ⟨imm_xc hb, rfl⟩) (fun _ _ _ h => h) (fun _ h => h)
              | false =>
                rw [hfl] at hr hcs
                simp only [Bool.false_eq_true, if_false] at hcs
                exact frzL_ok (fun x u o y => frz_ok hφ hH n x u o y) hcs ho' hr
            cases hx with
            | sl hs h1 h2 h3 =>
              rename_i cap b c
              have hblk := slot_blk hH hb hs
              have hm := mem_blk hblk
              have hB : b < w.heap.size := hφ.lt _ _ _ hs
              have himm : Imm Phi.emp (Xc φ X lent) w b := ⟨hB, fun id c h => (by cases h), fun hx => hx.elim (hφ.free _ _ _ hs) (fun ⟨id', c', hs', hl'⟩ => by
                have := hφ.inj _ _ _ _ _ hs hs'
                subst this
                rw [hl] at hl'
                cases hl')⟩
              cases hm with
              | mk hr hc hsp =>
                rename_i us
                have hr' := hcell hr
                refine .vs hr'.1 hr'.2.1 hr'.2.2 (fun j z hz => ⟨b, 0, rfl, himm, ?_⟩) (fun e => by cases e) h1 h2
                have := hc j z hz
                simpa using this
            | slnil hs =>
              have hblk := hH id blk (lkC_lk hb).1
              rw [hs] at hblk
              have hc : blk.cells = [] := hblk.1
              have hr' := hcell (us := []) (by rw [hc]; exact RelL.nil)
              have hcs0 : cs = [] := List.eq_nil_of_length_eq_zero (by simpa using hr'.1.symm)
              rw [hcs0]
              exact Rel.vs (us := []) rfl (fun i h => by simp at h) (fun u h => by simp at h) (fun j u hu => by simp at hu) (fun _ => rfl) (Nat.le_refl _) (by omega)
          · cases h
        · rename_i blk hl hb
          split at h
          · rename_i hfl
            cases h
            obtain ⟨hle, _⟩ := ho
            cases hx with
            | sl hs h1 h2 h3 =>
              rename_i cap b c
              have hblk := slot_blk hH hb hs
              have hm := mem_blk hblk
              rw [hfl] at hm
              have hB : b < w.heap.size := hφ.lt _ _ _ hs
              have himm : Imm Phi.emp (Xc φ X lent) w b := ⟨hB, fun id c h => (by cases h), fun hx => hx.elim (hφ.free _ _ _ hs) (fun ⟨id', c', hs', hl'⟩ => by
                have := hφ.inj _ _ _ _ _ hs hs'
                subst this
                rw [hl] at hl'
                cases hl')⟩
              cases hm with
              | mk hr hc hsp =>
                rename_i us
                have hr' : RelL (Imm Phi.emp (Xc φ X lent) w) w Phi.emp blk.cells us := hr.mono (fun b hb => ⟨imm_xc hb, rfl⟩) (fun _ _ _ h => h) (fun _ h => h)
                have hd := (hr'.drop off).take m
                refine .vs hd.1 hd.2.1 hd.2.2 (fun j z hz => ⟨b, off, rfl, himm, ?_⟩) (fun e => by cases e) h1 h2
                rw [List.getElem?_take] at hz
                split at hz
                · rw [List.getElem?_drop] at hz
                  have := hc _ z hz
                  simpa using this
                · cases hz
            | slnil hs =>
              simp only [List.take_zero]
              exact Rel.vs (us := []) rfl (fun i h => by simp at h) (fun u h => by simp at h) (fun j u hu => by simp at hu) (fun _ => rfl) (Nat.le_refl _) (by omega)
          · cases h
        · cases h
      · rename_i cs hf
        split at h
        · rename_i o' ds hds
          cases h
          cases hx with
          | agg hl hr h1 =>
            rename_i us
            have hrl : RelL (Imm φ X w) w φ cs us.toList := ⟨by simpa using hl, by simpa using hr, h1⟩
            have := frzL_ok (fun x u o y => frz_ok hφ hH n x u o y) hds ho hrl
            exact .agg (by simpa using this.1) (by simpa using this.2.1) this.2.2
        · cases h
      · rename_i id off hf
        split at h
        · rename_i full blk hl hb
          split at h
          · rename_i o' cs hcs
            cases h
            have hcell : ∀ {us : List Value}, RelL (Imm φ X w) w (bFlat φ blk.flat) blk.cells us → RelL (Imm Phi.emp (Xc φ X lent) w) w Phi.emp cs us := fun {us} hr => by
              cases hfl : blk.flat with
              | true =>
                rw [hfl] at hr hcs
                simp only [if_true, Option.some.injEq, Prod.mk.injEq] at hcs
                obtain ⟨_, rfl⟩ := hcs
                exact hr.mono (fun b hb => ⟨imm_xc hb, rfl⟩) (fun _ _ _ h => h) (fun _ h => h)
              | false =>
                rw [hfl] at hr hcs
                simp only [Bool.false_eq_true, if_false] at hcs
                exact frzL_ok (fun x u o y => frz_ok hφ hH n x u o y) hcs ho hr
            cases hx with
            | ptr hs =>
              rename_i b c
              have hblk := slot_blk hH hb hs
              have hm := mem_blk hblk
              have himm : Imm Phi.emp (Xc φ X lent) w b := ⟨hφ.lt _ _ _ hs, fun id c h => (by cases h), fun hx => hx.elim (hφ.free _ _ _ hs) (fun ⟨id', c', hs', hl'⟩ => by
                have := hφ.inj _ _ _ _ _ hs hs'
                subst this
                rw [hl] at hl'
                cases hl')⟩
              rw [dropC_eq]
              cases hm with
              | mk hr hc hsp =>
                rename_i us
                have hd := (hcell hr).drop off
                refine .vp hd.1 hd.2.1 hd.2.2 (fun j z hz => ⟨b, off, rfl, himm, ?_⟩)
                rw [List.getElem?_drop] at hz
                have := hc _ z hz
                simpa using this
          · cases h
        · cases h
      · cases h
        exact .top
      · cases h
theorem hand_ok (hφ : Phi.ok φ X w H2) (hH : HR (Imm φ X w) w φ H) {lent : List (Nat × Bool)} {t : TypeId} (h : hand tc H lent t x = some (o, y)) (ho : AllP o) (hx : Rel (Imm φ X w) w φ x u) :
    Rel (Imm Phi.emp (Xc φ X lent) w) w Phi.emp y u := by
  unfold hand at h
  split at h
  · rename_i r hr
    cases h
    exact hand0_ok hφ hH hr ho hx
  · exact frz_ok hφ hH 4 x u o y h ho hx
theorem hands_ok (hφ : Phi.ok φ X w H2) (hH : HR (Imm φ X w) w φ H) {lent : List (Nat × Bool)} : ∀ {ts : List TypeId} {xs ys : List V} {us : List Value} {o : List Prop}, hands tc H lent ts xs = some (o, ys) → AllP o → Rels (Imm φ X w) w φ xs us →
    Rels (Imm Phi.emp (Xc φ X lent) w) w Phi.emp ys us
  | [], [], ys, us, o, h, _, hr => by
    cases h
    cases hr
    exact .nil
  | t :: ts, x :: xs, ys, us, o, h, ho, hr => by
    cases hr with
    | cons h1 h2 =>
      unfold hands at h
      split at h
      · rename_i o1 y o2 ys' hy hys
        cases h
        obtain ⟨p1, p2⟩ := AllP.append.1 ho
        exact .cons (hand_ok hφ hH hy p1 h1) (hands_ok hφ hH hys p2 h2)
      · cases h
  | [], _ :: _, _, _, _, h, _, _ => by cases h
  | _ :: _, [], _, _, _, h, _, _ => by cases h

/-- How far the callee's blocks are renumbered. -/
def base (d : Nat) : Nat := 10000 * (d + 1)
/-- The result lies in new memory, all of it. -/
def ConN (P : Program) (f : FuncId) (args : List V) (r : V) : Prop :=
  FnOk P f ∧ ∀ (X : Nat → Prop) (w : World) (us : List Value), (∀ b, X b → b < w.heap.size) → Rels (Imm Phi.emp X w) w Phi.emp args us → GOk (Imm Phi.emp X w) w →
    Calls P f us.toArray w fun e w' => ∃ u, e = .returned u ∧ Frm Phi.emp w w' ∧ Rel (fun b => w.heap.size ≤ b ∧ b < w'.heap.size) w' Phi.emp r u
/-- What is handed back leads to nothing that was lent. -/
def VOr (P : Program) (f : FuncId) (ys : List V) (Hl : List (Nat × Blk)) (r : V) : Prop := VO r ∨ (Hl = [] ∧ ConN P f ys r)
def vo (P : Program) (f : FuncId) (ys : List V) (Hl : List (Nat × Blk)) : V → Prop
  | .vs cs n => VOr P f ys Hl (.vs cs n)
  | x => VO x
theorem vo_or {P : Program} {f : FuncId} {ys : List V} {Hl : List (Nat × Blk)} {r : V} (h : vo P f ys Hl r) : VOr P f ys Hl r := by
  cases r <;> first | exact h | exact .inl h
theorem vo_of {P : Program} {f : FuncId} {ys : List V} {Hl : List (Nat × Blk)} {r : V} (h : VO r) : vo P f ys Hl r := by
  cases r <;> first | exact h | exact .inl h
def evCall (P : Program) (tc : List (Nat × TI)) (H : List (Nat × Blk)) (d : Nat) (f : FuncId) (ts : List TypeId) (xs : List V) (c : CR) : Option R :=
  match hands tc H c.lent ts xs with
  | some (o, ys) => some ⟨(if c.lent.isEmpty then [] else [vo P f ys c.Hout c.r, VOH c.Hout]) ++ (Con P f [] ys c.Hout c.r :: o), ren (base d) c.r, renH (base d) c.Hout⟩
  | none => none

theorem VOH.get : ∀ {Hl : List (Nat × Blk)} {id : Nat} {b : Blk}, VOH Hl → lk Hl id = some b → VOL b.cells
  | [], _, _, _, h => by cases h
  | (i, b') :: r, id, b, hv, h => by
    simp only [lk] at h
    split at h
    · cases h
      exact hv.1
    · exact VOH.get hv.2 h
theorem VOL.rel {cs : List V} (h : VOL cs) {I I' : Nat → Prop} {us : List Value} (hr : RelL I w φ cs us) : RelL I' w φ cs us :=
  ⟨hr.1, fun i hi => h _ (List.getElem_mem hi) _ _ _ _ _ _ (hr.2.1 i hi), hr.2.2⟩
theorem VOL.blk {I I' : Nat → Prop} {s : Slot} {b : Blk} (h : VOL b.cells) (hr : BlkRel I w φ s b) : BlkRel I' w φ s b := by
  cases s with
  | none => trivial
  | nil => exact hr
  | «at» bb c => exact BlkRel.to hr (fun _ _ _ => rfl) (fun x hx u hu => h x hx _ _ _ _ _ _ hu)
theorem BlkRel.mono {I I' : Nat → Prop} {s : Slot} {b : Blk} (im : ∀ b, I b → I' b ∧ w'.heap[b]? = w.heap[b]?) (hw : ∀ b c, s = .at b c → w'.heap[b]? = w.heap[b]?) (ha : ∀ id b c, φ id = .at b c → φ' id = .at b c) (hn : ∀ id, φ id = .nil → φ' id = .nil)
    (hr : BlkRel I w φ s b) : BlkRel I' w' φ' s b := by
  cases s with
  | none => trivial
  | nil => exact hr
  | «at» bb c =>
    refine BlkRel.to hr (fun b' c' e => by cases e; exact hw bb c rfl) (fun x _ u hx => hx.mono im _ ?_ ?_)
    · cases b.flat
      · exact ha
      · exact fun _ _ _ h => h
    · cases b.flat
      · exact hn
      · exact fun _ h => h

theorem evCall_ok (hφ : Phi.ok φ X w H2) (hX : ∀ b, X b → b < w.heap.size) (hH : HR (Imm φ X w) w φ H) (hG : GOk (Imm φ X w) w) {d : Nat} {f : FuncId} {ts : List TypeId} {xs : List V} {c : CR} {r : R} (h : evCall P tc H d f ts xs c = some r) (ho : AllP r.obl)
    (hnew : ∀ id, lk r.new id ≠ none → φ id = .none) {op : Oper} {a : Act} {us : List Value} (hrun : (execOp a.eval op).run P w = (callFunc f us.toArray).run P w) (hx : Rels (Imm φ X w) w φ xs us) : OpSnd P op a w φ X r := by
  unfold evCall at h
  split at h
  · rename_i o ys hys
    cases h
    obtain ⟨ho1, ho2⟩ := AllP.append.1 ho
    obtain ⟨hcon, ho3⟩ := ho2
    obtain ⟨⟨fn, hf1, hf2, hf3⟩, hcon⟩ := hcon
    have hargs := hands_ok hφ hH hys ho3 hx
    intro Q K hK
    unfold Oper.wp
    rw [hrun]
    have hcf : (callFunc f us.toArray).run P w = .ok (.enter f us.toArray) w := by
      simp only [callFunc, Sem.run_bind, run_program, Result.andThen_ok, hf1, hf2, hf3, Bool.false_eq_true, if_false, Sem.run_pure]
    rw [hcf, Oper.upon_enter]
    have hXc : ∀ b, Xc φ X c.lent b → b < w.heap.size := fun b hb => hb.elim (hX b) (fun ⟨id, cc, hs, _⟩ => hφ.lt _ _ _ hs)
    have hemp : Phi.ok Phi.emp (Xc φ X c.lent) w [] := ⟨fun i j b c c' h => (by cases h), fun i b c h => (by cases h), fun i b c h => (by cases h), fun i _ => rfl⟩
    have hor : c.lent = [] ∨ VO c.r ∨ (c.Hout = [] ∧ ConN P f ys c.r) := by
      by_cases hl : c.lent = []
      · exact .inl hl
      · rw [if_neg (by simpa using hl)] at ho1
        exact .inr (vo_or ho1.1)
    have hor2 : (c.lent = [] ∨ VO c.r) ∨ (c.Hout = [] ∧ ConN P f ys c.r) := by
      rcases hor with h | h | h
      · exact .inl (.inl h)
      · exact .inl (.inr h)
      · exact .inr h
    clear hor
    rcases hor2 with hor | ⟨hH0, hcn⟩
    rotate_left
    · -- all that comes back is new
      refine (hcn.2 (Xc φ X c.lent) w us hXc hargs (hG.mono fun b hb => ⟨⟨hb.1, fun _ _ h => (by cases h), fun hx => hx.elim hb.2.2 (fun ⟨id, cc, hs, _⟩ => hb.2.1 _ _ hs)⟩, rfl⟩)).mono ?_
      rintro e w' ⟨u, rfl, hfr, hru⟩
      refine hK u w' φ ⟨hfr.os, hfr.tape, hfr.output, hfr.size, fun b hb => hfr.block b hb (fun id c h => by cases h), fun _ _ => rfl, fun id b cc hid hs => ?_, fun i j b cc cc' hi hj h1 h2 => ?_⟩ ?_ (fun id blk hb => ?_)
      · exact absurd (by rw [hH0]; rfl) hid
      · exact absurd (by rw [hH0]; rfl) hi
      · refine (hru.ren φ (k := base d) fun id hid => absurd rfl hid).mono (fun b hb => ⟨⟨hb.2, fun id cc hs => ?_, fun hx => ?_⟩, rfl⟩) _ (fun _ _ _ h => h) (fun _ h => h)
        · have := hφ.lt _ _ _ hs
          have := hb.1
          omega
        · have := hX b hx
          have := hb.1
          omega
      · have hb : lk (renH (base d) c.Hout) id = some blk := hb
        rw [hH0] at hb
        cases hb
    refine (hcon (Xc φ X c.lent) Phi.emp w us hemp hXc (fun id blk h => by cases h) hargs (hG.mono fun b hb => ⟨⟨hb.1, fun _ _ h => (by cases h), fun hx => hx.elim hb.2.2 (fun ⟨id, cc, hs, _⟩ => hb.2.1 _ _ hs)⟩, rfl⟩)).mono ?_
    rintro e w' ⟨u, φ', rfl, hfr, hok, hnw, hHo, hru, _⟩
    let k := base d
    let φ2 : Phi := fun id => if lk (renH k c.Hout) id = none then φ id else φ' (id - k)
    have hφ2 : ∀ id, φ' id ≠ .none → φ2 (id + k) = φ' id := fun id hid => by
      have hl : lk c.Hout id ≠ none := fun e => hid (hok.dom id e)
      obtain ⟨b0, hb0⟩ := Option.ne_none_iff_exists'.1 hl
      have := lk_renH_of (k := k) hb0
      simp only [φ2, this]
      simp
    have hnew' : ∀ id, lk (renH k c.Hout) id ≠ none → φ2 id = φ' (id - k) := fun id hid => by simp only [φ2]; rw [if_neg hid]
    have hold : ∀ id, lk (renH k c.Hout) id = none → φ2 id = φ id := fun id hid => by simp only [φ2]; rw [if_pos hid]
    have hfresh : ∀ id b cc, φ' id = .at b cc → w.heap.size ≤ b := fun id b cc hs => by
      rcases hnw id b cc hs with ⟨_, _, h⟩ | h
      · cases h
      · exact h
    have hge : ∀ id, lk (renH k c.Hout) id ≠ none → ∃ j, id = j + k := fun id hid => by
      obtain ⟨b0, hb0⟩ := Option.ne_none_iff_exists'.1 hid
      obtain ⟨j, _, hj, _⟩ := lk_renH hb0
      exact ⟨j, hj⟩
    have hgr : Gr φ w φ2 w' (renH k c.Hout) := by
      refine ⟨hfr.os, hfr.tape, hfr.output, hfr.size, fun b hb => hfr.block b hb (fun id c h => by cases h), hold, fun id b cc hid hs => ?_, fun i j b cc cc' hi hj h1 h2 => ?_⟩
      · rw [hnew' id hid] at hs
        exact ⟨hfresh _ _ _ hs, hok.lt _ _ _ hs⟩
      · rw [hnew' i hi] at h1
        rw [hnew' j hj] at h2
        have := hok.inj _ _ _ _ _ h1 h2
        obtain ⟨i', rfl⟩ := hge i hi
        obtain ⟨j', rfl⟩ := hge j hj
        omega
    -- what the callee may hand back nobody here writes
    have himm : c.lent = [] → ∀ b, Imm φ' (Xc φ X c.lent) w' b → Imm φ2 X w' b ∧ w'.heap[b]? = w'.heap[b]? := fun hl b hb => by
      obtain ⟨h1, h2, h3⟩ := hb
      refine ⟨⟨h1, fun id cc hs => ?_, fun hx => h3 (.inl hx)⟩, rfl⟩
      by_cases hid : lk (renH k c.Hout) id = none
      · rw [hold id hid] at hs
        exact h3 (.inr ⟨id, cc, hs, by rw [hl]; rfl⟩)
      · rw [hnew' id hid] at hs
        exact h2 _ _ hs
    have hrel : Rel (Imm φ2 X w') w' φ2 (ren k c.r) u := by
      by_cases hl : c.lent = []
      · exact (hru.ren φ2 hφ2).mono (himm hl) _ (fun _ _ _ h => h) (fun _ h => h)
      · have hv : VO c.r := hor.resolve_left hl
        exact (hv _ _ (Imm φ2 X w') w' _ _ hru).ren φ2 hφ2
    refine hK u w' φ2 hgr hrel (fun id blk hb => ?_)
    obtain ⟨j, b0, rfl, hj, rfl⟩ := lk_renH hb
    have hid : lk (renH k c.Hout) (j + k) ≠ none := by
      have e : lk (renH k c.Hout) (j + k) = some (renB k b0) := hb
      rw [e]
      simp
    rw [hnew' _ hid, Nat.add_sub_cancel]
    have hb0 := hHo j b0 hj
    by_cases hl : c.lent = []
    · exact (hb0.ren φ2 hφ2).mono (himm hl) (fun _ _ _ => rfl) (fun _ _ _ h => h) (fun _ h => h)
    · have hv : VOH c.Hout := by
        rw [if_neg (by simpa using hl)] at ho1
        exact ho1.2.1
      exact ((hv.get hj).blk hb0).ren φ2 hφ2
  · cases h
end
end Go.Ab

set_option linter.unusedSimpArgs false
set_option linter.unusedVariables false
namespace Go.Ab
open Go.RowKit
section
variable {P : Program} {w w' : World} {φ φ' : Phi} {X : Nat → Prop} {tc : List (Nat × TI)} {sym : Bool} {o : List Prop} {x y : V} {u : Value}

theorem new_sl {op : Oper} {a : Act} {d : Nat} {us : Array Value} {e : TypeId} {cs : List V} {fl : Bool} {len sz : Nat} (hd : φ d = .none)
    (hrun : (execOp a.eval op).run P w = .ok (.value (.slice (some ⟨w.heap.size, 0, none⟩) len len)) (w.alloc (.cells us e)))
    (hr : RelL (Imm φ X w) w (bFlat φ fl) cs us.toList) (hn : cs.length = len * sz) (hm : len ≤ 9223372036854775807) (hsz : 0 < sz) : OpSnd P op a w φ X ⟨o, .sl d 0 len, [(d, ⟨cs, fl, 0, some (e, sz)⟩)]⟩ := by
  intro Q K hK
  unfold Oper.wp
  rw [hrun]
  have hg := Gr.one φ w d ⟨cs, fl, 0, some (e, sz)⟩ (some len) (.cells us e)
  have hx := hg.xt (X := X) (fun id hid => by
    simp only [lk] at hid
    split at hid
    · rename_i e; simp at e; subst e; exact hd
    · simp at hid)
  refine hK _ _ _ hg (.sl (upd_same _ _ _) (Nat.le_refl _) hm (fun k hk _ => by cases hk; rfl)) (fun id blk hl => ?_)
  simp only [lk] at hl
  split at hl
  · rename_i e'
    simp at e'
    subst e'
    cases hl
    rw [upd_same]
    have hl2 := hr.1
    refine CRel.blk ⟨us, e, heap_new w _, ?_, rfl, len, len, rfl, hn, Nat.le_refl _, hm, ?_⟩ (isMp_some rfl hsz)
    · have : us.toList.take cs.length = us.toList := List.take_of_length_le (by omega)
      simp only [this]
      refine hr.mono hx.im ?_ ?_
      · cases fl
        · exact hx.at_
        · exact fun _ _ _ h => h
      · cases fl
        · exact hx.nil_
        · exact fun _ h => h
    · simp at hl2
      omega
  · cases hl

/-- n times what a type is at first. -/
def zeros (zs : List Value) (n : Nat) : List V := (List.range n).map fun i => V.val (zs.getD (i % zs.length) (.bool false))
theorem zeros_rel {I : Nat → Prop} {zs : List Value} (hz : zs.all scalar = true) (z : Array Value) (hzz : z.toList = zs) (hpos : 0 < zs.length) (φ : Phi) (n : Nat) : RelL I w φ (zeros zs n) ((Array.range n).map (fun i => z[i % z.size]!)).toList := by
  have hzs : z.size = zs.length := by rw [← hzz]; simp
  refine ⟨by simp [zeros], fun i hi => ?_, fun u hu => ?_⟩
  · have hi' : i < n := by simpa [zeros] using hi
    have hm : i % zs.length < zs.length := Nat.mod_lt _ hpos
    have e1 : zs.getD (i % zs.length) (.bool false) = zs[i % zs.length] := by simp [List.getD_eq_getElem?_getD, hm]
    have e2 : ((Array.range n).map (fun i => z[i % z.size]!)).toList.getD i undef = zs[i % zs.length] := by
      have : i % z.size < z.size := by rw [hzs]; exact hm
      simp [List.getD_eq_getElem?_getD, hi', hzs]
      have h3 : i % zs.length < z.size := by omega
      rw [getElem!_pos z _ h3]
      simp [← hzz]
    simp only [zeros, List.getElem_map, List.getElem_range, e1, e2]
    exact .val (List.all_eq_true.1 hz _ (List.getElem_mem hm))
  · simp only [Array.toList_map, List.mem_map] at hu
    obtain ⟨i, _, rfl⟩ := hu
    have hm : i % zs.length < zs.length := Nat.mod_lt _ hpos
    have h3 : i % z.size < z.size := by rw [hzs]; exact hm
    rw [getElem!_pos z _ h3]
    refine scalar_one (List.all_eq_true.1 hz _ ?_)
    rw [← hzz]
    simp
theorem putAt_len {cs ds : List V} {off : Nat} (h : off + ds.length ≤ cs.length) : (putAt cs off ds).length = cs.length := by
  simp [putAt]
  omega
theorem evFill_len {place : Nat → Option (Nat × Nat)} : ∀ {parts : List (Nat × V)} {cells cs : List V}, evFill place cells parts = some cs → cs.length = cells.length
  | [], cells, cs, h => by cases h; rfl
  | (i, x) :: r, cells, cs, h => by
    unfold evFill at h
    split at h
    · rename_i off sz ds hp hds
      split at h
      · rename_i hb
        simp only [Bool.and_eq_true, Nat.ble_eq] at hb
        have hb1 : ds.length = sz := Nat.eq_of_beq_eq_true hb.1
        rw [evFill_len h, putAt_len (by omega)]
      · cases h
    · cases h
def evBuildSlice (tc : List (Nat × TI)) (d : Nat) (t : TypeId) (len : Nat) (parts : List (Nat × V)) : Option R :=
  match lk tc t with
  | some ⟨.slice e, _, _, _, _⟩ => match lk tc e with
    | some ei => if ei.zero.all scalar && (Nat.blt 0 ei.size && (ei.zero.length == ei.size && Nat.ble (len * ei.size) 16777216)) then
        (evFill (fun i => some (i * ei.size, ei.size)) (zeros ei.zero (len * ei.size)) parts).map fun cs => ⟨[], .sl d 0 len, [(d, ⟨cs, allFlat parts, 0, some (e, ei.size)⟩)]⟩
      else none
    | none => none
  | _ => none
theorem evBuildSlice_ok (hT : TCok P tc) {d : Nat} {t : TypeId} {len : Nat} {parts : List (Nat × V)} {pu : List (Nat × Value)} {r : R} (h : evBuildSlice tc d t len parts = some r) (hd : φ d = .none) {op : Oper} {a : Act} (hp : RelsP (Imm φ X w) w φ parts pu)
    (hrun : (execOp a.eval op).run P w = (do pure (Next.value (← Instr.buildSlice t len pu.toArray)) : Sem Next).run P w) : OpSnd P op a w φ X r := by
  unfold evBuildSlice at h
  split at h
  · rename_i e _ _ _ _ hti
    split at h
    · rename_i ei hei
      split at h
      · rename_i hc
        simp only [Bool.and_eq_true, beq_iff_eq, Nat.ble_eq] at hc
        obtain ⟨c1, c2, c3, c5⟩ := hc
        rw [Nat.blt_eq] at c2
        simp only [Option.map_eq_some_iff] at h
        obtain ⟨cs, hcs, rfl⟩ := h
        have ht := hT.get hti
        have he := hT.get hei
        obtain ⟨z, hz1, hz2, _⟩ := he.zeroValue w
        have hz : RelL (Imm φ X w) w (bFlat φ (allFlat parts)) (zeros ei.zero (len * ei.size)) ((Array.range (len * ei.size)).map (fun i => z.cells[i % z.cells.size]!)).toList := zeros_rel c1 z.cells hz2 (by omega) _ _
        obtain ⟨us', q1, q2⟩ := evFill_ok _ hcs hp (fun e => e) hz
        have hlen : cs.length = len * ei.size := by rw [evFill_len hcs]; simp [zeros]
        have hle : len ≤ len * ei.size := Nat.le_mul_of_pos_right _ c2
        refine new_sl (us := us') (e := e) hd ?_ q2 hlen (by omega) c2
        rw [hrun]
        have h1 : ¬ len * ei.size > 2 ^ 24 := by omega
        by_cases h0 : len = 0
        · subst h0
          have q1' := q1
          simp only [Nat.zero_mul] at q1'
          have er : ∀ f : Nat → Value, (Array.range 0).map f = #[] := fun f => by simp
          rw [er] at q1'
          simp only [Instr.buildSlice, Sem.run_bind, ht.und w, Result.andThen_ok, he.sizeOf w, Nat.zero_mul, if_true, Sem.run_pure, er, q1', newRow, run_newObj]
          rfl
        · have h2 : ¬ len * ei.size = 0 := by
            have := Nat.mul_pos (Nat.pos_of_ne_zero h0) c2
            omega
          simp only [Instr.buildSlice, Sem.run_bind, ht.und w, Result.andThen_ok, he.sizeOf w, h1, h2, if_false, Sem.run_pure, hz1, q1, newRow, run_newObj]
          rfl
      · cases h
    · cases h
  · cases h
/-- A slice that is built, let go at once: nobody writes it. -/
def evBuildSliceF (tc : List (Nat × TI)) (f : Bool) (d : Nat) (t : TypeId) (len : Nat) (parts : List (Nat × V)) : Option R :=
  match f with
  | false => evBuildSlice tc d t len parts
  | true => match allFlat parts, evBuildSlice tc d t len parts with
    | true, some ⟨_, _, (_, blk) :: _⟩ => some ⟨[], .vs blk.cells len, []⟩
    | _, _ => none
theorem lk_end : ∀ H : List (Nat × Blk), ∃ m, ∀ i, m ≤ i → lk H i = none
  | [] => ⟨0, fun _ _ => rfl⟩
  | (j, b) :: r => by
    obtain ⟨m, hm⟩ := lk_end r
    refine ⟨m + j + 1, fun i hi => ?_⟩
    simp only [lk]
    rw [if_neg (by simp; omega)]
    exact hm i (by omega)
theorem OpSnd.frz {H2 : List (Nat × Blk)} {d e sz len : Nat} {cs : List V} {op : Oper} {a : Act} (hφ : Phi.ok φ X w H2) (hX : ∀ b, X b → b < w.heap.size) (hd : φ d = .none) (hsz : 0 < sz)
    (h : OpSnd P op a w φ X ⟨[], .sl d 0 len, [(d, ⟨cs, true, 0, some (e, sz)⟩)]⟩) : OpSnd P op a w φ X ⟨[], .vs cs len, []⟩ := by
  intro Q K hK
  refine h Q K fun u w' φ' gr hrel hblk => ?_
  refine hK u w' φ ⟨gr.os, gr.tape, gr.output, gr.size, gr.block, fun _ _ => rfl, fun id b c h => absurd rfl h, fun i j b c c' h => absurd rfl h⟩ ?_ (fun id blk h => by cases h)
  have hb := hblk d _ (by simp [lk]; rfl)
  have himm : ∀ x, Imm φ' X w' x → Imm φ X w' x ∧ w'.heap[x]? = w'.heap[x]? := fun x hx => ⟨⟨hx.1, fun id c hi => by
    by_cases he : id = d
    · subst he; rw [hd] at hi; cases hi
    · exact hx.2.1 id c ((gr.old id (by simp [lk, he])).trans hi), hx.2.2⟩, rfl⟩
  have key : ∀ y, y = V.sl d 0 len → Rel (Imm φ' X w') w' φ' y u → Rel (Imm φ X w') w' φ (.vs cs len) u := by
    intro y hy hr
    cases hr with
    | sl hs h1 h2 h3 =>
      rename_i b c
      cases hy
      rw [hs] at hb
      simp only [BlkRel] at hb
      have hmp : isMp ⟨cs, true, 0, some (e, sz)⟩ = false := isMp_some rfl hsz
      rw [hmp] at hb
      obtain ⟨us, el, g1, g2, _⟩ := hb
      obtain ⟨f1, f2⟩ := gr.fresh d b c (by simp [lk]) hs
      have g3 : RelL (Imm φ X w') w' Phi.emp cs (us.toList.take cs.length) := g2.mono himm (fun _ _ _ h => by cases h) (fun _ h => by cases h)
      refine .vs g3.1 g3.2.1 g3.2.2 (fun j z hz => ⟨b, 0, rfl, ⟨f2, fun id c hi => ?_, fun hx => ?_⟩, ?_⟩) (fun h => by cases h) h1 h2
      · have := hφ.lt id b c hi
        omega
      · have := hX b hx
        omega
      · rw [List.getElem?_take] at hz
        split at hz
        · simp only [World.cell?, g1]
          simpa using hz
        · cases hz
    | slnil hs =>
      cases hy
      rw [hs] at hb
      obtain ⟨h1, _⟩ := hb
      have h1 : cs = [] := h1
      subst h1
      exact .vs (us := []) rfl (fun i h => by simp at h) (fun u h => by simp at h) (fun j u h => by simp at h) (fun _ => rfl) (Nat.zero_le _) (Nat.zero_le _)
    | _ => cases hy
  exact key _ rfl hrel
theorem evBuildSliceF_ok {H2 : List (Nat × Blk)} (hT : TCok P tc) (hφ : Phi.ok φ X w H2) (hX : ∀ b, X b → b < w.heap.size) {f : Bool} {d : Nat} {t : TypeId} {len : Nat} {parts : List (Nat × V)} {pu : List (Nat × Value)} {r : R} (h : evBuildSliceF tc f d t len parts = some r) (hd : f = false → φ d = .none) {op : Oper} {a : Act} (hp : RelsP (Imm φ X w) w φ parts pu)
    (hrun : (execOp a.eval op).run P w = (do pure (Next.value (← Instr.buildSlice t len pu.toArray)) : Sem Next).run P w) : OpSnd P op a w φ X r := by
  unfold evBuildSliceF at h
  split at h
  · exact evBuildSlice_ok hT h (hd rfl) hp hrun
  · split at h
    · rename_i o v i blk rest hfl hb
      cases h
      obtain ⟨m, hm⟩ := lk_end H2
      have hd' : φ m = .none := hφ.dom m (hm m (Nat.le_refl _))
      unfold evBuildSlice at hb
      split at hb
      · rename_i e _ _ _ _ hti
        split at hb
        · rename_i ei hei
          split at hb
          · rename_i hc
            simp only [Option.map_eq_some_iff] at hb
            obtain ⟨cs, hcs, hb⟩ := hb
            cases hb
            have h2 : evBuildSlice tc m t len parts = some ⟨[], .sl m 0 len, [(m, ⟨cs, allFlat parts, 0, some (e, ei.size)⟩)]⟩ := by
              unfold evBuildSlice
              simp only [hti, hei, hc, if_true, hcs, Option.map_some]
            rw [hfl] at h2
            simp only [Bool.and_eq_true] at hc
            have hsz := hc.2.1
            rw [Nat.blt_eq] at hsz
            exact OpSnd.frz hφ hX hd' hsz (evBuildSlice_ok hT h2 hd' hp hrun)
          · cases hb
        · cases hb
      · cases hb
    · cases h
def evMakeSlice (tc : List (Nat × TI)) (sym : Bool) (d : Nat) (t : TypeId) (l c : V) : Option R :=
  match lk tc t, l, c with
  | some ⟨.slice e, _, _, _, _⟩, .val (.int _ n), .val (.int _ m) => match lk tc e with
    | some ei => if ei.zero.all scalar && (Nat.blt 0 ei.size && ei.zero.length == ei.size) then
        (chk sym (decide (n = m) && (decide (0 ≤ n) && decide (n * ei.bytes ≤ 140737488355328) && decide (n < 9223372036854775808))) (n = m ∧ 0 ≤ n ∧ n * ei.bytes ≤ 140737488355328 ∧ n < 9223372036854775808)).map fun o =>
          ⟨o, .sl d 0 n.toNat, [(d, ⟨(match ei.zero with | [z] => List.replicate n.toNat (V.val z) | zs => zeros zs (n.toNat * ei.size)), true, 0, some (e, ei.size)⟩)]⟩
      else none
    | none => none
  | _, _, _ => none
theorem zeros_one (z : Value) (n : Nat) : zeros [z] n = List.replicate n (V.val z) := by
  apply List.ext_getElem (by simp [zeros])
  intro i h1 h2
  simp [zeros, Nat.mod_one]
theorem evMakeSlice_ok (hT : TCok P tc) {d : Nat} {t : TypeId} {l c : V} {ul uc : Value} {r : R} (h : evMakeSlice tc sym d t l c = some r) (ho : AllP r.obl) (hd : φ d = .none) {op : Oper} {a : Act} (hl : Rel (Imm φ X w) w φ l ul) (hc : Rel (Imm φ X w) w φ c uc)
    (hrun : (execOp a.eval op).run P w = (do pure (Next.value (← Instr.makeSlice t ul uc)) : Sem Next).run P w) : OpSnd P op a w φ X r := by
  unfold evMakeSlice at h
  split at h
  · rename_i e _ _ _ _ k n k' m hti
    obtain rfl := hl.val_inv
    obtain rfl := hc.val_inv
    split at h
    · rename_i ei hei
      split at h
      · rename_i hcc
        simp only [Bool.and_eq_true, beq_iff_eq] at hcc
        obtain ⟨c1, c2, c3⟩ := hcc
        rw [Nat.blt_eq] at c2
        simp only [Option.map_eq_some_iff] at h
        obtain ⟨o', hk, rfl⟩ := h
        obtain ⟨rfl, h0, hb, h63⟩ := chk_ok hk (by simp; omega) ho
        have ht := hT.get hti
        have he := hT.get hei
        obtain ⟨i, hi1, hi2, hi3⟩ := he.typeInfo w
        obtain ⟨z, hz1, hz2, _⟩ := he.zeroValue w
        have hcells : (match ei.zero with | [z] => List.replicate n.toNat (V.val z) | zs => zeros zs (n.toNat * ei.size)) = zeros ei.zero (n.toNat * ei.size) := by
          split
          · rename_i z' hz'
            rw [hz']
            rw [hz'] at c3
            rw [← c3, zeros_one]
            simp
          · rfl
        rw [hcells]
        have hz : RelL (Imm φ X w) w (bFlat φ true) (zeros ei.zero (n.toNat * ei.size)) ((Array.range (n.toNat * ei.size)).map (fun i => z.cells[i % z.cells.size]!)).toList := zeros_rel c1 z.cells hz2 (by omega) _ _
        by_cases hn0 : n.toNat * ei.size = 0
        · have hz' : RelL (Imm φ X w) w (bFlat φ true) (zeros ei.zero (n.toNat * ei.size)) (#[] : Array Value).toList := by
            rw [hn0]
            exact RelL.nil
          refine new_sl (us := #[]) (e := e) hd ?_ hz' (by simp [zeros]) (by omega) c2
          rw [hrun]
          have hw : IntKind.i64.wrap n = n := IntWalk.i64_in n (by omega)
          have hnot : ¬ (ei.bytes : Int) * n > 2 ^ 48 := by rw [Int.mul_comm]; omega
          simp only [Instr.makeSlice, Sem.run_bind, ht.und w, Result.andThen_ok, asInt, asIntOf, Sem.run_pure, hi1, hw, hi3]
          simp only [show ¬ n < 0 by omega, hnot, decide_false, Bool.or_false, show ¬ n > n by omega, Bool.false_eq_true, if_false, Sem.run_bind, run_askRoom, Result.andThen_ok, he.sizeOf w, hn0, if_true, Sem.run_pure, newRow, run_newObj]
          have e0 : ((Array.range 0).map (fun x => (#[] : Array Value)[x % (#[] : Array Value).size]!)) = #[] := by simp
          rw [e0]
          rfl
        · refine new_sl (us := (Array.range (n.toNat * ei.size)).map (fun i => z.cells[i % z.cells.size]!)) (e := e) hd ?_ hz (by simp [zeros]) (by omega) c2
          rw [hrun]
          have hw : IntKind.i64.wrap n = n := IntWalk.i64_in n (by omega)
          have hnot : ¬ (ei.bytes : Int) * n > 2 ^ 48 := by rw [Int.mul_comm]; omega
          simp only [Instr.makeSlice, Sem.run_bind, ht.und w, Result.andThen_ok, asInt, asIntOf, Sem.run_pure, hi1, hw, hi3]
          simp only [show ¬ n < 0 by omega, hnot, decide_false, Bool.or_false, show ¬ n > n by omega, Bool.false_eq_true, if_false, Sem.run_bind, run_askRoom, Result.andThen_ok, he.sizeOf w, hn0, hz1, Sem.run_pure, newRow, run_newObj]
          rfl
      · cases h
    · cases h
  · cases h
end
end Go.Ab

set_option linter.unusedSimpArgs false
set_option linter.unusedVariables false
namespace Go.Ab
open Go.RowKit

/-- The place of a key among a map's cells (keys and values by turns). -/
def mfind (tc : List (Nat × TI)) (kt : TypeId) (k : V) : List V → Nat → Option (Option Nat)
  | [], _ => some none
  | [_], _ => none
  | x :: _ :: r, i => match evEq tc 4 kt k x with
    | some true => match mfind tc kt k r (i + 1) with
      | some none => some (some i)
      | _ => none
    | some false => mfind tc kt k r (i + 1)
    | none => none
/-- What is found stands there once, wherever. -/
def allNo (tc : List (Nat × TI)) (kt : TypeId) (k : V) (ks : List (V × V)) : Prop := ∀ p ∈ ks, evEq tc 4 kt k p.1 = some false
theorem allNo_nil {tc : List (Nat × TI)} {kt : TypeId} {k : V} : allNo tc kt k [] := fun p hp => (by cases hp)
theorem mfind_none {tc : List (Nat × TI)} {kt : TypeId} {k : V} : ∀ {ks : List (V × V)} {i : Nat}, mfind tc kt k (flatP ks) i = some none ↔ allNo tc kt k ks
  | [], i => ⟨fun _ => allNo_nil, fun _ => rfl⟩
  | p :: r, i => by
    rw [flatP_cons, mfind]
    constructor
    · intro h q hq
      split at h
      · split at h <;> cases h
      · rename_i he
        rcases List.mem_cons.1 hq with rfl | hq
        · exact he
        · exact mfind_none.1 h q hq
      · cases h
    · intro h
      rw [h p (by simp)]
      exact mfind_none.2 fun q hq => h q (by simp [hq])
theorem mfind_some {tc : List (Nat × TI)} {kt : TypeId} {k : V} : ∀ {ks : List (V × V)} {i j : Nat}, mfind tc kt k (flatP ks) i = some (some j) ↔ ∃ a p b, ks = a ++ p :: b ∧ j = i + a.length ∧ evEq tc 4 kt k p.1 = some true ∧ allNo tc kt k a ∧ allNo tc kt k b
  | [], i, j => by
    constructor
    · intro h; cases h
    · rintro ⟨a, p, b, h, _⟩; simp at h
  | q :: r, i, j => by
    rw [flatP_cons, mfind]
    constructor
    · intro h
      split at h
      · rename_i he
        split at h
        · rename_i hr
          cases h
          exact ⟨[], q, r, rfl, rfl, he, allNo_nil, mfind_none.1 hr⟩
        · cases h
      · rename_i he
        obtain ⟨a, p, b, h1, h2, h3, h4, h5⟩ := mfind_some.1 h
        refine ⟨q :: a, p, b, by rw [h1]; rfl, by simp only [List.length_cons]; omega, h3, fun z hz => ?_, h5⟩
        rcases List.mem_cons.1 hz with rfl | hz
        · exact he
        · exact h4 z hz
      · cases h
    · rintro ⟨a, p, b, h1, h2, h3, h4, h5⟩
      cases a with
      | nil =>
        cases h1
        rw [h3]
        dsimp only
        rw [mfind_none.2 h5, h2]
        rfl
      | cons z a =>
        cases h1
        rw [h4 _ (by simp)]
        dsimp only
        exact mfind_some.2 ⟨a, p, b, rfl, by rw [h2, List.length_cons]; omega, h3, fun y hy => h4 y (by simp [hy]), h5⟩
theorem mfind_perm {tc : List (Nat × TI)} {kt : TypeId} {k : V} {ks ks' : List (V × V)} (h : ks.Perm ks') : (mfind tc kt k (flatP ks) 0 = some none → mfind tc kt k (flatP ks') 0 = some none) ∧
    ∀ j, mfind tc kt k (flatP ks) 0 = some (some j) → ∃ a p b a' b', ks = a ++ p :: b ∧ j = a.length ∧ ks' = a' ++ p :: b' ∧ (a ++ b).Perm (a' ++ b') ∧ mfind tc kt k (flatP ks') 0 = some (some a'.length) := by
  constructor
  · intro h1
    exact mfind_none.2 fun p hp => mfind_none.1 h1 p (h.mem_iff.2 hp)
  · intro j hj
    obtain ⟨a, p, b, e1, e2, h3, h4, h5⟩ := mfind_some.1 hj
    obtain ⟨a', b', e3⟩ := List.append_of_mem (h.mem_iff.1 (by rw [e1]; simp : p ∈ ks))
    have hp : (a ++ b).Perm (a' ++ b') := by
      have h6 : (p :: (a ++ b)).Perm (p :: (a' ++ b')) := by
        refine List.perm_middle.symm.trans ?_
        rw [← e1]
        refine h.trans ?_
        rw [e3]
        exact List.perm_middle
      exact h6.cons_inv
    have hall : ∀ q, q ∈ a' ++ b' → evEq tc 4 kt k q.1 = some false := fun q hq => by
      rcases List.mem_append.1 (hp.mem_iff.2 hq) with hq | hq
      · exact h4 q hq
      · exact h5 q hq
    exact ⟨a, p, b, a', b', e1, by omega, e3, hp, mfind_some.2 ⟨a', p, b', e3, by omega, h3, fun q hq => hall q (by simp [hq]), fun q hq => hall q (by simp [hq])⟩⟩
def kvFlds (tc : List (Nat × TI)) (ok : TypeId → V → Bool) (g : Bool) (cs : List V) : List Field → Bool
  | [] => true
  | f :: fs => !(f.name == "_") && (match lk tc f.type with
      | some fi => (isRow fi.desc || Nat.blt f.offset cs.length) && ok f.type (part_ g (isRow fi.desc) cs f.offset fi.size)
      | none => false) && kvFlds tc ok g cs fs
def kvElems (ok : TypeId → V → Bool) (g : Bool) (row : Bool) (sz : Nat) (e : TypeId) (cs : List V) : Nat → Nat → Bool
  | 0, _ => true
  | k + 1, i => (row || Nat.blt (i * sz) cs.length) && ok e (part_ g row cs (i * sz) sz) && kvElems ok g row sz e cs k (i + 1)
/-- A key that has a hash. -/
def kvOk (tc : List (Nat × TI)) : Nat → TypeId → V → Bool
  | 0, _, _ => false
  | n + 1, t, x => match lk tc t with
    | some ti => match ti.desc, x with
      | .bool, .val _ => true
      | .int _, .val _ => true
      | .string, .val _ => true
      | .struct fields, .agg g cs => kvFlds tc (kvOk tc n) g cs fields.toList
      | .array len e, .agg g cs => match lk tc e with
        | some ei => kvElems (kvOk tc n) g (isRow ei.desc) ei.size e cs len 0
        | none => false
      | _, _ => false
    | none => false
section
variable {P : Program} {I : Nat → Prop} {w w' : World} {φ φ' : Phi} {tc : List (Nat × TI)} {H : List (Nat × Blk)} {x y k : V} {u uk : Value}
def KvOk (P : Program) (I : Nat → Prop) (w : World) (φ : Phi) (em : Bool) (ok : TypeId → V → Bool) (n : Nat) : Prop :=
  ∀ t x u d, ok t x = true → Rel I w φ x u → (Instr.checkKey em (d + n) t u).run P w = .ok () w
theorem kvFlds_ok (hT : TCok P tc) {em : Bool} {ok : TypeId → V → Bool} {n : Nat} (he : KvOk P I w φ em ok n) {g : Bool} {cs : List V} {xs : Array Value} (hx : Rel I w φ (.agg g cs) (.agg xs)) (d : Nat) :
    ∀ (fs : List Field), kvFlds tc ok g cs fs = true → (forIn fs PUnit.unit (fun f _ => (if f.name ≠ "_" then do
      Instr.checkKey em (d + n) f.type (← part f.type xs f.offset)
      pure (ForInStep.yield PUnit.unit) else pure (ForInStep.yield PUnit.unit) : Sem (ForInStep PUnit)))).run P w = .ok PUnit.unit w
  | [], _ => by simp
  | f :: fs, hb => by
    simp only [kvFlds, Bool.and_eq_true] at hb
    obtain ⟨⟨h1, h2⟩, h3⟩ := hb
    split at h2
    · rename_i fi hfi
      simp only [Bool.and_eq_true, Bool.or_eq_true] at h2
      have ht := hT.get hfi
      obtain ⟨r, q1, q2⟩ := part_run ht hx f.offset (fun hr => by
        rcases h2.1 with h | h
        · rw [hr] at h; cases h
        · rwa [Nat.blt_eq] at h)
      have hn' : f.name ≠ "_" := by simpa using h1
      have ih := kvFlds_ok hT he hx d fs h3
      have hc := he _ _ _ d h2.2 q2
      simp only [List.forIn_cons, Sem.run_bind, hn', ne_eq, not_false_eq_true, if_true, Result.andThen_ok, q1, hc, Sem.run_pure]
      simpa using ih
    · cases h2
theorem kvElems_ok {em : Bool} {ok : TypeId → V → Bool} {n : Nat} (he : KvOk P I w φ em ok n) {g : Bool} {cs : List V} {xs : Array Value} (hx : Rel I w φ (.agg g cs) (.agg xs)) {e : TypeId} {ei : TI} (hei : TIok P e ei) (d : Nat) :
    ∀ (m i : Nat), kvElems ok g (isRow ei.desc) ei.size e cs m i = true → (forIn (List.range' i m) PUnit.unit (fun j _ => (do
      Instr.checkKey em (d + n) e (← part e xs (j * (← sizeOf e)))
      pure (ForInStep.yield PUnit.unit) : Sem (ForInStep PUnit)))).run P w = .ok PUnit.unit w
  | 0, i, _ => by simp
  | m + 1, i, hb => by
    simp only [kvElems, Bool.and_eq_true, Bool.or_eq_true] at hb
    obtain ⟨⟨h1, h2⟩, h3⟩ := hb
    obtain ⟨r, q1, q2⟩ := part_run hei hx (i * ei.size) (fun hr => by
      rcases h1 with h | h
      · rw [hr] at h; cases h
      · rwa [Nat.blt_eq] at h)
    have ih := kvElems_ok he hx hei d m (i + 1) h3
    have hc := he _ _ _ d h2 q2
    rw [List.range'_succ]
    simp only [List.forIn_cons, Sem.run_bind, hei.sizeOf w, Result.andThen_ok, q1, hc, Sem.run_pure]
    exact ih
theorem kvOk_ok (hT : TCok P tc) (em : Bool) : ∀ n : Nat, KvOk P I w φ em (kvOk tc n) n
  | 0 => fun t x u d h => by simp [kvOk] at h
  | n + 1 => fun t x u d h hx => by
    simp only [kvOk] at h
    split at h
    · rename_i ti hti
      have ht := hT.get hti
      have hd := ht.desc
      rw [show d + (n + 1) = (d + n) + 1 from rfl]
      split at h
      · rename_i hdesc
        rw [hdesc] at hd
        unfold Instr.checkKey
        simp only [Sem.run_bind, run_underlying hd, Result.andThen_ok]
        rfl
      · rename_i hdesc
        rw [hdesc] at hd
        unfold Instr.checkKey
        simp only [Sem.run_bind, run_underlying hd, Result.andThen_ok]
        rfl
      · rename_i hdesc
        rw [hdesc] at hd
        unfold Instr.checkKey
        simp only [Sem.run_bind, run_underlying hd, Result.andThen_ok]
        rfl
      · rename_i fields g cs hdesc
        rw [hdesc] at hd
        obtain ⟨xs, rfl, _⟩ := hx.agg_inv
        have := kvFlds_ok hT (kvOk_ok hT em n) hx d fields.toList h
        unfold Instr.checkKey
        simp only [Sem.run_bind, run_underlying hd, Result.andThen_ok]
        rw [← Array.forIn_toList, this]
        rfl
      · rename_i len e g cs hdesc
        rw [hdesc] at hd
        split at h
        · rename_i ei hei
          have he := hT.get hei
          obtain ⟨xs, rfl, _⟩ := hx.agg_inv
          have := kvElems_ok (kvOk_ok hT em n) hx he d len 0 h
          unfold Instr.checkKey
          simp only [Sem.run_bind, run_underlying hd, Result.andThen_ok]
          simp only [Std.Legacy.Range.forIn_eq_forIn_range', Std.Legacy.Range.size, Nat.sub_zero, Nat.add_one_sub_one, Nat.div_one]
          rw [this]
          rfl
        · cases h
      · cases h
    · cases h

/-! What is found. -/
def entsL (es : List MapEntry) : List Value := es.flatMap fun e => [e.key, e.val]
theorem ents_eq (es : Array MapEntry) : ents es = entsL es.toList := rfl
/-- What the search yields, at a known place. -/
def foundAt (es : List MapEntry) (i : Nat) (r : Option Nat) (o : Option (Nat × Value)) : Prop := match r with
  | none => o = none
  | some j => ∃ e, i ≤ j ∧ es[j - i]? = some e ∧ o = some (j, e.val)
theorem findAsking_ok (hT : TCok P tc) {kt : TypeId} (hk : Rel I w φ k uk) : ∀ (es : List MapEntry) (cells : List V) (i : Nat) (r : Option Nat), RelV I w φ cells (entsL es) → mfind tc kt k cells i = some r →
    ∃ o, (Instr.findAsking kt uk es i).run P w = .ok o w ∧ foundAt es i r o
  | [], cells, i, r, h, hm => by
    cases h
    cases hm
    exact ⟨none, by simp [Instr.findAsking], rfl⟩
  | e :: es, cells, i, r, h, hm => by
    simp only [entsL, List.flatMap_cons, List.cons_append, List.nil_append] at h
    cases h with
    | cons h1 h' =>
      rename_i x xs
      cases h' with
      | cons h2 h3 =>
        rename_i y ys
        simp only [mfind] at hm
        split at hm
        · rename_i he
          split at hm
          case h_2 => cases hm
          cases hm
          have := evEq_ok (P := P) (w := w) (I := I) (φ := φ) hT 4 _ _ _ _ _ _ (Op.maxDepth - 4) he hk h1
          refine ⟨some (i, e.val), ?_, e, Nat.le_refl _, by simp, rfl⟩
          simp only [Instr.findAsking, Sem.run_bind, Op.equal]
          rw [show Op.maxDepth - 4 + 4 = Op.maxDepth from rfl] at this
          rw [this]
          simp
        · rename_i he
          have := evEq_ok (P := P) (w := w) (I := I) (φ := φ) hT 4 _ _ _ _ _ _ (Op.maxDepth - 4) he hk h1
          obtain ⟨o, q1, q2⟩ := findAsking_ok hT hk es ys (i + 1) r h3 hm
          refine ⟨o, ?_, ?_⟩
          · simp only [Instr.findAsking, Sem.run_bind, Op.equal]
            rw [show Op.maxDepth - 4 + 4 = Op.maxDepth from rfl] at this
            rw [this]
            simpa using q1
          · cases r with
            | none => exact q2
            | some j =>
              obtain ⟨e', p1, p2, p3⟩ := q2
              refine ⟨e', by omega, ?_, p3⟩
              rw [show j - i = (j - (i + 1)) + 1 by omega]
              simpa using p2
        · cases hm
/-- The kinds of keys that are compared at once. -/
def nowB : TypeDesc → Bool
  | .int _ | .string | .bool => true
  | _ => false
theorem ba_eq (a b : ByteArray) : (a == b) = (a.data.toList == b.data.toList) := by
  have h : (a == b) = true ↔ (a.data.toList == b.data.toList) = true := by
    rw [MapKept.bytes_beq, beq_iff_eq]
    constructor
    · rintro rfl; rfl
    · intro e
      cases a with | mk a =>
      cases b with | mk b =>
      have : a = b := Array.ext' e
      rw [this]
  cases e1 : (a == b) <;> cases e2 : (a.data.toList == b.data.toList) <;> simp_all
theorem evEq_now {n : Nat} {kt : TypeId} {ti : TI} {b : Bool} (hti : lk tc kt = some ti) (hn : nowB ti.desc = true) (h : evEq tc (n + 1) kt x y = some b) {ux uy : Value} (hx : Rel I w φ x ux) (hy : Rel I w φ y uy) : Instr.sameNow ti.desc ux uy = some b := by
  simp only [evEq, hti] at h
  split at h
  · rename_i hd
    rw [hd]
    cases h
    obtain rfl := hx.val_inv
    obtain rfl := hy.val_inv
    rfl
  · rename_i hd
    rw [hd]
    split at h
    · rename_i hk
      subst hk
      cases h
      obtain rfl := hx.val_inv
      obtain rfl := hy.val_inv
      simp [Instr.sameNow]
    · cases h
  · rename_i a b' hd
    rw [hd]
    cases h
    obtain rfl := hx.val_inv
    obtain rfl := hy.val_inv
    simp only [Instr.sameNow, Option.some.injEq]
    exact ba_eq a b'
  · rename_i hd
    rw [hd] at hn
    cases hn
  · rename_i hd
    rw [hd] at hn
    cases hn
  · cases h
theorem findNow_ok {kt : TypeId} {ti : TI} (hti : lk tc kt = some ti) (hn : nowB ti.desc = true) (hk : Rel I w φ k uk) : ∀ (es : List MapEntry) (cells : List V) (i : Nat) (r : Option Nat), RelV I w φ cells (entsL es) → mfind tc kt k cells i = some r →
    ∃ o, Instr.findNow ti.desc uk es i = some o ∧ foundAt es i r o
  | [], cells, i, r, h, hm => by
    cases h
    cases hm
    exact ⟨none, rfl, rfl⟩
  | e :: es, cells, i, r, h, hm => by
    simp only [entsL, List.flatMap_cons, List.cons_append, List.nil_append] at h
    cases h with
    | cons h1 h' =>
      rename_i x xs
      cases h' with
      | cons h2 h3 =>
        rename_i y ys
        simp only [mfind] at hm
        split at hm
        · rename_i he
          split at hm
          case h_2 => cases hm
          cases hm
          have := evEq_now hti hn he hk h1
          exact ⟨some (i, e.val), by simp [Instr.findNow, this], e, Nat.le_refl _, by simp, rfl⟩
        · rename_i he
          have := evEq_now hti hn he hk h1
          obtain ⟨o, q1, q2⟩ := findNow_ok hti hn hk es ys (i + 1) r h3 hm
          refine ⟨o, by simp [Instr.findNow, this, q1], ?_⟩
          cases r with
          | none => exact q2
          | some j =>
            obtain ⟨e', p1, p2, p3⟩ := q2
            refine ⟨e', by omega, ?_, p3⟩
            rw [show j - i = (j - (i + 1)) + 1 by omega]
            simpa using p2
        · cases hm
theorem findKey_ok (hT : TCok P tc) {kt : TypeId} (hkt : (lk tc kt).isSome = true) (hk : Rel I w φ k uk) {es : List MapEntry} {cells : List V} {r : Option Nat} (h : RelV I w φ cells (entsL es)) (hm : mfind tc kt k cells 0 = some r) :
    ∃ o, (Instr.findKey kt uk es).run P w = .ok o w ∧ foundAt es 0 r o := by
  obtain ⟨ti, hti⟩ := Option.isSome_iff_exists.1 hkt
  have hd := (hT.get hti).desc
  cases hn : nowB ti.desc with
  | true =>
    obtain ⟨o, q1, q2⟩ := findNow_ok hti hn hk es cells 0 r h hm
    exact ⟨o, by simp [Instr.findKey, run_underlying hd, Result.andThen, q1], q2⟩
  | false =>
    obtain ⟨o, q1, q2⟩ := findAsking_ok hT hk es cells 0 r h hm
    refine ⟨o, ?_, q2⟩
    cases es with
    | nil =>
      have : o = none := by
        simp [Instr.findAsking] at q1
        exact q1.symm
      subst this
      simp [Instr.findKey, run_underlying hd, Instr.findNow, Result.andThen]
    | cons e es =>
      have : Instr.findNow ti.desc uk (e :: es) 0 = none := by
        unfold Instr.findNow
        have : Instr.sameNow ti.desc uk e.key = none := by
          unfold Instr.sameNow
          split <;> simp_all [nowB]
        rw [this]
      simp [Instr.findKey, run_underlying hd, Result.andThen, this, q1]
theorem relV_get : ∀ {es : List MapEntry} {cells : List V} {j : Nat} {e : MapEntry}, RelV I w φ cells (entsL es) → es[j]? = some e → Rel I w φ (gI cells (2 * j)) e.key ∧ Rel I w φ (gI cells (2 * j + 1)) e.val ∧ 2 * j + 1 < cells.length
  | [], _, _, _, _, h => by simp at h
  | e :: es, cells, j, e', h, he => by
    simp only [entsL, List.flatMap_cons, List.cons_append, List.nil_append] at h
    cases h with
    | cons h1 h' =>
      cases h' with
      | cons h2 h3 =>
        cases j with
        | zero =>
          simp at he
          subst he
          exact ⟨by simpa [gI] using h1, by simpa [gI] using h2, by simp⟩
        | succ j =>
          obtain ⟨q1, q2, q3⟩ := relV_get h3 (by simpa using he)
          refine ⟨?_, ?_, ?_⟩
          · rw [show 2 * (j + 1) = (2 * j) + 1 + 1 by omega]
            simpa [gI] using q1
          · rw [show 2 * (j + 1) + 1 = (2 * j + 1) + 1 + 1 by omega]
            simpa [gI] using q2
          · simp only [List.length_cons]; omega
theorem ih2 : ∀ es : List MapEntry, (entsL es).length = 2 * es.length
  | [] => rfl
  | e :: es => by
    have := ih2 es
    have e0 : entsL (e :: es) = e.key :: e.val :: entsL es := rfl
    rw [e0]
    simp only [List.length_cons]
    omega
theorem relV_len {cells : List V} {es : List MapEntry} (h : RelV I w φ cells (entsL es)) : cells.length = 2 * es.length := by
  have : ∀ {xs : List V} {us : List Value}, RelV I w φ xs us → xs.length = us.length := fun h => by
    induction h with
    | nil => rfl
    | cons _ _ ih => simp [ih]
  rw [this h, ih2]
theorem relV_up {fl : Bool} {xs : List V} {us : List Value} (h : RelV I w (bFlat φ fl) xs us) : RelV I w φ xs us := by
  refine h.mono (fun _ h => ⟨h, rfl⟩) (fun id b c hs => ?_) (fun id hs => ?_)
  · cases fl
    · exact hs
    · cases hs
  · cases fl
    · exact hs
    · cases hs

theorem flatP_len (ks : List (V × V)) : (flatP ks).length = 2 * ks.length := by
  induction ks with
  | nil => rfl
  | cons p r ih => rw [flatP_cons, List.length_cons, List.length_cons, List.length_cons, ih]; omega
theorem gI_flatP (a b : List (V × V)) (p : V × V) : gI (flatP (a ++ p :: b)) (2 * a.length) = p.1 ∧ gI (flatP (a ++ p :: b)) (2 * a.length + 1) = p.2 := by
  rw [flatP_app, flatP_cons]
  have h := flatP_len a
  simp only [gI, List.getD_eq_getElem?_getD]
  constructor
  · rw [List.getElem?_append_right (by omega), h, Nat.sub_self]
    rfl
  · rw [List.getElem?_append_right (by omega), h, show 2 * a.length + 1 - 2 * a.length = 1 by omega]
    rfl
/-! The operations that only look. -/
def vals1 (zs : List Value) (row : Bool) : V := if row then .agg true (vals zs) else match zs with
  | [z] => .val z
  | _ => .top
/-- What a map holds under a key. -/
def luOf (tc : List (Nat × TI)) (H : List (Nat × Blk)) (kt : TypeId) (k x : V) : Option (Option V) :=
  match x with
  | .val (.map none) => some none
  | .mp id => match lk H id with
    | some blk => match isMp blk with
      | true => (mfind tc kt k blk.cells 0).map fun r => r.map fun j => gI blk.cells (2 * j + 1)
      | false => none
    | none => none
  | _ => none
/-- What a look-up yields. -/
def lkV (z : V) (comma : Bool) : Option V → V
  | some y => if comma then .tup [y, .val (.bool true)] else y
  | none => if comma then .tup [z, .val (.bool false)] else z
def mget (tc : List (Nat × TI)) (kt : TypeId) (z : V) (comma : Bool) (cells : List V) (k : V) : Option V :=
  (mfind tc kt k cells 0).map fun r => lkV z comma (r.map fun j => gI cells (2 * j + 1))
/-- m[k]; sym: what it yields is told. -/
def evLookup (tc : List (Nat × TI)) (H : List (Nat × Blk)) (sym : Option V) (t : TypeId) (x k : V) (comma : Bool) : Out :=
  match lk tc t with
  | some ⟨.map kt et, _, _, _, _⟩ => match lk tc et with
    | some ei => match kvOk tc 4 kt k && (ei.zero.all scalar && (isRow ei.desc || (match ei.zero with | [_] => true | _ => false))) with
      | true => match sym with
        | some y => match x with
          | .mp id => match lk H id with
            | some blk => match isMp blk with
              | true => some ([mget tc kt (vals1 ei.zero (isRow ei.desc)) comma blk.cells k = some y], y)
              | false => none
            | none => none
          | _ => none
        | none => match luOf tc H kt k x with
          | some r => some ([], lkV (vals1 ei.zero (isRow ei.desc)) comma r)
          | none => none
      | false => none
    | none => none
  | _ => none
theorem vals1_rel {ei : TI} (hz : ei.zero.all scalar = true) (hr : (isRow ei.desc || (match ei.zero with | [_] => true | _ => false)) = true) {z : Value} (h1 : z.cells.toList = ei.zero) (h2 : aggB z = isRow ei.desc) : Rel I w φ (vals1 ei.zero (isRow ei.desc)) z := by
  cases hrow : isRow ei.desc with
  | true =>
    rw [hrow] at h2
    cases z <;> simp [aggB] at h2
    rename_i us
    have : us.toList = ei.zero := by simpa [Value.cells] using h1
    simp only [vals1, if_true]
    refine RelL.agg (fl := true) ?_
    rw [this]
    exact vals_rel _ hz _
  | false =>
    rw [hrow] at h2 hr
    simp only [Bool.false_or] at hr
    have hc : z.cells = #[z] := by cases z <;> simp [aggB] at h2 <;> rfl
    rw [hc] at h1
    rw [← h1] at hz ⊢
    simp only [vals1, Bool.false_eq_true, if_false]
    exact .val (by simpa using hz)
theorem mrel_of (hH : HR I w φ H) {id : Nat} {blk : Blk} (hb : lk H id = some blk) (hm : isMp blk = true) {b : Nat} {c : Option Nat} (hs : φ id = .at b c) : c = none ∧ ∃ es clock ks ks', w.heap[b]? = some (.map es clock) ∧ blk.cells = flatP ks ∧ ks.Perm ks' ∧ RelV I w (bFlat φ blk.flat) (flatP ks') (ents es) ∧ Stamps es clock := by
  have := hH id blk hb
  rw [hs] at this
  simp only [BlkRel, hm] at this
  exact this
theorem gobj {b : Nat} {es : Array MapEntry} {clock : Nat} (hb : w.heap[b]? = some (.map es clock)) : (getObj b).run P w = .ok (.map es clock) w := by
  simp [getObj, Sem.run, hb]
def luV (comma : Bool) (z : Value) : Option (Nat × Value) → Value
  | some (_, v) => if comma then .tuple #[v, .bool true] else v
  | none => if comma then .tuple #[z, .bool false] else z
theorem lookup_at {t kt et : TypeId} (ht : P.underlying t = some (.map kt et)) {b : Nat} {es : Array MapEntry} {clock : Nat} (hh : w.heap[b]? = some (.map es clock)) (hck : ∀ em, (Instr.checkKey em 10000 kt uk).run P w = .ok () w) {z : Value} (hz : (zeroValue et).run P w = .ok z w)
    {o : Option (Nat × Value)} (ho : (Instr.findKey kt uk es.toList).run P w = .ok o w) (comma : Bool) : (Instr.lookup t (.map (some b)) uk comma).run P w = .ok (luV comma z o) w := by
  cases o with
  | none => cases comma <;> simp [Instr.lookup, run_underlying ht, gobj hh, hck, ho, hz, luV]
  | some p =>
    obtain ⟨i, v⟩ := p
    cases comma <;> simp [Instr.lookup, run_underlying ht, gobj hh, hck, ho, hz, luV]
theorem lookup_nil {t kt et : TypeId} (ht : P.underlying t = some (.map kt et)) (hck : ∀ em, (Instr.checkKey em 10000 kt uk).run P w = .ok () w) {z : Value} (hz : (zeroValue et).run P w = .ok z w)
    (ho : (Instr.findKey kt uk []).run P w = .ok none w) (comma : Bool) : (Instr.lookup t (.map none) uk comma).run P w = .ok (luV comma z none) w := by
  cases comma <;> simp [Instr.lookup, run_underlying ht, hck, ho, hz, luV]
theorem luV_rel {comma : Bool} {z : Value} {zv : V} (hz : Rel I w φ zv z) {r : Option V} {o : Option (Nat × Value)} (h : match r with | none => o = none | some y => ∃ i e, o = some (i, e) ∧ Rel I w φ y e) :
    Rel I w φ (lkV zv comma r) (luV comma z o) := by
  unfold lkV
  have tupR : ∀ {x : V} {u : Value} {b : Bool}, Rel I w φ x u → Rel I w φ (.tup [x, .val (.bool b)]) (.tuple #[u, .bool b]) := fun {x u b} hx => by
    refine .tup rfl (fun i hi => ?_)
    cases i with
    | zero => exact hx
    | succ i =>
      cases i with
      | zero => exact .val rfl
      | succ i => simp only [List.length_cons, List.length_nil] at hi; omega
  cases r with
  | none =>
    dsimp only at h
    subst h
    cases comma
    · exact hz
    · exact tupR hz
  | some y =>
    obtain ⟨i, e, rfl, he⟩ := h
    cases comma
    · exact he
    · exact tupR he
theorem evLookup_ok (hT : TCok P tc) (hH : HR I w φ H) {sym : Option V} {t : TypeId} {comma : Bool} {o : List Prop} {v : V} (h : evLookup tc H sym t x k comma = some (o, v)) (ho : AllP o) (hx : Rel I w φ x u) (hk : Rel I w φ k uk) :
    ∃ r, (Instr.lookup t u uk comma).run P w = .ok r w ∧ Rel I w φ v r := by
  unfold evLookup at h
  split at h
  case h_2 => cases h
  rename_i kt et _ _ _ _ hti
  have ht := (hT.get hti).desc
  split at h
  case h_2 => cases h
  rename_i ei hei
  have he := hT.get hei
  split at h
  case h_2 => cases h
  rename_i hc
  simp only [Bool.and_eq_true] at hc
  obtain ⟨hkv, hz⟩ := hc
  have hck : ∀ em, (Instr.checkKey em 10000 kt uk).run P w = .ok () w := fun em => by
    have := kvOk_ok (P := P) (w := w) (I := I) (φ := φ) hT em 4 kt k uk 9996 hkv hk
    exact this
  have hkt : (lk tc kt).isSome = true := by
    unfold kvOk at hkv
    split at hkv
    · rename_i e; rw [e]; rfl
    · cases hkv
  obtain ⟨z, hz1, hz2, hz3⟩ := he.zeroValue w
  have hzr : Rel I w φ (vals1 ei.zero (isRow ei.desc)) z := vals1_rel hz.1 hz.2 hz2 hz3
  -- whatever is found
  have key : ∀ r : Option V, luOf tc H kt k x = some r → ∃ o, (Instr.lookup t u uk comma).run P w = .ok (luV comma z o) w ∧ (match r with
        | none => o = none
        | some y => ∃ i e, o = some (i, e) ∧ Rel I w φ y e) := fun r hr => by
    unfold luOf at hr
    generalize hxe : x = x' at hr
    split at hr
    · cases hr
      rw [hxe] at hx
      obtain rfl := hx.val_inv
      obtain ⟨o, q1, q2⟩ := findKey_ok (P := P) (w := w) (I := I) (φ := φ) (es := []) (cells := []) (r := none) hT hkt hk .nil rfl
      cases q2
      exact ⟨none, lookup_nil ht hck hz1 q1 comma, rfl⟩
    · rename_i id
      split at hr
      case h_2 => cases hr
      rename_i blk hb
      split at hr
      case h_2 => cases hr
      rename_i hm
      rw [hxe] at hx
      cases hx with
      | mp hs =>
      rename_i b c
      obtain ⟨_, es, clock, ks, ks', hh, hks, hpm, hr2, _⟩ := mrel_of hH hb hm hs
      have hr' := relV_up hr2
      rw [ents_eq] at hr'
      obtain ⟨j, hj, e2⟩ := Option.map_eq_some_iff.1 hr
      rw [hks] at hj
      subst e2
      cases j with
      | none =>
        obtain ⟨o, q1, q2⟩ := findKey_ok hT hkt hk hr' ((mfind_perm hpm).1 hj)
        exact ⟨o, lookup_at ht hh hck hz1 q1 comma, q2⟩
      | some j =>
        obtain ⟨a1, p, b1, a2, b2, e3, e4, e5, _, hj2⟩ := (mfind_perm hpm).2 j hj
        obtain ⟨o, q1, q2⟩ := findKey_ok hT hkt hk hr' hj2
        obtain ⟨e, _, p2, p3⟩ := q2
        refine ⟨o, lookup_at ht hh hck hz1 q1 comma, ?_⟩
        refine ⟨a2.length, e.val, p3, ?_⟩
        have h1 := (relV_get hr' (by simpa using p2)).2.1
        rw [e5, (gI_flatP a2 b2 p).2] at h1
        show Rel _ _ _ (gI blk.cells (2 * j + 1)) _
        rw [hks, e3, e4, (gI_flatP a1 b1 p).2]
        exact h1
    · cases hr
  split at h
  · rename_i y
    -- it is told
    have hl : ∃ r, luOf tc H kt k x = some r ∧ lkV (vals1 ei.zero (isRow ei.desc)) comma r = v := by
      clear key
      split at h
      · rename_i id
        split at h
        case h_2 => cases h
        rename_i blk hb
        split at h
        case h_2 => cases h
        rename_i hm
        cases h
        have hg := ho.1
        unfold mget at hg
        obtain ⟨j, hj, e⟩ := Option.map_eq_some_iff.1 hg
        refine ⟨_, ?_, e⟩
        simp only [luOf, hb, hm, hj, Option.map_some]
      · cases h
    obtain ⟨r, hr, rfl⟩ := hl
    obtain ⟨o', h1, h2⟩ := key _ hr
    exact ⟨_, h1, luV_rel (comma := comma) (r := r) hzr h2⟩
  · split at h
    · rename_i r hr
      cases h
      obtain ⟨o', h1, h2⟩ := key _ hr
      exact ⟨_, h1, luV_rel (comma := comma) (r := r) hzr h2⟩
    · cases h
/-- len(m). -/
def evLenM (H : List (Nat × Blk)) (tc : List (Nat × TI)) (t : TypeId) (x : V) : Out :=
  match lk tc t with
  | some ⟨.map _ _, _, _, _, _⟩ => match x with
    | .val (.map none) => some ([], .val (.int .i64 0))
    | .mp id => match lk H id with
      | some blk => match isMp blk with
        | true => some ([], .val (.int .i64 (blk.cells.length / 2 : Nat)))
        | false => none
      | none => none
    | _ => none
  | _ => none
theorem evLenM_ok {t ty : TypeId} {o : List Prop} {v : V} (hT : TCok P tc) (hH : HR I w φ H) (h : evLenM H tc t x = some (o, v)) (hx : Rel I w φ x u) : ∃ r, (Builtin.len_ #[t] ty #[u]).run P w = .ok r w ∧ Rel I w φ v r := by
  unfold evLenM at h
  split at h
  case h_2 => cases h
  rename_i kt et _ _ _ _ hti
  have ht := (hT.get hti).desc
  split at h
  · cases h
    obtain rfl := hx.val_inv
    exact ⟨_, by simp [Builtin.len_, run_underlying ht]; rfl, .val rfl⟩
  · rename_i id
    split at h
    case h_2 => cases h
    rename_i blk hb
    split at h
    case h_2 => cases h
    rename_i hm
    cases h
    cases hx with
    | mp hs =>
    obtain ⟨_, es, clock, ks, ks', hh, hks, hpm, hr, _⟩ := mrel_of hH hb hm hs
    have hl := relV_len hr
    refine ⟨goInt es.size, by simp [Builtin.len_, run_underlying ht, gobj hh], ?_⟩
    rw [hks, flatP_len, hpm.length_eq, ← flatP_len, hl, show 2 * es.toList.length / 2 = es.size by simp]
    exact .val rfl
  · cases h
/-- A new map. -/
def evMakeMap (tc : List (Nat × TI)) (d : Nat) (t : TypeId) (hint : Option V) : Option R :=
  match hint with
  | none => some ⟨[], .mp d, [(d, ⟨[], true, 0, some (0, 0)⟩)]⟩
  | some (.val (.int _ _)) => match lk tc t with
    | some ⟨.map _ _, _, _, _, _⟩ => some ⟨[], .mp d, [(d, ⟨[], true, 0, some (0, 0)⟩)]⟩
    | _ => none
  | _ => none
theorem new_mp {X : Nat → Prop} {op : Oper} {a : Act} {d : Nat} (hd : φ d = .none) {o : List Prop}
    (hrun : (execOp a.eval op).run P w = .ok (.value (.map (some w.heap.size))) (w.alloc (.map #[] 0))) : OpSnd P op a w φ X ⟨o, .mp d, [(d, ⟨[], true, 0, some (0, 0)⟩)]⟩ := by
  intro Q K hK
  unfold Oper.wp
  rw [hrun]
  have hg := Gr.one φ w d ⟨[], true, 0, some (0, 0)⟩ none (.map #[] 0)
  refine hK _ _ _ hg (.mp (upd_same _ _ _)) (fun id blk hl => ?_)
  simp only [lk] at hl
  split at hl
  · rename_i e
    simp at e
    subst e
    cases hl
    rw [upd_same]
    exact ⟨rfl, #[], 0, [], [], heap_new w _, rfl, .refl _, .nil, fun e he => (by cases he), List.Pairwise.nil⟩
  · cases hl
theorem evMakeMap_ok {X : Nat → Prop} (hT : TCok P tc) {d : Nat} {t : TypeId} {r : R} {hint : Option V} {hv : Option Value} (hh : match hint, hv with | none, none => True | some x, some u => Rel I w φ x u | _, _ => False) (h : evMakeMap tc d t hint = some r) (hd : φ d = .none) {op : Oper} {a : Act}
    (hrun : (execOp a.eval op).run P w = (do pure (Next.value (← Instr.makeMap t hv)) : Sem Next).run P w) : OpSnd P op a w φ X r := by
  unfold evMakeMap at h
  split at h
  · cases h
    cases hv with
    | some u => exact hh.elim
    | none =>
      refine new_mp hd ?_
      rw [hrun]
      simp only [Instr.makeMap, Sem.run_bind, Sem.run_pure, run_newObj, Result.andThen_ok]
      rfl
  · split at h
    · rename_i kt et _ _ _ _ hti
      cases h
      have ht := (hT.get hti).desc
      cases hv with
      | none => exact hh.elim
      | some u =>
        have := hh.val_inv
        subst this
        refine new_mp hd ?_
        rw [hrun]
        simp [Instr.makeMap, run_underlying ht, asInt, asIntOf, run_newObj]
    · cases h
  · cases h
end
end Go.Ab

set_option linter.unusedSimpArgs false
set_option linter.unusedVariables false
namespace Go.Ab
open Go.RowKit

def rds (rd : Operand → Option V) : List Operand → Option (List V)
  | [] => some []
  | x :: r => match rd x, rds rd r with
    | some v, some vs => some (v :: vs)
    | _, _ => none
def rdsP (rd : Operand → Option V) : List (Nat × Operand) → Option (List (Nat × V))
  | [] => some []
  | (i, x) :: r => match rd x, rdsP rd r with
    | some v, some vs => some ((i, v) :: vs)
    | _, _ => none
def rdO (rd : Operand → Option V) : Option Operand → Option (Option V)
  | none => some none
  | some x => (rd x).map some
/-- It is said that nothing is left. -/
def emH : Option V → Bool
  | some (.vs [] 0) => true
  | _ => false
def fin (sym : Option V) : Out → Option R
  | some (o, v) => match sym with
    | none => some ⟨o, v, []⟩
    | some v' => some ⟨o ++ [v = v'], v', []⟩
  | none => none
def isNilSl : Operand → Bool
  | .const (.slice none 0 0) => true
  | _ => false
/-- A nil slice that may be appended to. -/
def evNil (tc : List (Nat × TI)) (d : Nat) (t : TypeId) : Option R :=
  match lk tc t with
  | some ⟨.slice e, _, _, _, _⟩ => match lk tc e with
    | some ei => match Nat.blt 0 ei.size with
      | true => some ⟨[], .sl d 0 0, [(d, ⟨[], true, 0, some (e, ei.size)⟩)]⟩
      | false => none
    | none => none
  | _ => none
def evPick (rd : Operand → Option V) (rdc : Bool → Tmp → Operand → Option V) (c a b : Operand) : Out :=
  match c, rd c with
  | .tmp t, some (.val (.bool p)) => match b with
    | .const (.bool false) => match rdc true t a with
      | some (.val (.bool q)) => some ([], .val (.bool (p && q)))
      | _ => none
    | b => match a with
      | .const (.bool true) => match rdc false t b with
        | some (.val (.bool q)) => some ([], .val (.bool (p || q)))
        | _ => none
      | _ => none
  | _, _ => none
def evNC : V → Out
  | .ptr i o => some ([], .ptr i o)
  | .vp cs => some ([], .vp cs)
  | .val (.pointer none) => some ([False], .top)
  | _ => none
def evFn : V → Option FuncId
  | .val (.func (.func f) ⟨[]⟩ ⟨[]⟩) => some f
  | _ => none

def mkClo (fn : Fn) (a b : List V) : V := match fn, a, b with
  | .func f, [], [] => .val (.func (.func f) #[] #[])
  | fn, a, b => .clo fn a b
def stepV (P : Program) (tc : List (Nat × TI)) (H : List (Nat × Blk)) (sym : Option V) (cr : Option CR) (rd : Operand → Option V) (rdc : Bool → Tmp → Operand → Option V) (o : Oper) : Option R :=
  match o.op with
  | .move x => (rd x).bind fun v => fin sym (some ([], v))
  | .assign x => match isNilSl x, o.dst with
    | true, some d => evNil tc d o.type
    | true, none => none
    | false, _ => (rd x).bind fun v => fin sym (some ([], v))
  | .pick c a b => fin sym (evPick rd rdc c a b)
  | .makeFunc fn fs cs => (rds rd fs.toList).bind fun a => (rds rd cs.toList).bind fun b => fin sym (some ([], mkClo fn a b))
  | .alloc e => o.dst.bind fun d => evAlloc tc d e
  | .box e x => o.dst.bind fun d => (rd x).bind fun v => evBox tc sym.isSome d e v
  | .build t ps => (rdsP rd ps.toList).bind fun vs => fin sym (evBuild tc t vs)
  | .buildSlice t len ps => o.dst.bind fun d => (rdsP rd ps.toList).bind fun vs => evBuildSliceF tc sym.isSome d t len vs
  | .makeSlice t l c => o.dst.bind fun d => (rd l).bind fun vl => (rd c).bind fun vc => evMakeSlice tc sym.isSome d t vl vc
  | .load t x => (rd x).bind fun v => fin sym (evLoad tc H sym.isSome t v)
  | .nilCheck x => (rd x).bind fun v => fin sym (evNC v)
  | .fieldAddr s x f => (rd x).bind fun v => fin sym (evFieldAddr tc s v f)
  | .field s x f => (rd x).bind fun v => fin sym (evField tc sym.isSome s v f)
  | .indexAddr t x i => (rd x).bind fun v => (rd i).bind fun j => fin sym (evIndexAddr tc sym.isSome t v j)
  | .index t x i => (rd x).bind fun v => (rd i).bind fun j => fin sym (evIndex tc sym.isSome t v j)
  | .slice t x lo hi none => (rd x).bind fun v => (rdO rd lo).bind fun l => (rdO rd hi).bind fun h => fin sym (evSlice tc H sym.isSome (emH sym) t v l h)
  | .binOp op t x y _ => (rd x).bind fun v => (rd y).bind fun u => fin sym (evBin tc sym.isSome op t v u)
  | .unOp op _ x => (rd x).bind fun v => fin sym (evUn op v)
  | .convert s d x => (rd x).bind fun v => fin sym (evConv tc s d v)
  | .sliceToArrayPointer t x => (rd x).bind fun v => fin sym (evSAP tc t v)
  | .extract x i => (rd x).bind fun v => fin sym (evExtract v i)
  | .call { callee := .builtin b, args := xs, argTypes := ts } => (rds rd xs.toList).bind fun vs => match b with
    | .len => match ts.toList, vs with
      | [t], [v] => match mpT.contains t with
        | true => fin sym (evLenM H tc t v)
        | false => fin sym (evLen tc t v)
      | _, _ => none
    | .max => fin sym (evMM true vs)
    | .min => fin sym (evMM false vs)
    | _ => none
  | .lookup t x k c => (rd x).bind fun v => (rd k).bind fun u => fin none (evLookup tc H sym t v u c)
  | .makeMap t hint => o.dst.bind fun d => (rdO rd hint).bind fun h => evMakeMap tc d t h
  | .call { callee := .value y, args := xs, argTypes := ts } => (rd y).bind fun g => (evFn g).bind fun f => (rds rd xs.toList).bind fun vs => cr.bind fun c => evCall P tc H (o.dst.getD 0) f ts.toList vs c
  | _ => none

section
variable {P : Program} {w w' : World} {φ φ' : Phi} {X : Nat → Prop} {tc : List (Nat × TI)} {H H2 new : List (Nat × Blk)} {sym : Option V} {cr : Option CR} {o : List Prop} {v x y : V} {u ux uy : Value}
  {rd : Operand → Option V} {rdc : Bool → Tmp → Operand → Option V} {a : Act}

theorem rds_ok (hrd : ∀ y x, rd y = some x → Rel (Imm φ X w) w φ x (a.eval y)) : ∀ {xs : List Operand} {vs : List V}, rds rd xs = some vs → Rels (Imm φ X w) w φ vs (xs.map a.eval)
  | [], vs, h => by cases h; exact .nil
  | x :: r, vs, h => by
    unfold rds at h
    split at h
    · rename_i v vs' hv hvs
      cases h
      exact .cons (hrd _ _ hv) (rds_ok hrd hvs)
    · cases h
theorem Rels.tup {I : Nat → Prop} {vs : List V} {us : List Value} (h : Rels I w φ vs us) : us.length = vs.length ∧ ∀ i (hi : i < vs.length), Rel I w φ vs[i] (us.getD i undef) := by
  induction h with
  | nil => exact ⟨rfl, fun i hi => by simp at hi⟩
  | cons h1 _ ih =>
    refine ⟨by simp [ih.1], fun i hi => ?_⟩
    cases i with
    | zero => simpa using h1
    | succ i => simpa using ih.2 i (by simpa using hi)
theorem rdsP_ok (hrd : ∀ y x, rd y = some x → Rel (Imm φ X w) w φ x (a.eval y)) : ∀ {xs : List (Nat × Operand)} {vs : List (Nat × V)}, rdsP rd xs = some vs → RelsP (Imm φ X w) w φ vs (xs.map fun p => (p.1, a.eval p.2))
  | [], vs, h => by cases h; exact .nil
  | (i, x) :: r, vs, h => by
    unfold rdsP at h
    split at h
    · rename_i v vs' hv hvs
      cases h
      exact .cons (hrd _ _ hv) (rdsP_ok hrd hvs)
    · cases h
theorem fin_snd {op : Oper} {out : Out} {r : R} (h : fin sym out = some r) (ho : AllP r.obl)
    (k : ∀ o v, out = some (o, v) → AllP o → ∃ z, (execOp a.eval op).run P w = .ok (.value z) w ∧ Rel (Imm φ X w) w φ v z) : OpSnd P op a w φ X r := by
  unfold fin at h
  split at h
  · rename_i o' v'
    split at h
    · cases h
      exact OpSnd.pure_ (k _ _ rfl ho)
    · cases h
      obtain ⟨h1, h2, _⟩ := AllP.append.1 ho
      subst h2
      exact OpSnd.pure_ (k _ _ rfl h1)
  · cases h
theorem evNil_ok {d : Nat} {t : TypeId} {r : R} (h : evNil tc d t = some r) (hd : φ d = .none) {op : Oper} (hrun : (execOp a.eval op).run P w = .ok (.value (.slice none 0 0)) w) : OpSnd P op a w φ X r := by
  unfold evNil at h
  split at h
  · rename_i e _ _ _ _ hti
    split at h
    · rename_i ei hei
      split at h
      case h_2 => cases h
      rename_i hsz
      rw [Nat.blt_eq] at hsz
      cases h
      intro Q K hK
      unfold Oper.wp
      rw [hrun]
      have hl : ∀ id, lk [(d, (⟨[], true, 0, some (e, ei.size)⟩ : Blk))] id ≠ none → id = d := fun id hid => by
        simp only [lk] at hid
        split at hid
        · simp_all
        · simp at hid
      refine hK _ _ (φ.upd d .nil) ⟨rfl, rfl, rfl, Nat.le_refl _, fun _ _ => rfl, fun id hid => ?_, fun id b c' hid hs => ?_, fun i j b c' c'' hi hj _ _ => by rw [hl i hi, hl j hj]⟩ (.slnil (upd_same _ _ _)) (fun id blk hb => ?_)
      · have : id ≠ d := fun e => by subst e; simp [lk] at hid
        simp [Phi.upd, this]
      · have := hl id hid
        subst this
        rw [upd_same] at hs
        cases hs
      · have := hl id (by rw [show lk [(d, (⟨[], true, 0, some (e, ei.size)⟩ : Blk))] id = some blk from hb]; simp)
        subst this
        simp [lk] at hb
        subst hb
        rw [upd_same]
        exact ⟨rfl, mv_some rfl hsz⟩
    · cases h
  · cases h
theorem evPick_ok (hrd : ∀ y x, rd y = some x → Rel (Imm φ X w) w φ x (a.eval y)) (hrdc : ∀ b t y x, rdc b t y = some x → a.tmps.getD t undef = .bool b → Rel (Imm φ X w) w φ x (a.eval y))
    {op : Oper} {c p q : Operand} (hop : op.op = .pick c p q) (h : evPick rd rdc c p q = some (o, v)) : ∃ z, (execOp a.eval op).run P w = .ok (.value z) w ∧ Rel (Imm φ X w) w φ v z := by
  unfold evPick at h
  split at h
  · rename_i t b hc
    have hcv := (hrd _ _ hc).val_inv
    have hc' : a.tmps.getD t undef = .bool b := hcv
    have hrun : (execOp a.eval op).run P w = .ok (.value (if b = true then a.eval p else a.eval q)) w := by
      simp only [execOp, hop, Sem.run_bind, asBool, hcv, Sem.run_pure, Result.andThen_ok]
    rw [hrun]
    split at h
    · split at h
      · rename_i z hz
        cases h
        refine ⟨_, rfl, ?_⟩
        cases b with
        | true =>
          have := (hrdc _ _ _ _ hz hc').val_inv
          simp only [if_true, this, Bool.true_and]
          exact .val rfl
        | false =>
          simp only [Bool.false_eq_true, if_false, Bool.false_and]
          exact .val rfl
      · cases h
    · split at h
      · split at h
        · rename_i z hz
          cases h
          refine ⟨_, rfl, ?_⟩
          cases b with
          | true =>
            simp only [if_true, Bool.true_or]
            exact .val rfl
          | false =>
            have := (hrdc _ _ _ _ hz hc').val_inv
            simp only [Bool.false_eq_true, if_false, this, Bool.false_or]
            exact .val rfl
        · cases h
      · cases h
  · cases h
theorem run_v {s : Sem Value} {z : Value} (h : s.run P w = .ok z w) : (do pure (Next.value (← s)) : Sem Next).run P w = .ok (.value z) w := by
  rw [Sem.run_bind, h]
  rfl
theorem bndV_of {rd : Operand → Option V} (hrd : ∀ y x, rd y = some x → Rel (Imm φ X w) w φ x (a.eval y)) {lo : Option Operand} {l : Option V} {n : Nat} {i : Int} (h : rdO rd lo = some l) (hb : bnd l n = some i) : bndV l (lo.map a.eval) := by
  cases lo with
  | none =>
    simp only [rdO, Option.some.injEq] at h
    subst h
    trivial
  | some y =>
    simp only [rdO, Option.map_eq_some_iff] at h
    obtain ⟨x, hx, rfl⟩ := h
    unfold bnd at hb
    split at hb
    · rename_i e; cases e
    · rename_i k j _ e
      cases e
      have := (hrd _ _ hx).val_inv
      simp [bndV, this]
    · cases hb

theorem stepV_ok (hT : TCok P tc) (hφ : Phi.ok φ X w H2) (hX : ∀ b, X b → b < w.heap.size) (hH : HR (Imm φ X w) w φ H) (hG : GOk (Imm φ X w) w)
    (hrd : ∀ y x, rd y = some x → Rel (Imm φ X w) w φ x (a.eval y)) (hrdc : ∀ b t y x, rdc b t y = some x → a.tmps.getD t undef = .bool b → Rel (Imm φ X w) w φ x (a.eval y))
    {op : Oper} {r : R} (h : stepV P tc H sym cr rd rdc op = some r) (ho : AllP r.obl) (hnew : ∀ id, lk r.new id ≠ none → φ id = .none) : OpSnd P op a w φ X r := by
  have hev : ∀ {d : Nat} {blk : Blk} {o v}, r = ⟨o, v, [(d, blk)]⟩ → φ d = .none := fun {d blk o v} e => hnew d (by subst e; simp [lk])
  obtain ⟨dst, o, type, pos, after, guard⟩ := op
  cases o
  case move x =>
    simp only [stepV, Option.bind_eq_some_iff] at h
    obtain ⟨z, hz, h⟩ := h
    refine fin_snd h ho (fun o v e _ => ?_)
    cases e
    exact ⟨_, rfl, hrd _ _ hz⟩
  case assign x =>
    simp only [stepV] at h
    split at h
    · rename_i d hn
      have hx : x = .const (.slice none 0 0) := by
        unfold isNilSl at hn
        split at hn
        · rfl
        · cases hn
      subst hx
      have h' := h
      unfold evNil at h'
      split at h'
      · split at h'
        · split at h'
          · cases h'
            exact evNil_ok h (hev rfl) rfl
          · cases h'
        · cases h'
      · cases h'
    · cases h
    · simp only [Option.bind_eq_some_iff] at h
      obtain ⟨z, hz, h⟩ := h
      refine fin_snd h ho (fun o v e _ => ?_)
      cases e
      exact ⟨_, rfl, hrd _ _ hz⟩
  case pick c p q =>
    simp only [stepV] at h
    exact fin_snd h ho (fun o v e _ => evPick_ok hrd hrdc rfl e)
  case alloc e =>
    simp only [stepV, Option.bind_eq_some_iff] at h
    obtain ⟨d, hd, h⟩ := h
    refine evAlloc_ok hT h ?_ rfl
    unfold evAlloc at h
    split at h
    · split at h
      · cases h
        exact hev rfl
      · cases h
    · cases h
  case box e x =>
    simp only [stepV, Option.bind_eq_some_iff] at h
    obtain ⟨d, hd, z, hz, h⟩ := h
    refine evBox_ok h ho ?_ rfl (hrd _ _ hz)
    unfold evBox at h
    split at h
    · simp only [Option.map_eq_some_iff] at h
      obtain ⟨o', _, rfl⟩ := h
      exact hev rfl
    · cases h
  case build t ps =>
    simp only [stepV, Option.bind_eq_some_iff] at h
    obtain ⟨z, hz, h⟩ := h
    refine fin_snd h ho (fun o v e _ => ?_)
    obtain ⟨r, h1, h2⟩ := evBuild_ok (w := w) hT e (rdsP_ok hrd hz)
    refine ⟨r, ?_, h2⟩
    have e2 : (ps.map fun p => (p.1, a.eval p.2)) = (ps.toList.map fun p => (p.1, a.eval p.2)).toArray := by
      rw [← Array.toList_map]
    show (do pure (Next.value (← Instr.build t (ps.map fun p => (p.1, a.eval p.2)))) : Sem Next).run P w = _
    rw [e2]
    exact run_v h1
  case buildSlice t len ps =>
    simp only [stepV, Option.bind_eq_some_iff] at h
    obtain ⟨d, hd, z, hz, h⟩ := h
    refine evBuildSliceF_ok hT hφ hX h (fun hf => ?_) (rdsP_ok hrd hz) ?_
    · rw [hf] at h
      unfold evBuildSliceF evBuildSlice at h
      simp only at h
      split at h
      · split at h
        · split at h
          · simp only [Option.map_eq_some_iff] at h
            obtain ⟨_, _, rfl⟩ := h
            exact hev rfl
          · cases h
        · cases h
      · cases h
    · have e2 : (ps.map fun p => (p.1, a.eval p.2)) = (ps.toList.map fun p => (p.1, a.eval p.2)).toArray := by
        rw [← Array.toList_map]
      show (do pure (Next.value (← Instr.buildSlice t len (ps.map fun p => (p.1, a.eval p.2)))) : Sem Next).run P w = _
      rw [e2]
  case makeSlice t l c =>
    simp only [stepV, Option.bind_eq_some_iff] at h
    obtain ⟨d, hd, vl, hvl, vc, hvc, h⟩ := h
    refine evMakeSlice_ok hT h ho ?_ (hrd _ _ hvl) (hrd _ _ hvc) rfl
    unfold evMakeSlice at h
    split at h
    · split at h
      · split at h
        · simp only [Option.map_eq_some_iff] at h
          obtain ⟨_, _, rfl⟩ := h
          exact hev rfl
        · cases h
      · cases h
    · cases h
  case load t x =>
    simp only [stepV, Option.bind_eq_some_iff] at h
    obtain ⟨z, hz, h⟩ := h
    refine fin_snd h ho (fun o v e ho' => ?_)
    obtain ⟨r, h1, h2⟩ := evLoad_ok hT e ho' (hrd _ _ hz) hH
    exact ⟨r, run_v h1, h2⟩
  case nilCheck x =>
    simp only [stepV, Option.bind_eq_some_iff] at h
    obtain ⟨z, hz, h⟩ := h
    refine fin_snd h ho (fun o v e ho' => ?_)
    have hr := hrd _ _ hz
    unfold evNC at e
    split at e
    · cases e
      generalize hu : a.eval x = u at hr
      cases hr with
      | ptr hs => exact ⟨_, by simp [execOp, hu], .ptr hs⟩
    · cases e
      generalize hu : a.eval x = u at hr
      cases hr with
      | vp q1 q2 q3 q4 => exact ⟨_, by simp [execOp, hu], .vp q1 q2 q3 q4⟩
    · cases e
      exact ho'.1.elim
    · cases e
  case makeFunc fn fs cs =>
    simp only [stepV, Option.bind_eq_some_iff] at h
    obtain ⟨as, has, bs, hbs, h⟩ := h
    refine fin_snd h ho (fun o v e ho' => ?_)
    cases e
    refine ⟨.func fn (fs.map a.eval) (cs.map a.eval), run_v (by simp [Instr.makeFunc]), ?_⟩
    have h1 := rds_ok hrd has
    have h2 := rds_ok hrd hbs
    have gen : Rel (Imm φ X w) w φ (.clo fn as bs) (.func fn (fs.map a.eval) (cs.map a.eval)) := by
      have q1 := h1.tup
      have q2 := h2.tup
      exact .clo (by simpa using q1.1) (fun i hi => by simpa using q1.2 i hi) (by simpa using q2.1) (fun i hi => by simpa using q2.2 i hi)
    unfold mkClo
    split
    · cases gen with
      | clo g1 g2 g3 g4 =>
        have e1 : fs.map a.eval = #[] := by apply Array.eq_empty_of_size_eq_zero; simpa using g1
        have e2 : cs.map a.eval = #[] := by apply Array.eq_empty_of_size_eq_zero; simpa using g3
        rw [e1, e2]
        exact .val rfl
    · exact gen
  case fieldAddr s x f =>
    simp only [stepV, Option.bind_eq_some_iff] at h
    obtain ⟨z, hz, h⟩ := h
    refine fin_snd h ho (fun o v e ho' => ?_)
    obtain ⟨r, h1, h2⟩ := evFieldAddr_ok hT e (hrd _ _ hz)
    exact ⟨r, run_v h1, h2⟩
  case field s x f =>
    simp only [stepV, Option.bind_eq_some_iff] at h
    obtain ⟨z, hz, h⟩ := h
    refine fin_snd h ho (fun o v e ho' => ?_)
    obtain ⟨r, h1, h2⟩ := evField_ok hT e ho' (hrd _ _ hz)
    exact ⟨r, run_v h1, h2⟩
  case indexAddr t x i =>
    simp only [stepV, Option.bind_eq_some_iff] at h
    obtain ⟨z, hz, j, hj, h⟩ := h
    refine fin_snd h ho (fun o v e ho' => ?_)
    obtain ⟨r, h1, h2⟩ := evIndexAddr_ok hT e ho' (hrd _ _ hz) (hrd _ _ hj)
    exact ⟨r, run_v h1, h2⟩
  case index t x i =>
    simp only [stepV, Option.bind_eq_some_iff] at h
    obtain ⟨z, hz, j, hj, h⟩ := h
    refine fin_snd h ho (fun o v e ho' => ?_)
    obtain ⟨r, h1, h2⟩ := evIndex_ok hT e ho' (hrd _ _ hz) (hrd _ _ hj)
    exact ⟨r, run_v h1, h2⟩
  case slice t x lo hi mx =>
    cases mx with
    | some m => simp [stepV] at h
    | none =>
      simp only [stepV, Option.bind_eq_some_iff] at h
      obtain ⟨z, hz, l, hl, q, hq, h⟩ := h
      refine fin_snd h ho (fun o v e ho' => ?_)
      have e' := e
      unfold evSlice at e'
      split at e'
      · cases e'
      rename_i l' hl'
      have hb1 := bndV_of hrd hl hl'
      have hb2 : bndV q (hi.map a.eval) := by
        cases hi with
        | none =>
          simp only [rdO, Option.some.injEq] at hq
          subst hq
          trivial
        | some y =>
          simp only [rdO, Option.map_eq_some_iff] at hq
          obtain ⟨x', hx', rfl⟩ := hq
          by_cases hbb : ∃ i, bnd (some x') 0 = some i
          · obtain ⟨i, hi'⟩ := hbb
            exact bndV_of (n := 0) hrd (lo := some y) (l := some x') (by simp [rdO, hx']) hi'
          · exfalso
            have hno : ∀ n, bnd (some x') n = none := fun n => by
              cases hbn : bnd (some x') n with
              | none => rfl
              | some i =>
                exfalso
                refine hbb ⟨i, ?_⟩
                unfold bnd at hbn ⊢
                split at hbn <;> first | (rename_i e0; cases e0; done) | (cases hbn; rename_i e0; cases e0; rfl) | cases hbn
            unfold evSlice at e
            simp only [hl', hno] at e
            split at e <;> (try split at e) <;> (try split at e) <;> (try split at e) <;> (try split at e) <;> (try split at e) <;> simp at e
      obtain ⟨r, h1, h2⟩ := evSlice_ok hT hH e ho' (hrd _ _ hz) hb1 hb2
      exact ⟨r, run_v h1, h2⟩
  case lookup t x k c =>
    simp only [stepV, Option.bind_eq_some_iff] at h
    obtain ⟨z, hz, j, hj, h⟩ := h
    refine fin_snd h ho (fun o v e ho' => ?_)
    obtain ⟨r, h1, h2⟩ := evLookup_ok hT hH e ho' (hrd _ _ hz) (hrd _ _ hj)
    exact ⟨r, run_v h1, h2⟩
  case makeMap t hint =>
    simp only [stepV, Option.bind_eq_some_iff] at h
    obtain ⟨d, hd, hv, hhv, h⟩ := h
    refine evMakeMap_ok (w := w) (φ := φ) (I := Imm φ X w) (hv := hint.map a.eval) hT ?_ h ?_ rfl
    · cases hint with
      | none => cases hhv; trivial
      | some y =>
        simp only [rdO, Option.map_eq_some_iff] at hhv
        obtain ⟨x', hx', rfl⟩ := hhv
        exact hrd _ _ hx'
    · unfold evMakeMap at h
      split at h
      · cases h; exact hev rfl
      · split at h
        · cases h; exact hev rfl
        · cases h
      · cases h
  case binOp op t x y t2 =>
    simp only [stepV, Option.bind_eq_some_iff] at h
    obtain ⟨z, hz, j, hj, h⟩ := h
    refine fin_snd h ho (fun o v e ho' => ?_)
    obtain ⟨r, h1, h2⟩ := evBin_ok hT x y e ho' (hrd _ _ hz) (hrd _ _ hj)
    exact ⟨r, run_v h1, h2⟩
  case unOp op t x =>
    simp only [stepV, Option.bind_eq_some_iff] at h
    obtain ⟨z, hz, h⟩ := h
    refine fin_snd h ho (fun o v e ho' => ?_)
    obtain ⟨r, h1, h2⟩ := evUn_ok e (hrd _ _ hz)
    exact ⟨r, run_v h1, h2⟩
  case sliceToArrayPointer t x =>
    simp only [stepV, Option.bind_eq_some_iff] at h
    obtain ⟨z, hz, h⟩ := h
    refine fin_snd h ho (fun o v e ho' => ?_)
    obtain ⟨r, h1, h2⟩ := evSAP_ok hT e (hrd _ _ hz)
    exact ⟨r, run_v h1, h2⟩
  case convert s d x =>
    simp only [stepV, Option.bind_eq_some_iff] at h
    obtain ⟨z, hz, h⟩ := h
    refine fin_snd h ho (fun o v e ho' => ?_)
    obtain ⟨r, h1, h2⟩ := evConv_ok hT e ho' (hrd _ _ hz)
    exact ⟨r, run_v h1, h2⟩
  case extract x i =>
    simp only [stepV, Option.bind_eq_some_iff] at h
    obtain ⟨z, hz, h⟩ := h
    refine fin_snd h ho (fun o v e ho' => ?_)
    obtain ⟨r, h1, h2⟩ := evExtract_ok e (hrd _ _ hz)
    exact ⟨r, run_v h1, h2⟩
  case call c =>
    obtain ⟨callee, xs, ts⟩ := c
    cases callee with
    | builtin b =>
      simp only [stepV, Option.bind_eq_some_iff] at h
      obtain ⟨vs, hvs, h⟩ := h
      have hr := rds_ok hrd hvs
      have exs : xs.map a.eval = (xs.toList.map a.eval).toArray := by rw [← Array.toList_map]
      generalize hus : xs.toList.map a.eval = us at hr exs
      have hrun : ∀ (z : Value) (s : Sem Value), s.run P w = .ok z w → (∀ cs, builtin b ts type cs us.toArray = (do pure (.value (← s)))) → (execOp a.eval ⟨dst, .call { callee := .builtin b, args := xs, argTypes := ts }, type, pos, after, guard⟩).run P w = .ok (.value z) w := fun z s hs hb => by
        simp only [execOp, resolve, Sem.run_bind, Sem.run_pure, Result.andThen_ok, exs, invoke, hb]
        rw [hs]
        rfl
      split at h
      · split at h
        · rename_i t z hts
          have ets : ts = #[t] := by cases ts; simp_all
          subst ets
          cases hr with
          | cons h1 h2 =>
            cases h2 with
            | nil =>
              split at h
              · refine fin_snd h ho (fun o v e ho' => ?_)
                obtain ⟨r, q1, q2⟩ := evLenM_ok (ty := type) hT hH e h1
                exact ⟨r, hrun _ _ q1 (fun _ => rfl), q2⟩
              · refine fin_snd h ho (fun o v e ho' => ?_)
                obtain ⟨r, q1, q2⟩ := evLen_ok (ty := type) hT e h1
                exact ⟨r, hrun _ _ q1 (fun _ => rfl), q2⟩
        · cases h
      · refine fin_snd h ho (fun o v e ho' => ?_)
        obtain ⟨r, q1, q2⟩ := evMM_ok (P := P) (w := w) e hr ts type
        exact ⟨r, hrun _ _ q1 (fun _ => rfl), q2⟩
      · refine fin_snd h ho (fun o v e ho' => ?_)
        obtain ⟨r, q1, q2⟩ := evMM_ok (P := P) (w := w) e hr ts type
        exact ⟨r, hrun _ _ q1 (fun _ => rfl), q2⟩
      · cases h
    | value y =>
      simp only [stepV, Option.bind_eq_some_iff] at h
      obtain ⟨g, hg, f, hf, vs, hvs, c, hc, h⟩ := h
      have hgf : a.eval y = .func (.func f) #[] #[] := by
        unfold evFn at hf
        split at hf
        · cases hf
          exact (hrd _ _ hg).val_inv
        · cases hf
      have hr := rds_ok hrd hvs
      have exs : xs.map a.eval = (xs.toList.map a.eval).toArray := by rw [← Array.toList_map]
      refine evCall_ok hφ hX hH hG h ho hnew (us := xs.toList.map a.eval) ?_ hr
      simp only [execOp, resolve, Sem.run_bind, Sem.run_pure, Result.andThen_ok, exs, Deferred.ofValue, hgf, invoke]
      simp
    | invoke r m => simp [stepV] at h
  all_goals simp [stepV] at h
end
end Go.Ab

set_option linter.unusedSimpArgs false
set_option linter.unusedVariables false
namespace Go.Ab
open Go.RowKit

/-- What holds where an operation of this guard comes up. -/
def chainOf (tm : List (Nat × T)) : Nat → Tmp → Bool → List (Nat × Bool)
  | 0, _, _ => []
  | n + 1, d, want => (d, want) :: match lk tm d with
    | some (.gd d2 w2 _) => chainOf tm n d2 w2
    | _ => []
def hasP (ch : List (Nat × Bool)) (d : Nat) (w : Bool) : Bool := ch.any fun p => p.1 == d && p.2 == w
def rdT (tm : List (Nat × T)) (ch : List (Nat × Bool)) (t : Tmp) : Option V :=
  match lk tm t with
  | some (.plain x) => some x
  | some (.gd d w x) => if hasP ch d w then some x else none
  | none => none
def rdA (tm : List (Nat × T)) (ch : List (Nat × Bool)) : Operand → Option V
  | .tmp t => rdT tm ch t
  | .const v => if scalar v then some (.val v) else none
  | .func f => some (.val (.func (.func f) #[] #[]))
  | .global g => (lk gTab g).map .vp
def rdC (tm : List (Nat × T)) (ch : List (Nat × Bool)) (b : Bool) (t : Tmp) : Operand → Option V := rdA tm (chainOf tm 20 t b ++ ch)
/-- The tests on the way to it. -/
def condsOf (tm : List (Nat × T)) : List (Nat × Bool) → Option (List Prop)
  | [] => some []
  | (d, w) :: r => match lk tm d, condsOf tm r with
    | some (.plain (.val (.bool b))), some ps => some ((b = w) :: ps)
    | some (.gd _ _ (.val (.bool b))), some ps => some ((b = w) :: ps)
    | _, _ => none
def imp : List Prop → Prop → Prop
  | [], p => p
  | c :: r, p => c → imp r p

structure Hint where
  sym : Option V
  cr : Option CR
def symOf (hs : List (Nat × Hint)) (i : Nat) : Option V := (lk hs i).bind (·.sym)
def crOf (hs : List (Nat × Hint)) (i : Nat) : Option CR := (lk hs i).bind (·.cr)

structure Cx where
  P : Program
  tc : List (Nat × TI)
  n : Nat

structure Out1 where
  obl : List Prop
  t : T
  new : List (Nat × Blk)
def nv : List V → V
  | [] => .top
  | v :: _ => v
/-- One operation of a segment: what is owed, what it yields, what is new. -/
def step1 (C : Cx) (ops : List Oper) (hs : List (Nat × Hint)) (i : Nat) (s : St) (o : Oper) : Option Out1 :=
  match o.guard with
  | none => match stepV C.P C.tc s.H (symOf hs i) (crOf hs i) (rdA s.tm []) (rdC s.tm []) o with
    | some r => some ⟨r.obl, .plain r.v, r.new⟩
    | none => none
  | some (j, want) => match (ops[j]?).bind (·.dst) with
    | some d => match symOf hs i with
      | some (.tup l) => match condsOf s.tm (chainOf s.tm 20 d want) with
        | some cs => some ⟨[imp cs False], .gd d want (nv l), []⟩
        | none => none
      | _ => match condsOf s.tm (chainOf s.tm 20 d want), stepV C.P C.tc s.H (symOf hs i) (crOf hs i) (rdA s.tm (chainOf s.tm 20 d want)) (rdC s.tm (chainOf s.tm 20 d want)) o with
        | some cs, some ⟨obl, v, new⟩ => some ⟨(if obl.isEmpty then [] else [imp cs (AllP obl)]), .gd d want v, new⟩
        | _, _ => none
    | none => none

section
variable {I : Nat → Prop} {P : Program} {w w' : World} {φ φ' : Phi} {X : Nat → Prop} {tm : List (Nat × T)} {H : List (Nat × Blk)} {a : Act} {C : Cx}

def TmRel (I : Nat → Prop) (w : World) (φ : Phi) (tm : List (Nat × T)) (a : Act) : Prop := ∀ t x, lk tm t = some x → TRel I w φ a.tmps t x
def holds (a : Act) (ch : List (Nat × Bool)) : Prop := ∀ p ∈ ch, a.tmps.getD p.1 undef = .bool p.2

theorem chain_holds (ht : TmRel I w φ tm a) : ∀ (n : Nat) (d : Tmp) (want : Bool), a.tmps.getD d undef = .bool want → holds a (chainOf tm n d want)
  | 0, _, _, _ => fun p hp => by simp [chainOf] at hp
  | n + 1, d, want, h => fun p hp => by
    simp only [chainOf, List.mem_cons] at hp
    rcases hp with rfl | hp
    · exact h
    · split at hp
      · rename_i d2 w2 x hx
        have := ht d _ hx
        refine chain_holds ht n d2 w2 ?_ p hp
        refine Classical.byContradiction fun hne => ?_
        have := this.2 hne
        rw [h] at this
        cases this
      · simp at hp
theorem hasP_holds {ch : List (Nat × Bool)} (h : holds a ch) {d : Nat} {b : Bool} (hp : hasP ch d b = true) : a.tmps.getD d undef = .bool b := by
  simp only [hasP, List.any_eq_true, Bool.and_eq_true, beq_iff_eq] at hp
  obtain ⟨p, h1, h2, h3⟩ := hp
  subst h2
  subst h3
  exact h p h1
theorem rdA_ok (hG : GOk I w) (ht : TmRel I w φ tm a) {ch : List (Nat × Bool)} (h : holds a ch) (y : Operand) (x : V) (hr : rdA tm ch y = some x) : Rel I w φ x (a.eval y) := by
  cases y with
  | tmp t =>
    simp only [rdA, rdT] at hr
    split at hr
    · rename_i z hz
      cases hr
      exact ht t _ hz
    · rename_i d b z hz
      split at hr
      · rename_i hp
        cases hr
        exact (ht t _ hz).1 (hasP_holds h hp)
      · cases hr
    · cases hr
  | const v =>
    simp only [rdA] at hr
    split at hr
    · rename_i hs
      cases hr
      exact .val hs
    · cases hr
  | func f => cases hr; exact .val rfl
  | global g =>
    simp only [rdA, Option.map_eq_some_iff] at hr
    obtain ⟨xs, hx, rfl⟩ := hr
    have := hG.1 g xs hx
    show Rel I w φ (.vp xs) (.pointer (some ⟨g, 0, none⟩))
    cases this with
    | vp q1 q2 q3 q4 => exact .vp q1 q2 q3 q4
theorem rdC_ok (hG : GOk I w) (ht : TmRel I w φ tm a) {ch : List (Nat × Bool)} (h : holds a ch) (b : Bool) (t : Tmp) (y : Operand) (x : V) (hr : rdC tm ch b t y = some x) (hb : a.tmps.getD t undef = .bool b) : Rel I w φ x (a.eval y) := by
  refine rdA_ok hG ht (fun p hp => ?_) y x hr
  rcases List.mem_append.1 hp with hp | hp
  · exact chain_holds ht 20 t b hb p hp
  · exact h p hp
theorem conds_hold (ht : TmRel I w φ tm a) : ∀ {ch : List (Nat × Bool)} {cs : List Prop}, condsOf tm ch = some cs → holds a ch → AllP cs
  | [], cs, h, _ => by cases h; trivial
  | (d, b) :: r, cs, h, hh => by
    unfold condsOf at h
    have hd : a.tmps.getD d undef = .bool b := hh (d, b) (by simp)
    have hr : holds a r := fun p hp => hh p (by simp [hp])
    split at h
    · rename_i b' ps hl hps
      cases h
      have := Rel.val_inv (ht d _ hl)
      rw [hd] at this
      cases this
      exact ⟨rfl, conds_hold ht hps hr⟩
    · rename_i d2 w2 b' ps hl hps
      cases h
      have h2 := ht d _ hl
      have : a.tmps.getD d2 undef = .bool w2 := Classical.byContradiction fun hne => by
        have := h2.2 hne
        rw [hd] at this
        cases this
      have := Rel.val_inv (h2.1 this)
      rw [hd] at this
      cases this
      exact ⟨rfl, conds_hold ht hps hr⟩
    · cases h
theorem imp_mp : ∀ {cs : List Prop} {p : Prop}, imp cs p → AllP cs → p
  | [], _, h, _ => h
  | _ :: _, _, h, k => imp_mp (h k.1) k.2

theorem yielded_of {ops : List Oper} {j : Nat} {d : Tmp} (hd : (ops[j]?).bind (·.dst) = some d) (tmps : Array Value) (want : Bool) : (yielded ops.toArray tmps j == some want) = true ↔ tmps.getD d undef = .bool want := by
  unfold yielded
  have e : (ops.toArray[j]?).bind (·.dst) = some d := by simpa using hd
  simp only [e, Option.bind_some]
  cases ht : tmps[d]? with
  | none => simp [Array.getD_eq_getD_getElem?, ht, undef]
  | some v =>
    simp only [Array.getD_eq_getD_getElem?, ht, Option.getD_some]
    cases v <;> simp

/-- What an operation leaves in its slot. -/
theorem step1_ok (hT : TCok C.P C.tc) {s : St} (hφ : Phi.ok φ X w H) (hX : ∀ b, X b → b < w.heap.size) (hH : HR (Imm φ X w) w φ s.H) (hG : GOk (Imm φ X w) w) (ht : TmRel (Imm φ X w) w φ s.tm a) {ops : List Oper} {hs : List (Nat × Hint)} {i : Nat} {o : Oper} {r : Out1} (h : step1 C ops hs i s o = some r) (ho : AllP r.obl)
    (hnew : ∀ id, lk r.new id ≠ none → φ id = .none) (Q : Exit → Act → World → Prop) (K : Act → World → Prop)
    (hK : ∀ u w' φ', Gr φ w φ' w' r.new → (∀ tmps : Array Value, (∀ d want x, r.t = .gd d want x → tmps.getD d undef = a.tmps.getD d undef) → ∀ t, tmps.getD t undef = u → TRel (Imm φ' X w') w' φ' tmps t r.t) → (∀ id blk, lk r.new id = some blk → BlkRel (Imm φ' X w') w' φ' (φ' id) blk) → K (a.put o.dst u) w') :
    if Region.wanted o (yielded ops.toArray a.tmps) then o.wp C.P a w K Q else K (a.put o.dst undef) w := by
  unfold step1 at h
  split at h
  · rename_i hg
    simp only [Region.wanted, hg, if_true]
    split at h
    · rename_i r0 hr0
      cases h
      refine stepV_ok hT hφ hX hH hG (rdA_ok hG ht (fun p hp => by simp at hp)) (rdC_ok hG ht (fun p hp => by simp at hp)) hr0 ho hnew Q K (fun u w' φ' h1 h2 h3 => hK u w' φ' h1 (fun tmps _ t e => ?_) h3)
      subst e
      exact h2
    · cases h
  · rename_i j want hg
    simp only [Region.wanted, hg]
    split at h
    · rename_i d hd
      split at h
      · split at h
        · rename_i cs hcs
          cases h
          have hy := yielded_of hd a.tmps want
          by_cases hw : a.tmps.getD d undef = .bool want
          · exact (imp_mp ho.1 (conds_hold ht hcs (chain_holds ht 20 d want hw))).elim
          · rw [if_neg (fun e => hw (hy.1 e))]
            refine hK undef w φ (Gr.skip hnew) (fun tmps hk t e => ?_) (fun id blk hb => (by cases hb))
            have e2 := hk d want _ rfl
            exact ⟨fun h => absurd (e2.symm.trans h) hw, fun _ => e⟩
        · cases h
      split at h
      · rename_i cs obl v new hcs hst
        cases h
        have hy := yielded_of hd a.tmps want
        by_cases hw : a.tmps.getD d undef = .bool want
        · rw [if_pos (hy.2 hw)]
          have hch := chain_holds ht 20 d want hw
          have hobl : AllP obl := by
            cases obl with
            | nil => trivial
            | cons p ps =>
              simp only [List.isEmpty_cons, Bool.false_eq_true, if_false] at ho
              exact imp_mp ho.1 (conds_hold ht hcs hch)
          refine stepV_ok hT hφ hX hH hG (rdA_ok hG ht hch) (rdC_ok hG ht hch) hst hobl hnew Q K (fun u w' φ' h1 h2 h3 => hK u w' φ' h1 (fun tmps hk t e => ?_) h3)
          subst e
          have e2 := hk d want v rfl
          exact ⟨fun _ => h2, fun hne => absurd (e2.trans hw) hne⟩
        · rw [if_neg (fun e => hw (hy.1 e))]
          refine hK undef w φ (Gr.skip hnew) (fun tmps hk t e => ?_) (fun id blk hb => by
            have : lk new id ≠ none := by rw [show lk new id = some blk from hb]; simp
            rw [hnew id this]
            trivial)
          have e2 := hk d want v rfl
          exact ⟨fun h => absurd (e2.symm.trans h) hw, fun _ => e⟩
      · cases h
    · cases h
end
end Go.Ab
