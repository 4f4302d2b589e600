/- The call of a function whose contract is known; one step of a segment. -/
import Derived.Test.YtmeiemdnhjnpcaaAb8
set_option linter.unusedSimpArgs false
set_option linter.unusedVariables false
namespace Go.Ab
open Go.RowKit

/-- It stands for the same value wherever memory lies. -/
def VO (x : V) : Prop := ∀ (I : Nat → Prop) (w : World) (I' : Nat → Prop) (w' : World) (φ : Phi) (u : Value), Rel I w φ x u → Rel I' w' φ x u
theorem VO.val (v : Value) : VO (.val v) := fun _ _ _ _ _ _ h => by cases h with | val h => exact .val h
theorem VO.ptr (i f : Nat) : VO (.ptr i f) := fun _ _ _ _ _ _ h => by cases h with | ptr h => exact .ptr h
theorem VO.sl (i f n : Nat) : VO (.sl i f n) := fun _ _ _ _ _ _ h => by
  cases h with
  | sl a b c d => exact .sl a b c d
  | slnil h => exact .slnil h
theorem VO.vs_nil (n : Nat) : VO (.vs [] n) := fun _ _ _ _ _ _ h => by
  cases h with
  | vs a b c d e f g =>
    rename_i us _ _
    obtain rfl : us = [] := List.eq_nil_of_length_eq_zero a
    exact .vs a (fun i h => by simp at h) c (fun j u hu => by simp at hu) e f g
theorem VO.agg {fl : Bool} {cs : List V} (h : ∀ x ∈ cs, VO x) : VO (.agg fl cs) := fun _ _ _ _ _ _ k => by
  cases k with
  | agg a b c => exact .agg a (fun i hi => h _ (List.getElem_mem hi) _ _ _ _ _ _ (b i hi)) c
theorem VO.tup {cs : List V} (h : ∀ x ∈ cs, VO x) : VO (.tup cs) := fun _ _ _ _ _ _ k => by
  cases k with
  | tup a b => exact .tup a (fun i hi => h _ (List.getElem_mem hi) _ _ _ _ _ _ (b i hi))
def VOL (cs : List V) : Prop := ∀ x ∈ cs, VO x
theorem VOL.nil : VOL [] := fun x h => by simp at h
theorem VOL.cons {x : V} {r : List V} (h : VO x) (k : VOL r) : VOL (x :: r) := fun y hy => by
  rcases List.mem_cons.1 hy with rfl | hy
  · exact h
  · exact k y hy
def VOH : List (Nat × Blk) → Prop
  | [] => True
  | (_, b) :: r => VOL b.cells ∧ VOH r

/-- What is told of a call: its result, the new blocks; which own slices are lent. -/
structure CR where
  r : V
  Hout : List (Nat × Blk)
  lent : List (Nat × Bool)

def lentOf : List (Nat × Bool) → Nat → Option Bool
  | l, id => lk l id
def frzL (f : V → Option (List Prop × V)) : List V → Option (List Prop × List V)
  | [] => some ([], [])
  | x :: r => match f x, frzL f r with
    | some (o, y), some (o', ys) => some (o ++ o', y :: ys)
    | _, _ => none
/-- A value whose own slices, and theirs, are lent. -/
def frz (H : List (Nat × Blk)) (lent : List (Nat × Bool)) : Nat → V → Option (List Prop × V)
  | 0, _ => none
  | n + 1, x => if flat x then some ([], x) else match x with
    | .sl id off m => match lk lent id, lk H id with
      | some true, some blk => match (if blk.flat then some ([], blk.cells) else frzL (frz H lent n) blk.cells) with
        | some (o, cs) => some ((off = 0) :: o, .vs cs m)
        | none => none
      | some false, some blk => if blk.flat then some ([off + m ≤ blk.cells.length], .vs ((blk.cells.drop off).take m) m) else none
      | _, _ => none
    | .agg false cs => match frzL (frz H lent n) cs with
      | some (o, ds) => some (o, .agg true ds)
      | none => none
    | _ => none
/-- A value as it is handed over. -/
def hand0 (tc : List (Nat × TI)) (H : List (Nat × Blk)) (lent : List (Nat × Bool)) (t : TypeId) (x : V) : Option (List Prop × V) :=
  if flat x then some ([], x) else
  match x with
  | .sl id off n => match lk lent id, lk H id, lk tc t with
    | some full, some blk, some ⟨.slice e, _, _, _, _⟩ => match lk tc e with
      | some ei => if blk.flat then
          if full then some ([off = 0, n * ei.size = blk.cells.length], .vs blk.cells n)
          else some ([off + n * ei.size ≤ blk.cells.length], .vs ((blk.cells.drop off).take (n * ei.size)) n)
        else none
      | none => none
    | _, _, _ => none
  | .ptr id off => match lk lent id, lk H id with
    | some _, some blk => if blk.flat then some ([], .vp (dropC off blk.cells)) else none
    | _, _ => none
  | _ => none
def hand (tc : List (Nat × TI)) (H : List (Nat × Blk)) (lent : List (Nat × Bool)) (t : TypeId) (x : V) : Option (List Prop × V) :=
  match hand0 tc H lent t x with
  | some r => some r
  | none => frz H lent 4 x
def hands (tc : List (Nat × TI)) (H : List (Nat × Blk)) (lent : List (Nat × Bool)) : List TypeId → List V → Option (List Prop × List V)
  | [], [] => some ([], [])
  | t :: ts, x :: xs => match hand tc H lent t x, hands tc H lent ts xs with
    | some (o, y), some (o', ys) => some (o ++ o', y :: ys)
    | _, _ => none
  | _, _ => none

section
variable {P : Program} {w w' : World} {φ φ' : Phi} {X : Nat → Prop} {tc : List (Nat × TI)} {H H2 new : List (Nat × Blk)} {sym : Bool} {o : List Prop} {v x y : V} {u ux uy : Value}

/-- What the callee may not touch, and what may not be handed back. -/
def Xc (φ : Phi) (X : Nat → Prop) (lent : List (Nat × Bool)) (b : Nat) : Prop := X b ∨ ∃ id c, φ id = .at b c ∧ lk lent id = none

theorem imm_xc {lent : List (Nat × Bool)} {b : Nat} (h : Imm φ X w b) : Imm Phi.emp (Xc φ X lent) w b :=
  ⟨h.1, fun id c h => (by cases h), fun hx => hx.elim h.2.2 (fun ⟨id, c, hs, _⟩ => h.2.1 id c hs)⟩

theorem hand0_ok (hφ : Phi.ok φ X w H2) (hH : HR (Imm φ X w) w φ H) {lent : List (Nat × Bool)} {t : TypeId} (h : hand0 tc H lent t x = some (o, y)) (ho : AllP o) (hx : Rel (Imm φ X w) w φ x u) :
    Rel (Imm Phi.emp (Xc φ X lent) w) w Phi.emp y u := by
  unfold hand0 at h
  split at h
  · rename_i hf
    cases h
    exact (hx.emp hf).mono (fun b hb => ⟨imm_xc hb, rfl⟩) _ (fun _ _ _ h => h) (fun _ h => h)
  · split at h
    · rename_i id off n hf
      split at h
      · rename_i full blk e _ _ _ _ hl hb hti
        split at h
        · rename_i ei hei
          split at h
          · rename_i hfl
            cases hx with
            | sl hs h1 h2 h3 =>
              rename_i cap b c
              have hblk := slot_blk hH hb hs
              have hm := mem_blk hblk
              rw [hfl] at hm
              have hB : b < w.heap.size := hφ.lt _ _ _ hs
              have himm : Imm Phi.emp (Xc φ X lent) w b := ⟨hB, fun id c h => (by cases h), fun hx => hx.elim (hφ.free _ _ _ hs) (fun ⟨id', c', hs', hl'⟩ => by
                have := hφ.inj _ _ _ _ _ hs hs'
                subst this
                rw [hl] at hl'
                cases hl')⟩
              cases hm with
              | mk hr hc hsp =>
                rename_i us
                have hr' : RelL (Imm Phi.emp (Xc φ X lent) w) w Phi.emp blk.cells us := hr.mono (fun b hb => ⟨imm_xc hb, rfl⟩) (fun _ _ _ h => h) (fun _ h => h)
                split at h
                · cases h
                  obtain ⟨rfl, h5, _⟩ := ho
                  refine .vs hr'.1 hr'.2.1 hr'.2.2 (fun j z hz => ⟨b, 0, rfl, himm, ?_⟩) (fun e => by cases e) h1 h2
                  have := hc j z hz
                  simpa using this
                · cases h
                  have hd := (hr'.drop off).take (n * ei.size)
                  refine .vs hd.1 hd.2.1 hd.2.2 (fun j z hz => ⟨b, off, rfl, himm, ?_⟩) (fun e => by cases e) h1 h2
                  rw [List.getElem?_take] at hz
                  split at hz
                  · rw [List.getElem?_drop] at hz
                    have := hc _ z hz
                    simpa using this
                  · cases hz
            | slnil hs =>
              have hblk := hH id blk hb
              rw [hs] at hblk
              have hc : blk.cells = [] := hblk.1
              split at h
              · cases h
                rw [hc]
                exact Rel.vs (us := []) rfl (fun i h => by simp at h) (fun u h => by simp at h) (fun j u hu => by simp at hu) (fun _ => rfl) (Nat.le_refl _) (by omega)
              · cases h
                rw [hc]
                simp only [List.drop_nil, List.take_nil]
                exact Rel.vs (us := []) rfl (fun i h => by simp at h) (fun u h => by simp at h) (fun j u hu => by simp at hu) (fun _ => rfl) (Nat.le_refl _) (by omega)
          · cases h
        · cases h
      · cases h
    · rename_i id off hf
      split at h
      · rename_i full blk hl hb
        split at h
        · rename_i hfl
          cases h
          cases hx with
          | ptr hs =>
            rename_i b c
            have hblk := slot_blk hH hb hs
            have hm := mem_blk hblk
            rw [hfl] at hm
            have himm : Imm Phi.emp (Xc φ X lent) w b := ⟨hφ.lt _ _ _ hs, fun id c h => (by cases h), fun hx => hx.elim (hφ.free _ _ _ hs) (fun ⟨id', c', hs', hl'⟩ => by
              have := hφ.inj _ _ _ _ _ hs hs'
              subst this
              rw [hl] at hl'
              cases hl')⟩
            have hmo := Mem.drop hm off
            rw [dropC_eq]
            cases hmo with
            | mk hr hc hsp =>
              rename_i us
              have hr' : RelL (Imm Phi.emp (Xc φ X lent) w) w Phi.emp (blk.cells.drop off) us := hr.mono (fun b hb => ⟨imm_xc hb, rfl⟩) (fun _ _ _ h => h) (fun _ h => h)
              refine .vp hr'.1 hr'.2.1 hr'.2.2 (fun j z hz => ⟨b, off, rfl, himm, ?_⟩)
              have := hc j z hz
              simpa using this
        · cases h
      · cases h
    · cases h
theorem frzL_ok {I I' : Nat → Prop} {φ' : Phi} {f : V → Option (List Prop × V)} (hf : ∀ x u o y, f x = some (o, y) → AllP o → Rel I w φ x u → Rel I' w φ' y u) : ∀ {cs ys : List V} {us : List Value} {o : List Prop}, frzL f cs = some (o, ys) → AllP o → RelL I w φ cs us → RelL I' w φ' ys us
  | [], ys, us, o, h, _, hr => by
    cases h
    have : us = [] := List.eq_nil_of_length_eq_zero (by simpa using hr.1)
    subst this
    exact RelL.nil
  | x :: r, ys, us, o, h, ho, hr => by
    unfold frzL at h
    split at h
    · rename_i o1 y o2 ys' hy hys
      cases h
      obtain ⟨p1, p2⟩ := AllP.append.1 ho
      cases us with
      | nil => have := hr.1; simp at this
      | cons u us =>
        have h0 := hr.2.1 0 (by simp)
        have ht : RelL I w φ r us := by
          have := hr.drop 1
          simpa using this
        exact RelL.cons (hf _ _ _ _ hy p1 (by simpa using h0)) (hr.2.2 u (by simp)) (frzL_ok hf hys p2 ht)
    · cases h
theorem frz_ok (hφ : Phi.ok φ X w H2) (hH : HR (Imm φ X w) w φ H) {lent : List (Nat × Bool)} : ∀ (n : Nat) (x : V) (u : Value) (o : List Prop) (y : V), frz H lent n x = some (o, y) → AllP o → Rel (Imm φ X w) w φ x u →
    Rel (Imm Phi.emp (Xc φ X lent) w) w Phi.emp y u
  | 0, _, _, _, _, h, _, _ => by cases h
  | n + 1, x, u, o, y, h, ho, hx => by
    unfold frz at h
    split at h
    · rename_i hf
      cases h
      exact (hx.emp hf).mono (fun b hb => ⟨imm_xc hb, rfl⟩) _ (fun _ _ _ h => h) (fun _ h => h)
    · split at h
      · rename_i id off m hf
        split at h
        · rename_i blk hl hb
          split at h
          · rename_i o' cs hcs
            cases h
            obtain ⟨rfl, ho'⟩ := ho
            -- its cells, frozen
            have hcell : ∀ {us : List Value}, RelL (Imm φ X w) w (bFlat φ blk.flat) blk.cells us → RelL (Imm Phi.emp (Xc φ X lent) w) w Phi.emp cs us := fun {us} hr => by
              cases hfl : blk.flat with
              | true =>
                rw [hfl] at hr hcs
                simp only [if_true, Option.some.injEq, Prod.mk.injEq] at hcs
                obtain ⟨_, rfl⟩ := hcs
                exact hr.mono (fun b hb => ⟨imm_xc hb, rfl⟩) (fun _ _ _ h => h) (fun _ h => h)
              | false =>
                rw [hfl] at hr hcs
                simp only [Bool.false_eq_true, if_false] at hcs
                exact frzL_ok (fun x u o y => frz_ok hφ hH n x u o y) hcs ho' hr
            cases hx with
            | sl hs h1 h2 h3 =>
              rename_i cap b c
              have hblk := slot_blk hH hb hs
              have hm := mem_blk hblk
              have hB : b < w.heap.size := hφ.lt _ _ _ hs
              have himm : Imm Phi.emp (Xc φ X lent) w b := ⟨hB, fun id c h => (by cases h), fun hx => hx.elim (hφ.free _ _ _ hs) (fun ⟨id', c', hs', hl'⟩ => by
                have := hφ.inj _ _ _ _ _ hs hs'
                subst this
                rw [hl] at hl'
                cases hl')⟩
              cases hm with
              | mk hr hc hsp =>
                rename_i us
                have hr' := hcell hr
                refine .vs hr'.1 hr'.2.1 hr'.2.2 (fun j z hz => ⟨b, 0, rfl, himm, ?_⟩) (fun e => by cases e) h1 h2
                have := hc j z hz
                simpa using this
            | slnil hs =>
              have hblk := hH id blk hb
              rw [hs] at hblk
              have hc : blk.cells = [] := hblk.1
              have hr' := hcell (us := []) (by rw [hc]; exact RelL.nil)
              have hcs0 : cs = [] := List.eq_nil_of_length_eq_zero (by simpa using hr'.1.symm)
              rw [hcs0]
              exact Rel.vs (us := []) rfl (fun i h => by simp at h) (fun u h => by simp at h) (fun j u hu => by simp at hu) (fun _ => rfl) (Nat.le_refl _) (by omega)
          · cases h
        · rename_i blk hl hb
          split at h
          · rename_i hfl
            cases h
            obtain ⟨hle, _⟩ := ho
            cases hx with
            | sl hs h1 h2 h3 =>
              rename_i cap b c
              have hblk := slot_blk hH hb hs
              have hm := mem_blk hblk
              rw [hfl] at hm
              have hB : b < w.heap.size := hφ.lt _ _ _ hs
              have himm : Imm Phi.emp (Xc φ X lent) w b := ⟨hB, fun id c h => (by cases h), fun hx => hx.elim (hφ.free _ _ _ hs) (fun ⟨id', c', hs', hl'⟩ => by
                have := hφ.inj _ _ _ _ _ hs hs'
                subst this
                rw [hl] at hl'
                cases hl')⟩
              cases hm with
              | mk hr hc hsp =>
                rename_i us
                have hr' : RelL (Imm Phi.emp (Xc φ X lent) w) w Phi.emp blk.cells us := hr.mono (fun b hb => ⟨imm_xc hb, rfl⟩) (fun _ _ _ h => h) (fun _ h => h)
                have hd := (hr'.drop off).take m
                refine .vs hd.1 hd.2.1 hd.2.2 (fun j z hz => ⟨b, off, rfl, himm, ?_⟩) (fun e => by cases e) h1 h2
                rw [List.getElem?_take] at hz
                split at hz
                · rw [List.getElem?_drop] at hz
                  have := hc _ z hz
                  simpa using this
                · cases hz
            | slnil hs =>
              simp only [List.take_zero]
              exact Rel.vs (us := []) rfl (fun i h => by simp at h) (fun u h => by simp at h) (fun j u hu => by simp at hu) (fun _ => rfl) (Nat.le_refl _) (by omega)
          · cases h
        · cases h
      · rename_i cs hf
        split at h
        · rename_i o' ds hds
          cases h
          cases hx with
          | agg hl hr h1 =>
            rename_i us
            have hrl : RelL (Imm φ X w) w φ cs us.toList := ⟨by simpa using hl, by simpa using hr, h1⟩
            have := frzL_ok (fun x u o y => frz_ok hφ hH n x u o y) hds ho hrl
            exact .agg (by simpa using this.1) (by simpa using this.2.1) this.2.2
        · cases h
      · cases h
theorem hand_ok (hφ : Phi.ok φ X w H2) (hH : HR (Imm φ X w) w φ H) {lent : List (Nat × Bool)} {t : TypeId} (h : hand tc H lent t x = some (o, y)) (ho : AllP o) (hx : Rel (Imm φ X w) w φ x u) :
    Rel (Imm Phi.emp (Xc φ X lent) w) w Phi.emp y u := by
  unfold hand at h
  split at h
  · rename_i r hr
    cases h
    exact hand0_ok hφ hH hr ho hx
  · exact frz_ok hφ hH 4 x u o y h ho hx
theorem hands_ok (hφ : Phi.ok φ X w H2) (hH : HR (Imm φ X w) w φ H) {lent : List (Nat × Bool)} : ∀ {ts : List TypeId} {xs ys : List V} {us : List Value} {o : List Prop}, hands tc H lent ts xs = some (o, ys) → AllP o → Rels (Imm φ X w) w φ xs us →
    Rels (Imm Phi.emp (Xc φ X lent) w) w Phi.emp ys us
  | [], [], ys, us, o, h, _, hr => by
    cases h
    cases hr
    exact .nil
  | t :: ts, x :: xs, ys, us, o, h, ho, hr => by
    cases hr with
    | cons h1 h2 =>
      unfold hands at h
      split at h
      · rename_i o1 y o2 ys' hy hys
        cases h
        obtain ⟨p1, p2⟩ := AllP.append.1 ho
        exact .cons (hand_ok hφ hH hy p1 h1) (hands_ok hφ hH hys p2 h2)
      · cases h
  | [], _ :: _, _, _, _, h, _, _ => by cases h
  | _ :: _, [], _, _, _, h, _, _ => by cases h

/-- How far the callee's blocks are renumbered. -/
def base (d : Nat) : Nat := 10000 * (d + 1)
def evCall (P : Program) (tc : List (Nat × TI)) (H : List (Nat × Blk)) (d : Nat) (f : FuncId) (ts : List TypeId) (xs : List V) (c : CR) : Option R :=
  match hands tc H c.lent ts xs with
  | some (o, ys) => some ⟨(if c.lent.isEmpty then [] else [VO c.r, VOH c.Hout]) ++ (Con P f [] ys c.Hout c.r :: o), ren (base d) c.r, renH (base d) c.Hout⟩
  | none => none

theorem VOH.get : ∀ {Hl : List (Nat × Blk)} {id : Nat} {b : Blk}, VOH Hl → lk Hl id = some b → VOL b.cells
  | [], _, _, _, h => by cases h
  | (i, b') :: r, id, b, hv, h => by
    simp only [lk] at h
    split at h
    · cases h
      exact hv.1
    · exact VOH.get hv.2 h
theorem VOL.rel {cs : List V} (h : VOL cs) {I I' : Nat → Prop} {us : List Value} (hr : RelL I w φ cs us) : RelL I' w φ cs us :=
  ⟨hr.1, fun i hi => h _ (List.getElem_mem hi) _ _ _ _ _ _ (hr.2.1 i hi), hr.2.2⟩
theorem VOL.blk {I I' : Nat → Prop} {s : Slot} {b : Blk} (h : VOL b.cells) (hr : BlkRel I w φ s b) : BlkRel I' w φ s b := by
  cases s with
  | none => trivial
  | nil => exact hr
  | «at» bb c =>
    obtain ⟨us, el, h1, h2, h3⟩ := hr
    exact ⟨us, el, h1, h.rel h2, h3⟩
theorem BlkRel.mono {I I' : Nat → Prop} {s : Slot} {b : Blk} (im : ∀ b, I b → I' b ∧ w'.heap[b]? = w.heap[b]?) (hw : ∀ b c, s = .at b c → w'.heap[b]? = w.heap[b]?) (ha : ∀ id b c, φ id = .at b c → φ' id = .at b c) (hn : ∀ id, φ id = .nil → φ' id = .nil)
    (hr : BlkRel I w φ s b) : BlkRel I' w' φ' s b := by
  cases s with
  | none => trivial
  | nil => exact hr
  | «at» bb c =>
    obtain ⟨us, el, h1, h2, h3⟩ := hr
    refine ⟨us, el, (hw bb c rfl).trans h1, h2.mono im ?_ ?_, h3⟩
    · cases b.flat
      · exact ha
      · exact fun _ _ _ h => h
    · cases b.flat
      · exact hn
      · exact fun _ h => h

theorem evCall_ok (hφ : Phi.ok φ X w H2) (hX : ∀ b, X b → b < w.heap.size) (hH : HR (Imm φ X w) w φ H) (hG : GOk (Imm φ X w) w) {d : Nat} {f : FuncId} {ts : List TypeId} {xs : List V} {c : CR} {r : R} (h : evCall P tc H d f ts xs c = some r) (ho : AllP r.obl)
    (hnew : ∀ id, lk r.new id ≠ none → φ id = .none) {op : Oper} {a : Act} {us : List Value} (hrun : (execOp a.eval op).run P w = (callFunc f us.toArray).run P w) (hx : Rels (Imm φ X w) w φ xs us) : OpSnd P op a w φ X r := by
  unfold evCall at h
  split at h
  · rename_i o ys hys
    cases h
    obtain ⟨ho1, ho2⟩ := AllP.append.1 ho
    obtain ⟨hcon, ho3⟩ := ho2
    obtain ⟨⟨fn, hf1, hf2, hf3⟩, hcon⟩ := hcon
    have hargs := hands_ok hφ hH hys ho3 hx
    intro Q K hK
    unfold Oper.wp
    rw [hrun]
    have hcf : (callFunc f us.toArray).run P w = .ok (.enter f us.toArray) w := by
      simp only [callFunc, Sem.run_bind, run_program, Result.andThen_ok, hf1, hf2, hf3, Bool.false_eq_true, if_false, Sem.run_pure]
    rw [hcf, Oper.upon_enter]
    have hXc : ∀ b, Xc φ X c.lent b → b < w.heap.size := fun b hb => hb.elim (hX b) (fun ⟨id, cc, hs, _⟩ => hφ.lt _ _ _ hs)
    have hemp : Phi.ok Phi.emp (Xc φ X c.lent) w [] := ⟨fun i j b c c' h => (by cases h), fun i b c h => (by cases h), fun i b c h => (by cases h), fun i _ => rfl⟩
    refine (hcon (Xc φ X c.lent) Phi.emp w us hemp hXc (fun id blk h => by cases h) hargs (hG.mono fun b hb => ⟨⟨hb.1, fun _ _ h => (by cases h), fun hx => hx.elim hb.2.2 (fun ⟨id, cc, hs, _⟩ => hb.2.1 _ _ hs)⟩, rfl⟩)).mono ?_
    rintro e w' ⟨u, φ', rfl, hfr, hok, hnw, hHo, hru, _⟩
    let k := base d
    let φ2 : Phi := fun id => if lk (renH k c.Hout) id = none then φ id else φ' (id - k)
    have hφ2 : ∀ id, φ' id ≠ .none → φ2 (id + k) = φ' id := fun id hid => by
      have hl : lk c.Hout id ≠ none := fun e => hid (hok.dom id e)
      obtain ⟨b0, hb0⟩ := Option.ne_none_iff_exists'.1 hl
      have := lk_renH_of (k := k) hb0
      simp only [φ2, this]
      simp
    have hnew' : ∀ id, lk (renH k c.Hout) id ≠ none → φ2 id = φ' (id - k) := fun id hid => by simp only [φ2]; rw [if_neg hid]
    have hold : ∀ id, lk (renH k c.Hout) id = none → φ2 id = φ id := fun id hid => by simp only [φ2]; rw [if_pos hid]
    have hfresh : ∀ id b cc, φ' id = .at b cc → w.heap.size ≤ b := fun id b cc hs => by
      rcases hnw id b cc hs with ⟨_, _, h⟩ | h
      · cases h
      · exact h
    have hge : ∀ id, lk (renH k c.Hout) id ≠ none → ∃ j, id = j + k := fun id hid => by
      obtain ⟨b0, hb0⟩ := Option.ne_none_iff_exists'.1 hid
      obtain ⟨j, _, hj, _⟩ := lk_renH hb0
      exact ⟨j, hj⟩
    have hgr : Gr φ w φ2 w' (renH k c.Hout) := by
      refine ⟨hfr.os, hfr.tape, hfr.output, hfr.size, fun b hb => hfr.block b hb (fun id c h => by cases h), hold, fun id b cc hid hs => ?_, fun i j b cc cc' hi hj h1 h2 => ?_⟩
      · rw [hnew' id hid] at hs
        exact ⟨hfresh _ _ _ hs, hok.lt _ _ _ hs⟩
      · rw [hnew' i hi] at h1
        rw [hnew' j hj] at h2
        have := hok.inj _ _ _ _ _ h1 h2
        obtain ⟨i', rfl⟩ := hge i hi
        obtain ⟨j', rfl⟩ := hge j hj
        omega
    -- what the callee may hand back nobody here writes
    have himm : c.lent = [] → ∀ b, Imm φ' (Xc φ X c.lent) w' b → Imm φ2 X w' b ∧ w'.heap[b]? = w'.heap[b]? := fun hl b hb => by
      obtain ⟨h1, h2, h3⟩ := hb
      refine ⟨⟨h1, fun id cc hs => ?_, fun hx => h3 (.inl hx)⟩, rfl⟩
      by_cases hid : lk (renH k c.Hout) id = none
      · rw [hold id hid] at hs
        exact h3 (.inr ⟨id, cc, hs, by rw [hl]; rfl⟩)
      · rw [hnew' id hid] at hs
        exact h2 _ _ hs
    have hrel : Rel (Imm φ2 X w') w' φ2 (ren k c.r) u := by
      by_cases hl : c.lent = []
      · exact (hru.ren φ2 hφ2).mono (himm hl) _ (fun _ _ _ h => h) (fun _ h => h)
      · have hv : VO c.r := by
          rw [if_neg (by simpa using hl)] at ho1
          exact ho1.1
        exact (hv _ _ (Imm φ2 X w') w' _ _ hru).ren φ2 hφ2
    refine hK u w' φ2 hgr hrel (fun id blk hb => ?_)
    obtain ⟨j, b0, rfl, hj, rfl⟩ := lk_renH hb
    have hid : lk (renH k c.Hout) (j + k) ≠ none := by
      have e : lk (renH k c.Hout) (j + k) = some (renB k b0) := hb
      rw [e]
      simp
    rw [hnew' _ hid, Nat.add_sub_cancel]
    have hb0 := hHo j b0 hj
    by_cases hl : c.lent = []
    · exact (hb0.ren φ2 hφ2).mono (himm hl) (fun _ _ _ => rfl) (fun _ _ _ h => h) (fun _ h => h)
    · have hv : VOH c.Hout := by
        rw [if_neg (by simpa using hl)] at ho1
        exact ho1.2.1
      exact ((hv.get hj).blk hb0).ren φ2 hφ2
  · cases h
end
end Go.Ab
