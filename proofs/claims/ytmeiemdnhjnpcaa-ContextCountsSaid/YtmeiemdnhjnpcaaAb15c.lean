/- A call that is lent own blocks to write. -/
import Derived.Test.YtmeiemdnhjnpcaaAb15b
set_option linter.unusedSimpArgs false
set_option linter.unusedVariables false
namespace Go.Ab
open Go.RowKit

/-- Which block of the contract is which one of the caller's. -/
def pairsL : List V → List (Nat × Nat)
  | [] => []
  | .sl c i _ :: r => (c, i) :: pairsL r
  | _ :: r => pairsL r
def pairsOf : Option V → List (Nat × Nat)
  | some (.tup l) => pairsL l
  | _ => []
def distinct : List Nat → Bool
  | [] => true
  | x :: r => !(r.contains x) && distinct r
def ownIn (H : List (Nat × Blk)) : List (Nat × Nat) → Option (List (Nat × Blk))
  | [] => some []
  | (c, i) :: r => match lk H i, ownIn H r with
    | some b, some l => some ((c, b) :: l)
    | _, _ => none
def setOwn (Hout : List (Nat × Blk)) (H : List (Nat × Blk)) : List (Nat × Nat) → Option (List (Nat × Blk))
  | [] => some H
  | (c, i) :: r => match lk Hout c, lk H i, setOwn Hout H r with
    | some b', some b, some H1 => if (b.flat && b.bld.isNone) && ((b'.flat && b'.bld.isNone) && Nat.ble BIG c) then some (ins i b' H1) else none
    | _, _, _ => none
def cOf (ps : List (Nat × Nat)) (i : Nat) : Option Nat :=
  match ps with
  | [] => none
  | (c, j) :: r => if Nat.beq j i then some c else cOf r i
def ownArg (ps : List (Nat × Nat)) : V → Option V
  | .ptr i off => (cOf ps i).map fun c => .ptr c off
  | x => if flat x then some x else none
def ownArgs (ps : List (Nat × Nat)) : List V → Option (List V)
  | [] => some []
  | x :: r => match ownArg ps x, ownArgs ps r with
    | some y, some ys => some (y :: ys)
    | _, _ => none
def small (i : Nat) : Bool := Nat.blt i BIG
def restH : List (Nat × Blk) → List (Nat × Blk)
  | [] => []
  | (i, b) :: r => if small i then (i, b) :: restH r else restH r
def restOk : List (Nat × Blk) → Bool
  | [] => true
  | (i, b) :: r => (!(small i) || blkIn small b) && restOk r
/-- The own blocks behind the call; what it yields. -/
def evCallO (P : Program) (H : List (Nat × Blk)) (d : Nat) (f : FuncId) (xs : List V) (sym : Option V) (c : CR) : Option (List Prop × List (Nat × Blk) × V) :=
  match ownIn H (pairsOf sym), ownArgs (pairsOf sym) xs, setOwn c.Hout H (pairsOf sym) with
  | some Hin, some ys, some H1 => if (distinct ((pairsOf sym).map (·.1)) && distinct ((pairsOf sym).map (·.2))) && (restOk c.Hout && inIds small c.r) then
      match insAll (renH (base d) (restH c.Hout)) H1 with
      | some H2 => some ([Con P f Hin ys c.Hout c.r], H2, ren (base d) c.r)
      | none => none
      else none
  | _, _, _ => none
section
variable {ps : List (Nat × Nat)} {H Hout Hin H1 : List (Nat × Blk)}
theorem distinct_1 : ∀ {ps : List (Nat × Nat)}, distinct (ps.map (·.1)) = true → ∀ {c i}, (c, i) ∈ ps → lk ps c = some i
  | [], _, c, i, h => by cases h
  | (c', i') :: r, hd, c, i, h => by
    simp only [List.map_cons, distinct, Bool.and_eq_true, Bool.not_eq_true', List.contains_eq_mem, decide_eq_false_iff_not] at hd
    simp only [lk, beq_iff_eq]
    rcases List.mem_cons.1 h with e | h'
    · cases e
      rw [if_pos rfl]
    · rw [if_neg]
      · exact distinct_1 hd.2 h'
      · intro e
        subst e
        exact hd.1 (List.mem_map.2 ⟨(c, i), h', rfl⟩)
theorem distinct_2 : ∀ {ps : List (Nat × Nat)}, distinct (ps.map (·.2)) = true → ∀ {c c' i}, (c, i) ∈ ps → (c', i) ∈ ps → c = c'
  | [], _, c, c', i, h, _ => by cases h
  | (a, b) :: r, hd, c, c', i, h, h' => by
    simp only [List.map_cons, distinct, Bool.and_eq_true, Bool.not_eq_true', List.contains_eq_mem, decide_eq_false_iff_not] at hd
    rcases List.mem_cons.1 h with e | h1 <;> rcases List.mem_cons.1 h' with e' | h2
    · cases e; cases e'; rfl
    · cases e
      exact absurd (List.mem_map.2 ⟨(c', _), h2, rfl⟩) hd.1
    · cases e'
      exact absurd (List.mem_map.2 ⟨(c, _), h1, rfl⟩) hd.1
    · exact distinct_2 hd.2 h1 h2
theorem lk_mem : ∀ {ps : List (Nat × Nat)} {c i}, lk ps c = some i → (c, i) ∈ ps
  | [], _, _, h => by cases h
  | (a, b) :: r, c, i, h => by
    simp only [lk, beq_iff_eq] at h
    split at h
    · rename_i e
      cases h
      subst e
      simp
    · exact List.mem_cons_of_mem _ (lk_mem h)
theorem cOf_mem : ∀ {ps : List (Nat × Nat)} {c i}, cOf ps i = some c → (c, i) ∈ ps
  | [], _, _, h => by cases h
  | (a, b) :: r, c, i, h => by
    simp only [cOf] at h
    split at h
    · rename_i e
      cases h
      have := Nat.eq_of_beq_eq_true e
      subst this
      simp
    · exact List.mem_cons_of_mem _ (cOf_mem h)
theorem ownIn_lk : ∀ {ps : List (Nat × Nat)} {Hin : List (Nat × Blk)}, ownIn H ps = some Hin → ∀ c, lk Hin c = (lk ps c).bind (lk H)
  | [], Hin, h, c => by cases h; rfl
  | (a, i) :: r, Hin, h, c => by
    unfold ownIn at h
    split at h
    · rename_i b l hb hl
      cases h
      simp only [lk]
      split
      · rw [Option.bind_some, hb]
      · exact ownIn_lk hl c
    · cases h
theorem setOwn_lk : ∀ {ps : List (Nat × Nat)} {H1 : List (Nat × Blk)}, setOwn Hout H ps = some H1 → ∀ j,
    (∃ c b b', (c, j) ∈ ps ∧ lk Hout c = some b' ∧ lk H j = some b ∧ ((b.flat = true ∧ b.bld = none) ∧ (b'.flat = true ∧ b'.bld = none) ∧ BIG ≤ c) ∧ lk H1 j = some b') ∨ ((∀ c, (c, j) ∉ ps) ∧ lk H1 j = lk H j)
  | [], H1, h, j => by
    cases h
    exact .inr ⟨fun c h => (by cases h), rfl⟩
  | (c, i) :: r, H1, h, j => by
    unfold setOwn at h
    split at h
    · rename_i b' b H0 h1 h2 h3
      split at h
      · rename_i hc
        cases h
        simp only [Bool.and_eq_true, Option.isNone_iff_eq_none, Nat.ble_eq] at hc
        by_cases e : j = i
        · subst e
          exact .inl ⟨c, b, b', by simp, h1, h2, ⟨hc.1, hc.2.1, hc.2.2⟩, by rw [lk_ins, if_pos rfl]⟩
        · rcases setOwn_lk h3 j with ⟨c1, b1, b1', k1, k2, k3, k4, k5⟩ | ⟨k1, k2⟩
          · exact .inl ⟨c1, b1, b1', List.mem_cons_of_mem _ k1, k2, k3, k4, by rw [lk_ins, if_neg e]; exact k5⟩
          · refine .inr ⟨fun c1 hm => ?_, by rw [lk_ins, if_neg e]; exact k2⟩
            rcases List.mem_cons.1 hm with e' | hm
            · cases e'
              exact e rfl
            · exact k1 c1 hm
      · cases h
    · cases h
theorem setOwn_in : ∀ {ps : List (Nat × Nat)} {H1 : List (Nat × Blk)}, setOwn Hout H ps = some H1 → ∀ {c j}, (c, j) ∈ ps → (∃ b, lk H j = some b ∧ b.flat = true ∧ b.bld = none) ∧ (∃ b', lk Hout c = some b' ∧ b'.flat = true ∧ b'.bld = none) ∧ BIG ≤ c
  | [], H1, h, c, j, hm => by cases hm
  | (c0, i) :: r, H1, h, c, j, hm => by
    unfold setOwn at h
    split at h
    · rename_i b' b H0 h1 h2 h3
      split at h
      · rename_i hc
        simp only [Bool.and_eq_true, Option.isNone_iff_eq_none, Nat.ble_eq] at hc
        rcases List.mem_cons.1 hm with e | hm
        · cases e
          exact ⟨⟨b, h2, hc.1⟩, ⟨b', h1, hc.2.1⟩, hc.2.2⟩
        · exact setOwn_in h3 hm
      · cases h
    · cases h
theorem lk_restH : ∀ {l : List (Nat × Blk)} {i : Nat} {b : Blk}, lk (restH l) i = some b → lk l i = some b ∧ small i = true
  | [], _, _, h => by cases h
  | (j, b') :: r, i, b, h => by
    simp only [restH] at h
    simp only [lk, beq_iff_eq]
    split at h
    · rename_i hs
      simp only [lk, beq_iff_eq] at h
      split at h
      · rename_i e
        cases h
        subst e
        exact ⟨by rw [if_pos rfl], hs⟩
      · rename_i e
        have := lk_restH h
        exact ⟨by rw [if_neg e]; exact this.1, this.2⟩
    · rename_i hs
      have := lk_restH h
      refine ⟨?_, this.2⟩
      rw [if_neg]
      · exact this.1
      · intro e
        subst e
        exact hs this.2
theorem lk_restH_of : ∀ {l : List (Nat × Blk)} {i : Nat} {b : Blk}, lk l i = some b → small i = true → lk (restH l) i = some b
  | [], _, _, h, _ => by cases h
  | (j, b') :: r, i, b, h, hs => by
    simp only [lk, beq_iff_eq] at h
    simp only [restH]
    split at h
    · rename_i e
      cases h
      subst e
      rw [if_pos hs]
      simp [lk]
    · rename_i e
      split
      · simp only [lk, beq_iff_eq]
        rw [if_neg e]
        exact lk_restH_of h hs
      · exact lk_restH_of h hs
theorem restOk_get : ∀ {l : List (Nat × Blk)} {i : Nat} {b : Blk}, restOk l = true → lk l i = some b → small i = true → blkIn small b = true
  | [], _, _, _, h, _ => by cases h
  | (j, b') :: r, i, b, hr, h, hs => by
    simp only [restOk, Bool.and_eq_true, Bool.or_eq_true, Bool.not_eq_true'] at hr
    simp only [lk, beq_iff_eq] at h
    split at h
    · rename_i e
      cases h
      subst e
      rcases hr.1 with h1 | h1
      · rw [hs] at h1
        cases h1
      · exact h1
    · exact restOk_get hr.2 h hs
end
section
variable {I I' : Nat → Prop} {w w' : World} {φ φ' : Phi}
theorem BlkRel.flatMono {s : Slot} {b : Blk} (hf : b.flat = true) (im : ∀ b, I b → I' b ∧ w'.heap[b]? = w.heap[b]?) (hw : ∀ b c, s = .at b c → w'.heap[b]? = w.heap[b]?) (h : BlkRel I w φ s b) : BlkRel I' w' φ' s b := by
  cases s with
  | none => trivial
  | nil => exact h
  | «at» bb c =>
    obtain ⟨us, el, h1, h2, h3⟩ := h
    rw [hf] at h2
    refine ⟨us, el, (hw bb c rfl).trans h1, ?_, h3⟩
    rw [hf]
    exact h2.mono im (fun _ _ _ h => h) (fun _ h => h)
theorem BlkRel.onlyTo {ok : Nat → Bool} {s : Slot} {b : Blk} (h : BlkRel I w φ s b) (hi : blkIn ok b = true) (φ2 : Phi) (hk : ∀ id, ok id = true → φ id ≠ .none → φ2 id = φ id) : BlkRel I w φ2 s b := by
  cases s with
  | none => trivial
  | nil => exact h
  | «at» bb c =>
    obtain ⟨us, el, h1, h2, h3⟩ := h
    refine ⟨us, el, h1, ?_, h3⟩
    cases hf : b.flat with
    | true =>
      rw [hf] at h2
      exact h2
    | false =>
      rw [hf] at h2
      simp only [blkIn, hf, Bool.false_or] at hi
      exact ⟨h2.1, fun i hl => (h2.2.1 i hl).only (inIdsL_get hi i hl) φ2 hk, h2.2.2⟩
theorem ownArgs_ok {I I' : Nat → Prop} {ps : List (Nat × Nat)} {φ φc : Phi} (im : ∀ b, I b → I' b ∧ w.heap[b]? = w.heap[b]?) (hφ : ∀ c i, (c, i) ∈ ps → φc c = φ i) : ∀ {xs ys : List V} {us : List Value}, ownArgs ps xs = some ys → Rels I w φ xs us → Rels I' w φc ys us
  | [], ys, us, h, hr => by
    cases h
    cases hr
    exact .nil
  | x :: xs, ys, us, h, hr => by
    unfold ownArgs at h
    split at h
    · rename_i y ys' hy hys
      cases h
      cases hr with
      | cons h1 h2 =>
        refine .cons ?_ (ownArgs_ok im hφ hys h2)
        unfold ownArg at hy
        split at hy
        · rename_i i off
          simp only [Option.map_eq_some_iff] at hy
          obtain ⟨c, hc, rfl⟩ := hy
          cases h1 with
          | ptr hs => exact .ptr (by rw [hφ c i (cOf_mem hc)]; exact hs)
        · split at hy
          · rename_i hf
            cases hy
            exact (h1.emp hf).mono im _ (fun _ _ _ h => by cases h) (fun _ h => by cases h)
          · cases hy
    · cases h
end
section
variable {C : Cx} {G : Gl} {P : Program} {φ φ' : Phi} {a : Act} {w w' : World} {s s' : St}
theorem evCallO_ok (hI : Inv C G s φ a w) {d : Nat} {f : FuncId} {xs : List V} {sym : Option V} {c : CR} {os : List Prop} {H2 : List (Nat × Blk)} {v : V} (h : evCallO P s.H d f xs sym c = some (os, H2, v)) (ho : AllP os) {us : List Value} (hx : Rels (Imm φ G.X w) w φ xs us) :
    FnOk P f ∧ Calls P f us.toArray w fun e w' => ∃ u φ2, e = .returned u ∧ Inv C G ⟨s.tm, H2⟩ φ2 a w' ∧ Rel (Imm φ2 G.X w') w' φ2 v u := by
  unfold evCallO at h
  generalize pairsOf sym = ps at h
  split at h
  case h_2 => cases h
  rename_i Hin ys H1 hin hargs hset
  split at h
  case isFalse => cases h
  rename_i hc
  split at h
  case h_2 => cases h
  rename_i H2' hins
  cases h
  simp only [Bool.and_eq_true] at hc
  obtain ⟨⟨hd1, hd2⟩, hro, hri⟩ := hc
  obtain ⟨hcon, _⟩ := ho
  refine ⟨hcon.1, ?_⟩
  have m1 : ∀ {c i}, (c, i) ∈ ps → lk ps c = some i := distinct_1 hd1
  have m2 : ∀ {c c' i}, (c, i) ∈ ps → (c', i) ∈ ps → c = c' := distinct_2 hd2
  let φc : Phi := fun c => match lk ps c with | some i => φ i | none => .none
  have hφc : ∀ c i, (c, i) ∈ ps → φc c = φ i := fun c i hm => by simp only [φc, m1 hm]
  have hφc' : ∀ c b cc, φc c = .at b cc → ∃ i, (c, i) ∈ ps ∧ φ i = .at b cc := fun c b cc hs => by
    simp only [φc] at hs
    cases hl : lk ps c with
    | none => rw [hl] at hs; cases hs
    | some i => rw [hl] at hs; exact ⟨i, lk_mem hl, hs⟩
  let X' : Nat → Prop := fun b => G.X b ∨ ∃ i cc, φ i = .at b cc ∧ ∀ c, (c, i) ∉ ps
  have hXw : ∀ b, G.X b → b < w.heap.size := fun b hb => Nat.lt_of_lt_of_le (hI.x b hb) hI.frm.size
  have im0 : ∀ b, Imm φ G.X w b → Imm φc X' w b ∧ w.heap[b]? = w.heap[b]? := fun b hb => by
    refine ⟨⟨hb.1, fun c cc hs => ?_, fun hx => ?_⟩, rfl⟩
    · obtain ⟨i, _, hi⟩ := hφc' c b cc hs
      exact hb.2.1 _ _ hi
    · rcases hx with hx | ⟨i, cc, hi, _⟩
      · exact hb.2.2 hx
      · exact hb.2.1 _ _ hi
  have hokc : Phi.ok φc X' w Hin := by
    refine ⟨fun i j b cc cc' hi hj => ?_, fun i b cc hi => ?_, fun i b cc hi => ?_, fun i hi => ?_⟩
    · obtain ⟨i1, h1, h2⟩ := hφc' _ _ _ hi
      obtain ⟨j1, h3, h4⟩ := hφc' _ _ _ hj
      have := hI.ok.inj _ _ _ _ _ h2 h4
      subst this
      exact m2 h1 h3
    · obtain ⟨i1, _, h2⟩ := hφc' _ _ _ hi
      exact hI.ok.lt _ _ _ h2
    · obtain ⟨i1, h1, h2⟩ := hφc' _ _ _ hi
      rintro (hx | ⟨j, cj, hj, hno⟩)
      · exact hI.ok.free _ _ _ h2 hx
      · have := hI.ok.inj _ _ _ _ _ h2 hj
        subst this
        exact hno _ h1
    · show φc i = .none
      have := ownIn_lk hin i
      rw [hi] at this
      simp only [φc]
      cases hl : lk ps i with
      | none => rfl
      | some j =>
        rw [hl] at this
        obtain ⟨⟨b, hb, _⟩, _⟩ := setOwn_in hset (lk_mem hl)
        rw [Option.bind_some, hb] at this
        cases this
  have hX' : ∀ b, X' b → b < w.heap.size := fun b hb => by
    rcases hb with hb | ⟨i, cc, hi, _⟩
    · exact hXw b hb
    · exact hI.ok.lt _ _ _ hi
  have hHin : HR (Imm φc X' w) w φc Hin := fun i blk hl => by
    rw [ownIn_lk hin i] at hl
    cases hp : lk ps i with
    | none => rw [hp] at hl; cases hl
    | some j =>
      rw [hp, Option.bind_some] at hl
      obtain ⟨⟨b, hb, hbf, _⟩, _⟩ := setOwn_in hset (lk_mem hp)
      rw [hl] at hb
      cases hb
      rw [hφc i j (lk_mem hp)]
      exact (hI.hr j blk hl).flatMono hbf im0 (fun _ _ _ => rfl)
  refine (hcon.2 X' φc w us hokc hX' hHin (ownArgs_ok im0 hφc hargs hx)).mono ?_
  rintro e w' ⟨u, φ', rfl, hfr, hok', hown', hHo, hru, hfix⟩
  let k := base d
  let φ2 : Phi := fun j => if lk (renH k (restH c.Hout)) j = none then φ j else φ' (j - k)
  have hold : ∀ j, lk (renH k (restH c.Hout)) j = none → φ2 j = φ j := fun j hj => by simp only [φ2]; rw [if_pos hj]
  have hnw : ∀ j, lk (renH k (restH c.Hout)) j ≠ none → φ2 j = φ' (j - k) ∧ ∃ j0 b0, j = j0 + k ∧ lk c.Hout j0 = some b0 ∧ small j0 = true := fun j hj => by
    refine ⟨by simp only [φ2]; rw [if_neg hj], ?_⟩
    obtain ⟨b0, hb0⟩ := Option.ne_none_iff_exists'.1 hj
    obtain ⟨j0, b1, rfl, h1, _⟩ := lk_renH hb0
    obtain ⟨h2, h3⟩ := lk_restH h1
    exact ⟨j0, b1, rfl, h2, h3⟩
  -- the blocks that were lent lie where they lay
  have hstay : ∀ {cc i b q}, (cc, i) ∈ ps → φ i = .at b q → q = none ∧ φ' cc = .at b none := fun {cc i b q} hm hs => by
    obtain ⟨⟨b0, hb0, hbf, hbn⟩, ⟨b1, hb1, _⟩, hbig⟩ := setOwn_in hset hm
    have hk := hI.hr i b0 hb0
    rw [hs] at hk
    obtain ⟨us0, el, _, _, k3⟩ := hk
    rw [hbn] at k3
    obtain ⟨_, _, rfl⟩ := k3
    refine ⟨rfl, ?_⟩
    rcases hfix cc b hbig (by rw [hφc cc i hm]; exact hs) with h1 | h1
    · exact h1
    · rw [hb1] at h1
      cases h1
  have hsmall : ∀ {j0}, small j0 = true → j0 < BIG := fun {j0} h => by
    unfold small at h
    rwa [Nat.blt_eq] at h
  -- what the callee made is not what the caller had
  have hdis : ∀ {j b q j0 q0}, φ j = .at b q → φ' j0 = .at b q0 → j0 < BIG → False := fun {j b q j0 q0} hj hj0 hlt => by
    rcases hown' _ _ _ hj0 with ⟨c1, q1, h1⟩ | h1
    · obtain ⟨i1, h2, h3⟩ := hφc' _ _ _ h1
      have := hI.ok.inj _ _ _ _ _ hj h3
      subst this
      obtain ⟨_, h4⟩ := hstay h2 h3
      have h5 := hok'.inj _ _ _ _ _ hj0 h4
      obtain ⟨_, _, hbig⟩ := setOwn_in hset h2
      omega
    · have := hI.ok.lt _ _ _ hj
      omega
  have im1 : ∀ b, Imm φ G.X w b → Imm φ2 G.X w' b ∧ w'.heap[b]? = w.heap[b]? := fun b hb => by
    refine ⟨⟨Nat.lt_of_lt_of_le hb.1 hfr.size, fun j q hs => ?_, hb.2.2⟩, hfr.block b hb.1 (fun c q hs => ?_)⟩
    · by_cases hj : lk (renH k (restH c.Hout)) j = none
      · rw [hold j hj] at hs
        exact hb.2.1 _ _ hs
      · rw [(hnw j hj).1] at hs
        rcases hown' _ _ _ hs with ⟨c1, q1, h1⟩ | h1
        · obtain ⟨i1, _, h3⟩ := hφc' _ _ _ h1
          exact hb.2.1 _ _ h3
        · have := hb.1
          omega
    · obtain ⟨i1, _, h3⟩ := hφc' _ _ _ hs
      exact hb.2.1 _ _ h3
  have im2 : ∀ b, Imm φ' X' w' b → Imm φ2 G.X w' b ∧ w'.heap[b]? = w'.heap[b]? := fun b hb => by
    refine ⟨⟨hb.1, fun j q hs => ?_, fun hx => hb.2.2 (.inl hx)⟩, rfl⟩
    by_cases hj : lk (renH k (restH c.Hout)) j = none
    · rw [hold j hj] at hs
      by_cases hm : ∃ cc, (cc, j) ∈ ps
      · obtain ⟨cc, hm⟩ := hm
        exact hb.2.1 _ _ (hstay hm hs).2
      · exact hb.2.2 (.inr ⟨j, q, hs, fun cc hm' => hm ⟨cc, hm'⟩⟩)
    · rw [(hnw j hj).1] at hs
      exact hb.2.1 _ _ hs
  have hfree : ∀ j, φ j ≠ .none → lk (renH k (restH c.Hout)) j = none := fun j hj => by
    cases hn : lk (renH k (restH c.Hout)) j with
    | none => rfl
    | some b0 =>
      exfalso
      have h1 := insAll_fresh hins j (by rw [hn]; simp)
      refine hj (hI.ok.dom j ?_)
      rcases setOwn_lk hset j with ⟨_, _, _, _, _, _, _, h2⟩ | ⟨_, h2⟩
      · rw [h1] at h2
        cases h2
      · rw [← h2]
        exact h1
  have ha : ∀ j b q, φ j = .at b q → φ2 j = .at b q := fun j b q hs => by
    rw [hold j (hfree j (by rw [hs]; simp))]
    exact hs
  have hn : ∀ j, φ j = .nil → φ2 j = .nil := fun j hs => by
    rw [hold j (hfree j (by rw [hs]; simp))]
    exact hs
  -- what is new, renamed
  let φm : Phi := fun j => if small j then φ' j else .none
  have hφm : ∀ j, small j = true → φ' j ≠ .none → φm j = φ' j := fun j hj _ => by simp only [φm]; rw [if_pos hj]
  have hφ2 : ∀ j, φm j ≠ .none → φ2 (j + k) = φm j := fun j hj => by
    simp only [φm] at hj ⊢
    split at hj
    · rename_i hs
      rw [if_pos hs]
      have hl : lk c.Hout j ≠ none := fun e => hj (hok'.dom j e)
      obtain ⟨b0, hb0⟩ := Option.ne_none_iff_exists'.1 hl
      have h1 := lk_renH_of (k := k) (lk_restH_of hb0 hs)
      rw [(hnw (j + k) (by rw [h1]; simp)).1, Nat.add_sub_cancel]
    · exact absurd rfl hj
  refine ⟨u, φ2, rfl, ⟨hI.size, hI.defers, fun t x hx => ?_, fun j blk hl => ?_, ⟨fun i j b q q' hi hj => ?_, fun i b q hi => ?_, fun i b q hi => ?_, fun i hi => ?_⟩, hI.x, ?_, fun j b q hs => ?_, fun j b hbig h0 => ?_⟩, ?_⟩
  · have := hI.tm t x hx
    cases x with
    | plain y => exact Rel.mono im1 this _ ha hn
    | gd d want y => exact ⟨fun e => (this.1 e).mono im1 _ ha hn, this.2⟩
  · have hl : lk H2 j = some blk := hl
    rw [lk_insAll hins] at hl
    split at hl
    · rename_i b1 hb1
      cases hl
      have hne : lk (renH k (restH c.Hout)) j ≠ none := by rw [show lk (renH k (restH c.Hout)) j = some blk from hb1]; simp
      rw [(hnw j hne).1]
      obtain ⟨j0, b0, rfl, h1, rfl⟩ := lk_renH hb1
      obtain ⟨h2, h3⟩ := lk_restH h1
      rw [Nat.add_sub_cancel]
      have q1 := hHo j0 b0 h2
      have q2 := (q1.onlyTo (restOk_get hro h2 h3) φm hφm).ren φ2 hφ2
      exact q2.mono im2 (fun _ _ _ => rfl) (fun _ _ _ h => h) (fun _ h => h)
    · rename_i hb1
      have hb1 : lk (renH k (restH c.Hout)) j = none := hb1
      rw [hold j hb1]
      rcases setOwn_lk hset j with ⟨cc, b0, b0', hm, g1, g2, ⟨⟨g3, g4⟩, ⟨g5, g6⟩, g7⟩, g8⟩ | ⟨hno, g1⟩
      · rw [g8] at hl
        cases hl
        cases hs : φ j with
        | none => trivial
        | nil =>
          have := hI.hr j b0 g2
          rw [hs] at this
          have := this.2
          rw [g4] at this
          cases this
        | «at» b q =>
          obtain ⟨rfl, h4⟩ := hstay hm hs
          have := hHo cc _ g1
          rw [h4] at this
          exact this.flatMono g5 im2 (fun _ _ _ => rfl)
      · rw [g1] at hl
        have := hI.hr j blk hl
        refine this.mono im1 (fun b q hs => hfr.block b (hI.ok.lt _ _ _ hs) (fun c1 q1 hs1 => ?_)) ha hn
        obtain ⟨i1, h2, h3⟩ := hφc' _ _ _ hs1
        have := hI.ok.inj _ _ _ _ _ hs h3
        subst this
        exact hno _ h2
  · by_cases h1 : lk (renH k (restH c.Hout)) i = none <;> by_cases h2 : lk (renH k (restH c.Hout)) j = none
    · rw [hold i h1] at hi
      rw [hold j h2] at hj
      exact hI.ok.inj _ _ _ _ _ hi hj
    · rw [hold i h1] at hi
      obtain ⟨e1, j0, b0, rfl, _, hs⟩ := hnw j h2
      rw [e1, Nat.add_sub_cancel] at hj
      exact (hdis hi hj (hsmall hs)).elim
    · rw [hold j h2] at hj
      obtain ⟨e1, i0, b0, rfl, _, hs⟩ := hnw i h1
      rw [e1, Nat.add_sub_cancel] at hi
      exact (hdis hj hi (hsmall hs)).elim
    · obtain ⟨e1, i0, b0, rfl, _, _⟩ := hnw i h1
      obtain ⟨e2, j0, b1, rfl, _, _⟩ := hnw j h2
      rw [e1, Nat.add_sub_cancel] at hi
      rw [e2, Nat.add_sub_cancel] at hj
      have := hok'.inj _ _ _ _ _ hi hj
      omega
  · by_cases h1 : lk (renH k (restH c.Hout)) i = none
    · rw [hold i h1] at hi
      exact Nat.lt_of_lt_of_le (hI.ok.lt _ _ _ hi) hfr.size
    · rw [(hnw i h1).1] at hi
      exact hok'.lt _ _ _ hi
  · by_cases h1 : lk (renH k (restH c.Hout)) i = none
    · rw [hold i h1] at hi
      exact hI.ok.free _ _ _ hi
    · rw [(hnw i h1).1] at hi
      exact fun hx => hok'.free _ _ _ hi (.inl hx)
  · have hi : lk H2 i = none := hi
    rw [lk_insAll hins] at hi
    split at hi
    · cases hi
    · rename_i h1
      rw [hold i h1]
      refine hI.ok.dom i ?_
      rcases setOwn_lk hset i with ⟨_, _, _, _, _, _, _, h2⟩ | ⟨_, h2⟩
      · rw [hi] at h2
        cases h2
      · rw [← h2]
        exact hi
  · refine ⟨hfr.os.trans hI.frm.os, hfr.tape.trans hI.frm.tape, hfr.output.trans hI.frm.output, Nat.le_trans hI.frm.size hfr.size, fun b hb h0 => ?_⟩
    rw [hfr.block b (Nat.lt_of_lt_of_le hb hI.frm.size) (fun c1 q1 hs1 => ?_)]
    · exact hI.frm.block b hb h0
    · obtain ⟨i1, _, h3⟩ := hφc' _ _ _ hs1
      rcases hI.own _ _ _ h3 with ⟨id0, c0, h⟩ | h
      · exact h0 id0 c0 h
      · omega
  · by_cases h1 : lk (renH k (restH c.Hout)) j = none
    · rw [hold j h1] at hs
      exact hI.own _ _ _ hs
    · rw [(hnw j h1).1] at hs
      rcases hown' _ _ _ hs with ⟨c1, q1, h2⟩ | h2
      · obtain ⟨i1, _, h3⟩ := hφc' _ _ _ h2
        exact hI.own _ _ _ h3
      · exact .inr (Nat.le_trans hI.frm.size h2)
  · have h1 := insAll_big hins hbig
    rw [hold j h1]
    show _ ∨ lk H2 j = none
    rw [lk_insAll hins, h1]
    rcases hI.fix j b hbig h0 with h | h
    · exact .inl h
    · refine .inr ?_
      rcases setOwn_lk hset j with ⟨_, _, _, _, _, h2, _⟩ | ⟨_, h2⟩
      · rw [h] at h2
        cases h2
      · show lk H1 j = none
        rw [h2]
        exact h
  · exact Rel.mono im2 ((hru.only hri φm hφm).ren φ2 hφ2) _ (fun _ _ _ h => h) (fun _ h => h)
end
end Go.Ab
