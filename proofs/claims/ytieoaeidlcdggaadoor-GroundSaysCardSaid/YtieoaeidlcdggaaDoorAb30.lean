/- A drawn region, some of whose operations touch no memory: these first. -/
import Derived.Test.YtieoaeidlcdggaaDoorAb29
set_option linter.unusedSimpArgs false
set_option linter.unusedVariables false
namespace Go.Ab
open Go.RowKit
/-- What ends well ends so in any world, and leaves it. -/
def OKf {α : Type} (P : Program) (m : Sem α) : Prop := ∀ w v w', m.run P w = .ok v w' → w' = w ∧ ∀ w2, m.run P w2 = .ok v w2
section
variable {α β : Type} {P : Program}
theorem OKf.pure (x : α) : OKf P (Pure.pure x : Sem α) := fun w v w' h => by
  rw [Sem.run_pure] at h
  cases h
  exact ⟨rfl, fun w2 => Sem.run_pure ..⟩
theorem OKf.bind {m : Sem α} {f : α → Sem β} (hm : OKf P m) (hf : ∀ x, OKf P (f x)) : OKf P (m >>= f) := fun w v w' h => by
  rw [Sem.run_bind] at h
  cases hr : m.run P w with
  | ok x w1 =>
    rw [hr] at h
    obtain ⟨rfl, h2⟩ := hm _ _ _ hr
    obtain ⟨rfl, h3⟩ := hf x _ _ _ h
    exact ⟨rfl, fun w2 => by rw [Sem.run_bind, h2 w2]; exact h3 w2⟩
  | halt e w1 =>
    rw [hr] at h
    cases h
theorem OKf.stuck (s : String) : OKf P (Go.stuck s : Sem α) := fun w v w' h => by cases h
theorem OKf.unsup (u : Unsupported) : OKf P (Go.unsupported u : Sem α) := fun w v w' h => by cases h
theorem OKf.program : OKf P Go.program := fun w v w' h => by cases h; exact ⟨rfl, fun _ => rfl⟩
theorem OKf.underlying (t : TypeId) : OKf P (Go.underlying t) := by
  unfold Go.underlying
  refine OKf.bind OKf.program fun p => ?_
  split
  · exact OKf.pure _
  · exact OKf.stuck _
theorem OKf.sizeOf (t : TypeId) : OKf P (Go.sizeOf t) := by
  unfold Go.sizeOf Go.typeInfo
  refine OKf.bind (OKf.bind OKf.program fun p => ?_) fun p => OKf.pure _
  split
  · exact OKf.pure _
  · exact OKf.stuck _
theorem OKf.rtp : OKf P (Go.runtimePanic .nilDeref : Sem α) := by
  unfold Go.runtimePanic
  refine OKf.bind OKf.program fun p => ?_
  intro w v w' h
  cases h
theorem OKf.bnd (k : IntKind) (x y : Int) (c : BoundsCode) : OKf P (Go.boundsPanic k x y c : Sem α) := by
  intro w v w' h
  exfalso
  unfold Go.boundsPanic at h
  dsimp only at h
  split at h
  · rw [Sem.run_bind] at h
    generalize Sem.run P _ w = r at h
    cases r with
    | ok b w1 => cases h
    | halt e w1 => cases h
  · rw [Sem.run_bind, Sem.run_pure] at h
    cases h
theorem OKf.asInt (x : Value) : OKf P (Go.asIntOf x) := by
  unfold Go.asIntOf
  split
  · exact OKf.pure _
  · exact OKf.unsup _
  · exact OKf.stuck _
theorem OKf.asAddr (x : Value) : OKf P (Go.asAddr x) := by
  unfold Go.asAddr
  split
  · exact OKf.pure _
  · exact OKf.rtp
  · exact OKf.stuck _
theorem OKf.sureAddr (x : Value) : OKf P (Instr.sureAddr x) := by
  unfold Instr.sureAddr
  split
  · exact OKf.pure _
  · exact OKf.stuck _
theorem OKf.sb (x : Value) (y : Nat) (c : BoundsCode) : OKf P (Instr.sliceBound x y c) := by
  unfold Instr.sliceBound
  refine OKf.bind (OKf.asInt x) fun p => ?_
  split
  split
  · exact OKf.pure _
  · exact OKf.bnd _ _ _ _
theorem OKf.sbs (b : Bool) (n c : Nat) (lo hi mx : Option Value) : OKf P (Instr.sliceBounds b n c lo hi mx) := by
  unfold Instr.sliceBounds
  dsimp only
  repeat' (first | with_reducible exact OKf.pure _ | with_reducible exact OKf.stuck _ | with_reducible refine OKf.bind (OKf.sb _ _ _) fun _ => ?_ | with_reducible refine OKf.bind (OKf.pure _) fun _ => ?_ | with_reducible refine OKf.bind (OKf.stuck _) fun _ => ?_ | split)
theorem OKf.slice (t : TypeId) (x : Value) (lo hi mx : Option Value) : OKf P (Instr.slice t x lo hi mx) := by
  unfold Instr.slice
  refine OKf.bind (OKf.underlying t) fun d => ?_
  dsimp only
  repeat' (first | with_reducible exact OKf.pure _ | with_reducible exact OKf.stuck _ | with_reducible refine OKf.bind (OKf.sbs _ _ _ _ _ _) fun _ => ?_ | with_reducible refine OKf.bind (OKf.sizeOf _) fun _ => ?_ | with_reducible refine OKf.bind (OKf.asAddr _) fun _ => ?_ | with_reducible refine OKf.bind (OKf.underlying _) fun _ => ?_ | with_reducible refine OKf.bind (OKf.stuck _) fun _ => ?_ | with_reducible refine OKf.bind (OKf.pure _) fun _ => ?_ | split)
theorem OKf.sliceAt (t : TypeId) (x : Value) (lo hi mx : Option Value) : OKf P (Instr.sliceAt t x lo hi mx) := by
  unfold Instr.sliceAt
  refine OKf.bind (OKf.underlying t) fun d => ?_
  dsimp only
  repeat' (first | with_reducible exact OKf.pure _ | with_reducible exact OKf.stuck _ | with_reducible exact OKf.slice _ _ _ _ _ | with_reducible refine OKf.bind (OKf.sbs _ _ _ _ _ _) fun _ => ?_ | with_reducible refine OKf.bind (OKf.sizeOf _) fun _ => ?_ | with_reducible refine OKf.bind (OKf.sureAddr _) fun _ => ?_ | split)
/-- An operation that touches no memory, and is wanted always. -/
def memless (o : Oper) : Bool := o.guard.isNone && match o.op with
  | .move _ | .slice _ _ _ _ _ => true
  | _ => false
theorem memless_ok {o : Oper} (h : memless o = true) (ρ : Operand → Value) : (∃ m : Sem Value, execOp ρ o = (m >>= fun v => Pure.pure (Next.value v)) ∧ OKf P m) ∧ o.guard = none ∧ isBar o.op = false := by
  unfold memless at h
  simp only [Bool.and_eq_true, Option.isNone_iff_eq_none] at h
  have h2 := h.2
  split at h2
  · rename_i x e
    refine ⟨⟨Pure.pure (ρ x), ?_, OKf.pure _⟩, h.1, by rw [e]; rfl⟩
    unfold execOp
    rw [e]
    rfl
  · rename_i t x lo hi mx e
    refine ⟨⟨Instr.sliceAt t (ρ x) (lo.map ρ) (hi.map ρ) (mx.map ρ), ?_, OKf.sliceAt _ _ _ _ _⟩, h.1, by rw [e]; rfl⟩
    unfold execOp
    rw [e]
  · cases h2
end
section
variable {C : Cx} {G : Gl} {ops : List Oper} {hs : List (Nat × Hint)} {φ : Phi} {a a' : Act} {w : World} {s s' sf : St} {os : List Prop}
theorem memless_yields (hT : TCok C.P C.tc) (hI : Inv C G s φ a w) {i : Nat} {o : Oper} {r : Out1} (ho : ops[i]? = some o) (hml : memless o = true) (h : stepD C ops hs i s o = some (os, r, s')) (hos : AllP os) :
    ∃ v φ', Yields C.P ops.toArray o v a ∧ Inv C G s' φ' (a.put o.dst v) w := by
  have hw := stepD_ok (Q := fun _ _ _ => False) (K := fun a' w' => ∃ φ', Inv C G s' φ' a' w' ∧ w' = w') hT hI ho h hos (fun a' w' φ' hI' => ⟨φ', hI', rfl⟩)
  have e : ops.toArray[i]? = some o := by simpa using ho
  obtain ⟨⟨m, hm, hok⟩, hg, _⟩ := memless_ok (P := C.P) hml a.eval
  have hwant : Region.wanted o (yielded ops.toArray a.tmps) = true := by simp [Region.wanted, hg]
  unfold wpOp at hw
  simp only [e, hwant, if_true] at hw
  rcases hw with hw | ⟨_, _, _, hl⟩
  · unfold Oper.wp at hw
    rw [hm, Sem.run_bind] at hw
    cases hr : m.run C.P w with
    | ok v w1 =>
      obtain ⟨rfl, hall⟩ := hok _ _ _ hr
      rw [hr] at hw
      obtain ⟨φ', hI', _⟩ := hw
      refine ⟨v, φ', .inl ⟨hwant, fun w2 => ?_⟩, hI'⟩
      rw [hm, Sem.run_bind, hall w2]
      rfl
    | halt e w1 =>
      rw [hr] at hw
      cases e <;> exact hw.elim
  · exact hl.elim
/-- Operations that yield, one behind another. -/
def YSeq (P : Program) (ops : Array Oper) : Nat → Nat → Act → Act → Prop
  | 0, _, a, a' => a = a'
  | d + 1, i, a, a' => ∃ o v, ops[i]? = some o ∧ Yields P ops o v a ∧ YSeq P ops d (i + 1) (a.put o.dst v) a'
theorem takeL (hT : TCok C.P C.tc) : ∀ (l : List Oper) (i : Nat) (s : St) (φ : Phi) (a : Act) (os : List Prop), (∀ k o, l[k]? = some o → ops[i + k]? = some o) → l.all memless = true → runL C ops hs i s l = some (os, s') → AllP os → Inv C G s φ a w →
    ∃ a' φ', YSeq C.P ops.toArray l.length i a a' ∧ Inv C G s' φ' a' w
  | [], i, s, φ, a, os, _, _, h, _, hI => by
    cases h
    exact ⟨a, φ, rfl, hI⟩
  | o :: r, i, s, φ, a, os, hl, hml, h, hos, hI => by
    simp only [List.all_cons, Bool.and_eq_true] at hml
    have ho : ops[i]? = some o := by simpa using hl 0 o rfl
    have hb := (memless_ok (P := C.P) hml.1 a.eval).2.2
    unfold runL at h
    rw [hb] at h
    simp only at h
    split at h
    case h_2 => cases h
    rename_i o1 r1 s1 hst
    split at h
    case h_2 => cases h
    rename_i o2 sf' hrun
    cases h
    obtain ⟨p1, p2⟩ := AllP.append.1 hos
    obtain ⟨v, φ1, hy, hI1⟩ := memless_yields hT hI ho hml.1 hst p1
    obtain ⟨a', φ', hys, hI'⟩ := takeL hT r (i + 1) s1 φ1 (a.put o.dst v) o2 (fun k q hq => by
      have := hl (k + 1) q (by simpa using hq)
      rwa [show i + (k + 1) = i + 1 + k by omega] at this) hml.2 hrun p2 hI1
    refine ⟨a', φ', ⟨o, v, by simpa using ho, hy, ?_⟩, hI'⟩
    exact hys
end
/-- The first i are listed. -/
def lstA (n : Nat) : Nat → Array Bool
  | 0 => Array.replicate n false
  | i + 1 => (lstA n i).setIfInBounds i true
theorem lstA_size (n : Nat) : ∀ i, (lstA n i).size = n
  | 0 => by simp [lstA]
  | i + 1 => by simp [lstA, lstA_size n i]
theorem lstA_get (n : Nat) : ∀ i j, (lstA n i).getD j false = decide (j < i ∧ j < n)
  | 0, j => by
    simp only [lstA, Array.getD_eq_getD_getElem?, Array.getElem?_replicate]
    split <;> simp
  | i + 1, j => by
    have ih := lstA_get n i j
    simp only [lstA, Array.getD_eq_getD_getElem?] at ih ⊢
    by_cases e : i = j
    · subst e
      by_cases hi : i < n
      · rw [Array.getElem?_setIfInBounds_self_of_lt (by rw [lstA_size]; exact hi)]
        simp [hi]
      · rw [Array.getElem?_eq_none (by simp [lstA_size]; omega)]
        simp [hi]
    · rw [Array.getElem?_setIfInBounds_ne e, ih]
      apply Bool.eq_iff_iff.2
      simp only [decide_eq_true_eq]
      omega
def takeOk (n m : Nat) (ops : List Oper) : Bool :=
  Region.noSelect ops.toArray && (List.range m).all fun i => Region.free .any ops.toArray (lstA n i) i && (Region.ready .any ops.toArray (lstA n i)).contains i
theorem any_take {P : Program} {ops : Array Oper} {Q : Exit → Act → World → Prop} {n m f : Nat} {a' : Act} {w : World} (hs : Region.noSelect ops = true) (hf : ∀ i, i < m → Region.free .any ops (lstA n i) i = true ∧ (Region.ready .any ops (lstA n i)).contains i = true) (hQ : ∀ c a w, ¬ Q (.panic c) a w)
    (h : wpAny P .any ops Q f (lstA n m) a' w) : ∀ d i a, i + d = m → YSeq P ops d i a a' → wpAny P .any ops Q (f + d) (lstA n i) a w
  | 0, i, a, hi, hy => by
    cases hy
    have : i = m := by omega
    subst this
    exact h
  | d + 1, i, a, hi, hy => by
    obtain ⟨o, v, ho, hy1, hy2⟩ := hy
    have h1 := hf i (by omega)
    exact wpAny_take ho hs h1.1 h1.2 (fun c a w hq => absurd hq (hQ c _ w)) hy1 (any_take hs hf hQ h d (i + 1) _ (by omega) hy2)
def cutE (m : Nat) (e : Edge) : Edge := { e with on := e.on - m }
def cutO (m : Nat) (o : Oper) : Oper := { o with after := (o.after.filter fun e => Nat.ble m e.on).map (cutE m) }
def cutOps (m : Nat) (ops : List Oper) : List Oper := (ops.drop m).map (cutO m)
structure Ct (m : Nat) (ops : List Oper) : Prop where
  le : m ≤ ops.length
  gd : ∀ (i : Nat) (o : Oper), m ≤ i → ops[i]? = some o → o.guard = none
  ed : ∀ (i : Nat) (o : Oper), ops[i]? = some o → ∀ e ∈ o.after, e.on < ops.length
def cutOk (m : Nat) (ops : List Oper) : Bool := Nat.ble m ops.length && ((ops.drop m).all fun o => o.guard.isNone) && (ops.all fun o => o.after.toList.all fun e => Nat.blt e.on ops.length)
theorem cutOk_ct {m : Nat} {ops : List Oper} (h : cutOk m ops = true) : Ct m ops := by
  unfold cutOk at h
  simp only [Bool.and_eq_true, List.all_eq_true] at h
  obtain ⟨⟨h1, h2⟩, h3⟩ := h
  refine ⟨Nat.le_of_ble_eq_true h1, fun i o hi ho => ?_, fun i o ho e he => ?_⟩
  · have hm : o ∈ ops.drop m := by
      refine List.mem_of_getElem? (i := i - m) ?_
      rw [List.getElem?_drop, show m + (i - m) = i by omega]
      exact ho
    have := h2 o hm
    simpa using this
  · have := h3 o (List.mem_of_getElem? ho) e (by simpa using he)
    rwa [Nat.blt_eq] at this
section
variable {m : Nat} {ops : List Oper}
theorem cut_len : (cutOps m ops).length = ops.length - m := by simp [cutOps]
theorem cut_get {i : Nat} (hi : m + i < ops.length) : (cutOps m ops)[i]? = some (cutO m ops[m + i]) := by
  unfold cutOps
  rw [List.getElem?_map, List.getElem?_drop, List.getElem?_eq_getElem hi]
  rfl
theorem cut_wp {P : Program} {o : Oper} {a : Act} {w : World} {K : Act → World → Prop} {Q : Exit → Act → World → Prop} : (cutO m o).wp P a w K Q = o.wp P a w K Q := rfl
theorem cut_asks {P : Program} {o : Oper} {a : Act} {w : World} : (cutO m o).asks P a w = o.asks P a w := rfl
theorem cut_wpOp (h : Ct m ops) {P : Program} {Q : Exit → Act → World → Prop} {K K' : Act → World → Prop} {a : Act} {w : World} {i : Nat} (hi : m + i < ops.length) (hK : ∀ a w, K a w → K' a w)
    (hh : wpOp P (cutOps m ops).toArray Q i K a w) : wpOp P ops.toArray Q (m + i) K' a w := by
  refine wpOp_mono hK ?_
  unfold wpOp at hh ⊢
  have e1 : (cutOps m ops).toArray[i]? = some (cutO m ops[m + i]) := by simpa using cut_get hi
  have e2 : ops.toArray[m + i]? = some ops[m + i] := by simp [hi]
  have g1 : ops[m + i].guard = none := h.gd (m + i) _ (by omega) (List.getElem?_eq_getElem hi)
  have w1 : ∀ f, Region.wanted ops[m + i] f = true := fun f => by simp [Region.wanted, g1]
  have w2 : ∀ f, Region.wanted (cutO m ops[m + i]) f = true := fun f => by simp [Region.wanted, cutO, g1]
  rw [e1] at hh
  rw [e2]
  simp only [w1, w2, cut_wp, cut_asks] at hh ⊢
  exact hh
theorem cut_any (h : Ct m ops) {P : Program} {Q : Exit → Act → World → Prop} : ∀ (f : Nat) (l l' : Array Bool) (a : Act) (w : World), l.size = ops.length → l'.size = ops.length - m → (∀ i, i < m → l.getD i false = true) → (∀ i, m + i < ops.length → l'.getD i false = l.getD (m + i) false) →
    wpAny P .any (cutOps m ops).toArray Q f l' a w → wpAny P .any ops.toArray Q f l a w := by
  have tf : ∀ (l : Array Bool) i, i < l.size → l.getD i true = l.getD i false := fun l i hi => by simp [Array.getD_eq_getD_getElem?, hi]
  have hle := h.le
  have rdy : ∀ (l l' : Array Bool), l.size = ops.length → l'.size = ops.length - m → (∀ i, i < m → l.getD i false = true) → (∀ i, m + i < ops.length → l'.getD i false = l.getD (m + i) false) → ∀ i, m + i < ops.length → (m + i ∈ Region.ready .any ops.toArray l ↔ i ∈ Region.ready .any (cutOps m ops).toArray l') := by
    intro l l' hl hl' hm hr i hi
    have e1 : (cutOps m ops).toArray[i]? = some (cutO m ops[m + i]) := by simpa using cut_get hi
    have e2 : ops.toArray[m + i]? = some ops[m + i] := by simp [hi]
    rw [mem_ready, mem_ready, e1, e2, tf l (m + i) (by omega), tf l' i (by omega), hr i hi]
    refine and_congr Iff.rfl ?_
    constructor
    · rintro ⟨o, ho, hall⟩
      cases ho
      refine ⟨_, rfl, fun e he hb => ?_⟩
      simp only [cutO, Array.mem_map, Array.mem_filter] at he
      obtain ⟨e0, ⟨he0, hle0⟩, rfl⟩ := he
      have hle1 : m ≤ e0.on := Nat.le_of_ble_eq_true hle0
      have hlt := h.ed _ _ (List.getElem?_eq_getElem hi) e0 he0
      show l'.getD (e0.on - m) false = true
      rw [hr _ (by omega), show m + (e0.on - m) = e0.on by omega]
      exact hall e0 he0 hb
    · rintro ⟨o, ho, hall⟩
      cases ho
      refine ⟨_, rfl, fun e he hb => ?_⟩
      by_cases hem : e.on < m
      · exact hm _ hem
      · have hlt := h.ed _ _ (List.getElem?_eq_getElem hi) e he
        have h2 := hall (cutE m e) (by simp only [cutO, Array.mem_map, Array.mem_filter]; exact ⟨e, ⟨he, Nat.ble_eq_true_of_le (by omega)⟩, rfl⟩) hb
        have h3 : l'.getD (e.on - m) false = true := h2
        rw [hr _ (by omega), show m + (e.on - m) = e.on by omega] at h3
        exact h3
  have lt : ∀ (l : Array Bool), l.size = ops.length → (∀ i, i < m → l.getD i false = true) → ∀ i, i ∈ Region.ready .any ops.toArray l → m ≤ i ∧ i < ops.length := fun l hl hm i hi => by
    obtain ⟨h0, o, ho, _⟩ := mem_ready.1 hi
    have h1 := (Array.getElem?_eq_some_iff.1 ho).1
    have h2 : i < ops.length := by simpa using h1
    refine ⟨?_, h2⟩
    apply Nat.le_of_not_lt
    intro hc
    rw [tf l i (by omega), hm i hc] at h0
    cases h0
  have lt' : ∀ (l : Array Bool) i, i ∈ Region.ready .any (cutOps m ops).toArray l → m + i < ops.length := fun l i hi => by
    obtain ⟨_, o, ho, _⟩ := mem_ready.1 hi
    have h1 := (Array.getElem?_eq_some_iff.1 ho).1
    have h2 := cut_len (m := m) (ops := ops)
    simp only [List.size_toArray] at h1
    omega
  have nil : ∀ (l l' : Array Bool), l.size = ops.length → l'.size = ops.length - m → (∀ i, i < m → l.getD i false = true) → (∀ i, m + i < ops.length → l'.getD i false = l.getD (m + i) false) → Region.ready .any ops.toArray l = [] → Region.ready .any (cutOps m ops).toArray l' = [] := by
    intro l l' hl hl' hm hr he
    refine List.eq_nil_iff_forall_not_mem.2 fun k hk => ?_
    have := (rdy l l' hl hl' hm hr k (lt' l' k hk)).2 hk
    rw [he] at this
    cases this
  intro f
  induction f with
  | zero =>
    intro l l' a w hl hl' hm hr hh
    refine ⟨?_, hh.2⟩
    refine List.eq_nil_iff_forall_not_mem.2 fun k hk => ?_
    obtain ⟨q1, q2⟩ := lt l hl hm k hk
    have := (rdy l l' hl hl' hm hr (k - m) (by omega)).1 (by rw [show m + (k - m) = k by omega]; exact hk)
    rw [hh.1] at this
    cases this
  | succ f ih =>
    intro l l' a w hl hl' hm hr hh
    refine ⟨fun he => hh.1 (nil l l' hl hl' hm hr he), fun k hk => ?_⟩
    obtain ⟨q1, q2⟩ := lt l hl hm k hk
    obtain ⟨i, rfl⟩ : ∃ i, k = m + i := ⟨k - m, by omega⟩
    have h1 := hh.2 _ ((rdy l l' hl hl' hm hr i q2).1 hk)
    refine cut_wpOp h q2 (fun a w hw => ih _ _ a w (by simp [hl]) (by simp [hl']) (fun j hj => ?_) (fun j hj => ?_) hw) h1
    · rw [getD_set_ne false (by omega), hm j hj]
    · by_cases e : i = j
      · subst e
        have s1 : (l.setIfInBounds (m + i) true).getD (m + i) false = true := by simp [Array.getD_eq_getD_getElem?, hl, q2]
        have s2 : (l'.setIfInBounds i true).getD i false = true := by
          rw [Array.getD_eq_getD_getElem?, Array.getElem?_setIfInBounds_self_of_lt (by omega)]; rfl
        rw [s1, s2]
      · rw [getD_set_ne false e, getD_set_ne false (show ¬ m + i = m + j by omega), hr j hj]
end
section
variable {C : Cx} {G : Gl} {ops : List Oper} {hs : List (Nat × Hint)} {φ : Phi} {a : Act} {w : World} {s sf : St} {os : List Prop} {Q : Exit → Act → World → Prop}
theorem any_of_runR (hT : TCok C.P C.tc) (hr : runR C ops true hs s = some (os, sf)) (ho : AllP os) (hI : Inv C G s φ a w) (hQ : ∀ φ' a' w', Inv C G sf φ' a' w' → Q .normal a' w') : wpAny C.P .any ops.toArray Q ops.length (Array.replicate ops.length false) a w := by
  unfold runR at hr
  split at hr
  case h_2 => cases hr
  rename_i hd
  have hd : drawOk ops = true ∧ (noLate ops = true ∨ lateAll C ops hs 0 (clSt s) ops = true) := by simpa using hd
  have hdw := drawOk_dw (ops := ops) hd.1
  obtain ⟨m, op, st, out, os', e0, hseg, hnb, hJ, hrn, hos', hle, hnx, hlate⟩ := runL_seg hdw ops 0 (clSt s) os (by simp) hr ho J.cl
  have hcl := hI.cl
  have hsz : (Array.replicate ops.length false).size = ops.length := by simp
  have hget : ∀ j, (Array.replicate ops.length false).getD j false = false := fun j => by
    simp only [Array.getD_eq_getD_getElem?, Array.getElem?_replicate]
    split <;> rfl
  refine drawn hT hdw hQ ops.length 0 m op st out (fun _ => False) (fun _ => False) φ a _ os' _ hseg hnb hJ hrn hos' (by simpa using hle) hnx (hd.2.imp (fun h => h) (fun h => (hlate h).1)) (fun q hq hlgq => hd.2.elim (fun h => (noLate_G h (by simpa using hlgq)).elim) (fun h => (hlate h).2 q hq hlgq)) (SegI.start (tm := (st 0).tm) hseg (by rw [e0]; exact hcl) (fun t _ x hx => hx) (fun j hj => hj.elim)) hsz ?_ ?_ ?_
  · intro i o hi
    rw [show Lf (Array.replicate ops.length false) i = false from hget i] at hi
    cases hi
  · intro j hj
    rw [hget j]
    constructor
    · intro h; cases h
    · rintro (h | ⟨q, _, _, h⟩)
      · have := h.1
        omega
      · exact h.elim
  · have : ∀ (l : Array Bool) n, unl l n ≤ n := fun l n => by
      induction n with
      | zero => simp [unl]
      | succ n ih => simp only [unl]; split <;> omega
    exact this _ _
/-- A drawn region, read in another order, its first operations ahead of all others: these touch no memory. -/
theorem AWP.regionA {K : Exit → St → Prop} {s1 : St} {os2 : List Prop} (hT : TCok C.P C.tc) (hm : C.P.follows .mixedOrders = true) {id : Nat} (π σ : List Nat) (m : Nat) (hp : permOk π σ ops = true) (hc : cutOk m (permOps π σ ops) = true) (ht : takeOk ops.length m (permOps π σ ops) = true) (hl : ((permOps π σ ops).take m).all memless = true)
    (hs hs2 : List (Nat × Hint)) (hr1 : runL C (permOps π σ ops) hs 0 (clSt s) ((permOps π σ ops).take m) = some (os, s1)) (hr2 : runR C (cutOps m (permOps π σ ops)) true hs2 s1 = some (os2, sf)) (ho : AllP os) (ho2 : AllP os2) (hk : K .normal sf) : AWP C (.region id ops.toArray true) s K := by
  have h := permOk_pm hp
  have hct := cutOk_ct hc
  have hlen := perm_len h
  unfold takeOk at ht
  simp only [Bool.and_eq_true, List.all_eq_true, List.mem_range] at ht
  constructor
  intro G φ a w N hI
  refine reg_any hm hI.defers ?_
  refine re_any h _ _ (Array.replicate ops.length false) _ _ (by simp) (by simp) (fun i hi => ?_) ?_
  · have e : ∀ n j, (Array.replicate n false).getD j false = false := fun n j => by
      simp only [Array.getD_eq_getD_getElem?, Array.getElem?_replicate]
      split <;> rfl
    rw [e, e]
  have hcl := hI.cl.drew
  obtain ⟨a', φ', hys, hI'⟩ := takeL hT ((permOps π σ ops).take m) 0 (clSt s) φ a os (fun k o hk => by
    rw [List.getElem?_take] at hk
    split at hk
    · simpa using hk
    · cases hk) hl hr1 ho hcl
  have hml : ((permOps π σ ops).take m).length = m := by rw [List.length_take]; exact Nat.min_eq_left hct.le
  rw [hml] at hys
  have hfu : ops.toArray.size = (permOps π σ ops).length - m + m := by
    have := hct.le
    simp only [List.size_toArray]
    omega
  rw [hfu]
  refine any_take (n := ops.length) (f := (permOps π σ ops).length - m) (a' := a') ht.1 ht.2 (fun c a w hq => by cases hq.1) ?_ m 0 a (by omega) hys
  refine cut_any hct _ _ (Array.replicate ((permOps π σ ops).length - m) false) _ _ (by rw [lstA_size, hlen]) (by simp) (fun i hi => ?_) (fun i hi => ?_) ?_
  · rw [lstA_get, decide_eq_true_eq]
    have := hct.le
    omega
  · rw [lstA_get]
    have e : decide (m + i < m ∧ m + i < ops.length) = false := by
      rw [decide_eq_false_iff_not]
      omega
    rw [e]
    simp only [Array.getD_eq_getD_getElem?, Array.getElem?_replicate]
    split <;> rfl
  have hfin := any_of_runR (Q := QN C G K) hT hr2 ho2 hI' (fun φ2 a2 w2 hI2 => ⟨rfl, sf, φ2, hk, hI2⟩)
  rw [cut_len] at hfin
  exact hfin
end
/-! What a place of a list holds behind stores. -/
theorem len_putC (X : List V) (a : Nat) (d : V) : (putC (1 == 1) X a [d]).length = X.length := by
  show (X.set a d).length = _
  rw [List.length_set]
theorem gI_putC_eq {X : List V} {a : Nat} {d : V} (h : a < X.length) : gI (putC (1 == 1) X a [d]) a = d := by
  show (X.set a d).getD a .top = d
  rw [List.getD_eq_getElem?_getD, List.getElem?_set_self h]
  rfl
theorem gI_putC_ne {X : List V} {a b : Nat} {d v : V} (h : a ≠ b) (e : gI X b = v) : gI (putC (1 == 1) X a [d]) b = v := by
  rw [← e]
  show (X.set a d).getD b .top = X.getD b .top
  rw [List.getD_eq_getElem?_getD, List.getElem?_set_ne h, List.getD_eq_getElem?_getD]
end Go.Ab
