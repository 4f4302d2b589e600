/- Maps that are written down with their entries, these being laid in whatever order. -/
import Derived.Test.YtcekfepgdfcinaaGreatDoorAb34
set_option linter.unusedSimpArgs false
set_option linter.unusedVariables false
namespace Go.Ab
open Go.RowKit
/-- An entry: the slots of its key and of its value, and these. -/
structure Ent where
  kt : Tmp
  vt : Tmp
  k : V
  v : V
def Ent.p (e : Ent) : V × V := (e.k, e.v)
def plainTm (tm : List (Nat × T)) : Prop := ∀ t x, lk tm t = some x → ∃ y, x = .plain y
def plainB : List (Nat × T) → Bool
  | [] => true
  | (_, .plain _) :: r => plainB r
  | _ :: _ => false
theorem plainB_ok : ∀ {tm : List (Nat × T)}, plainB tm = true → plainTm tm
  | [], _, t, x, h => by cases h
  | (k, .plain y) :: r, hb, t, x, h => by
    simp only [lk] at h
    split at h
    · cases h; exact ⟨y, rfl⟩
    · exact plainB_ok (tm := r) hb t x h
  | (k, .gd _ _ _) :: r, hb, t, x, h => by simp [plainB] at hb
/-- The operations that lay a map with m entries. -/
structure LitOps (ops : List Oper) (t : TypeId) (dm : Tmp) (L : List Ent) : Prop where
  len : ops.length = 1 + 3 * L.length
  mk_ : ∃ o, ops[0]? = some o ∧ o.dst = some dm ∧ o.guard = none
  key : ∀ (q : Nat) (e : Ent), L[q]? = some e → ∃ o, ops[1 + 3 * q]? = some o ∧ o.dst = some e.kt ∧ o.guard = none
  val : ∀ (q : Nat) (e : Ent), L[q]? = some e → ∃ o, ops[2 + 3 * q]? = some o ∧ o.dst = some e.vt ∧ o.guard = none
  put : ∀ (q : Nat) (e : Ent), L[q]? = some e → ∃ o, ops[3 + 3 * q]? = some o ∧ o.op = .insert t (.tmp dm) (.tmp e.kt) (.tmp e.vt) ∧ o.dst = none ∧ o.guard = none ∧ ∀ j, j = 0 ∨ j = 1 + 3 * q ∨ j = 2 + 3 * q → ∃ d ∈ o.after, Region.binds .any d = true ∧ d.on = j
  back : ∀ (i : Nat) (o : Oper), ops[i]? = some o → ∀ e ∈ o.after, Region.binds .any e = true → e.on < i
def isPut (o : Oper) (t : TypeId) (dm : Tmp) (e : Ent) (q : Nat) : Bool :=
  (match o.op with | .insert t' (.tmp a) (.tmp b) (.tmp c) => (Nat.beq t' t && Nat.beq a dm) && (Nat.beq b e.kt && Nat.beq c e.vt) | _ => false) && (o.dst.isNone && o.guard.isNone) &&
    [0, 1 + 3 * q, 2 + 3 * q].all fun j => o.after.toList.any fun d => Region.binds .any d && Nat.beq d.on j
def isDst (ops : List Oper) (i : Nat) (d : Tmp) : Bool := match ops[i]? with
  | some o => o.guard.isNone && (match o.dst with | some d' => Nat.beq d' d | none => false)
  | none => false
def litOpsB (ops : List Oper) (t : TypeId) (dm : Tmp) (L : List Ent) : Bool :=
  Nat.beq ops.length (1 + 3 * L.length) && (isDst ops 0 dm && ((List.range L.length).all fun q => match L[q]? with
    | some e => (isDst ops (1 + 3 * q) e.kt && isDst ops (2 + 3 * q) e.vt) && (match ops[3 + 3 * q]? with | some o => isPut o t dm e q | none => false)
    | none => false)) && ((List.range ops.length).all fun i => match ops[i]? with
    | some o => o.after.toList.all fun e => !(Region.binds .any e) || Nat.blt e.on i
    | none => true)
theorem isDst_ok {ops : List Oper} {i : Nat} {d : Tmp} (h : isDst ops i d = true) : ∃ o, ops[i]? = some o ∧ o.dst = some d ∧ o.guard = none := by
  unfold isDst at h
  split at h
  · rename_i o ho
    simp only [Bool.and_eq_true, Option.isNone_iff_eq_none] at h
    refine ⟨o, ho, ?_, h.1⟩
    have h2 := h.2
    split at h2
    · rename_i d' hd
      rw [hd, Nat.eq_of_beq_eq_true h2]
    · cases h2
  · cases h
theorem isPut_ok {o : Oper} {t : TypeId} {dm : Tmp} {e : Ent} {q : Nat} (h : isPut o t dm e q = true) : o.op = .insert t (.tmp dm) (.tmp e.kt) (.tmp e.vt) ∧ o.dst = none ∧ o.guard = none ∧ ∀ j, j = 0 ∨ j = 1 + 3 * q ∨ j = 2 + 3 * q → ∃ d ∈ o.after, Region.binds .any d = true ∧ d.on = j := by
  unfold isPut at h
  rw [Bool.and_eq_true, Bool.and_eq_true] at h
  obtain ⟨⟨h1, h2⟩, h3⟩ := h
  simp only [Bool.and_eq_true, Option.isNone_iff_eq_none] at h2
  refine ⟨?_, h2.1, h2.2, fun j hj => ?_⟩
  · split at h1
    · rename_i t' a b c ho
      simp only [Bool.and_eq_true] at h1
      rw [ho, Nat.eq_of_beq_eq_true h1.1.1, Nat.eq_of_beq_eq_true h1.1.2, Nat.eq_of_beq_eq_true h1.2.1, Nat.eq_of_beq_eq_true h1.2.2]
    · cases h1
  · rw [List.all_eq_true] at h3
    have := h3 j (by simpa using hj)
    rw [List.any_eq_true] at this
    obtain ⟨d, hd, he⟩ := this
    rw [Bool.and_eq_true] at he
    exact ⟨d, by simpa using hd, he.1, Nat.eq_of_beq_eq_true he.2⟩
theorem litOpsB_ok {ops : List Oper} {t : TypeId} {dm : Tmp} {L : List Ent} (h : litOpsB ops t dm L = true) : LitOps ops t dm L := by
  unfold litOpsB at h
  simp only [Bool.and_eq_true, List.all_eq_true, List.mem_range] at h
  obtain ⟨⟨h1, h2, h3⟩, h4⟩ := h
  have at_ : ∀ (q : Nat) (e : Ent), L[q]? = some e → (isDst ops (1 + 3 * q) e.kt = true ∧ isDst ops (2 + 3 * q) e.vt = true) ∧ ∃ o, ops[3 + 3 * q]? = some o ∧ isPut o t dm e q = true := fun q e he => by
    have hq : q < L.length := (List.getElem?_eq_some_iff.1 he).1
    have := h3 q hq
    rw [he] at this
    dsimp only at this
    rw [Bool.and_eq_true, Bool.and_eq_true] at this
    refine ⟨this.1, ?_⟩
    have h5 := this.2
    split at h5
    · rename_i o ho
      exact ⟨o, ho, h5⟩
    · cases h5
  refine ⟨Nat.eq_of_beq_eq_true h1, isDst_ok h2, fun q e he => isDst_ok (at_ q e he).1.1, fun q e he => isDst_ok (at_ q e he).1.2, fun q e he => ?_, fun i o ho e he hb => ?_⟩
  · obtain ⟨o, ho, hp⟩ := (at_ q e he).2
    exact ⟨o, ho, isPut_ok hp⟩
  · have hi : i < ops.length := (List.getElem?_eq_some_iff.1 ho).1
    have := h4 i hi
    rw [ho] at this
    dsimp only at this
    rw [List.all_eq_true] at this
    have := this e (by simpa using he)
    rw [hb] at this
    simpa using this
section
variable {C : Cx} {G : Gl} {s : St} {φ φ' : Phi} {a : Act} {w w' : World}
/-- A slot is filled that nobody knows. -/
theorem Inv.skip (hI : Inv C G s φ a w) (hp : plainTm s.tm) {d : Tmp} (hd : lk s.tm d = none) (hdn : d < C.n) (hg : Gr φ w φ' w' []) (u : Value) : Inv C G s φ' (a.put (some d) u) w' := by
  have hI' : Inv C G s φ' (a.put none u) w' := hI.put (dst := none) (t := .plain .top) (new := []) rfl hg (fun _ _ _ _ => Rel.top) (fun id blk h => by cases h)
  refine ⟨?_, hI'.defers, fun t x hx => ?_, hI'.hr, hI'.ok, hI'.x, hI'.frm, hI'.own, hI'.fix⟩
  · show (a.tmps.setIfInBounds d u).size = _
    rw [Array.size_setIfInBounds]
    exact hI.size
  · obtain ⟨y, rfl⟩ := hp t x hx
    have h := hI'.tm t _ hx
    have hne : t ≠ d := fun e => by rw [e, hd] at hx; cases hx
    show Rel _ _ _ y ((a.put (some d) u).tmps.getD t undef)
    rw [put_getD a d u t (by rw [hI.size]; exact hdn), if_neg hne]
    exact h
/-- A map's pairs in another order. -/
theorem Inv.perm {id : Nat} {tm : List (Nat × T)} {H : List (Nat × Blk)} {ks ks' : List (V × V)} {fl : Bool} {sz : Nat} {bl : Nat} (hI : Inv C G ⟨tm, ins id ⟨flatP ks, fl, sz, some (bl, 0)⟩ H⟩ φ a w) (hp : ks.Perm ks') : Inv C G ⟨tm, ins id ⟨flatP ks', fl, sz, some (bl, 0)⟩ H⟩ φ a w := by
  refine ⟨hI.size, hI.defers, hI.tm, fun i blk hl => ?_, ⟨hI.ok.inj, hI.ok.lt, hI.ok.free, fun i hi => ?_⟩, hI.x, hI.frm, hI.own, fun i hb h0 => ?_⟩
  · have hl2 : lk (ins id ⟨flatP ks', fl, sz, some (bl, 0)⟩ H) i = some blk := hl
    clear hl
    rw [lk_ins] at hl2
    split at hl2
    · rename_i e
      have hl3 := Option.some.inj hl2
      subst hl3
      subst e
      have h := hI.hr i ⟨flatP ks, fl, sz, some (bl, 0)⟩ (by show lk (ins i _ H) i = _; rw [lk_ins, if_pos rfl])
      generalize φ i = sl at h ⊢
      cases sl with
      | none => trivial
      | nil => exact absurd h.2 (by simp [mv, isMp])
      | «at» b c =>
        obtain ⟨h1, es, cl, k1, k2, h2, h3, h4, h5, h6⟩ := h
        have : ks = k1 := flatP_inj h3
        subst this
        exact ⟨h1, es, cl, ks', k2, h2, rfl, hp.symm.trans h4, h5, h6⟩
    · exact hI.hr i blk (by show lk (ins id _ H) i = _; rw [lk_ins, if_neg ‹_›]; exact hl2)
  · have hi : lk (ins id ⟨flatP ks', fl, sz, some (bl, 0)⟩ H) i = none := hi
    refine hI.ok.dom i ?_
    show lk (ins id _ H) i = none
    rw [lk_ins] at hi ⊢
    split at hi
    · cases hi
    · rename_i e
      rw [if_neg e]
      exact hi
  · rcases hI.fix i hb h0 with h | h
    · exact .inl h
    · refine .inr ?_
      have h : lk (ins id ⟨flatP ks, fl, sz, some (bl, 0)⟩ H) i = none := h
      show lk (ins id _ H) i = none
      rw [lk_ins] at h ⊢
      split at h
      · cases h
      · rename_i e
        rw [if_neg e]
        exact h
end
/-- What is so when some of the operations have come up. -/
def LInv (C : Cx) (G : Gl) (s0 s1 : St) (dm : Tmp) (L : List Ent) (l : Array Bool) (a : Act) (w : World) : Prop :=
  (∃ φ, (l.getD 0 false = false ∧ (∀ q, l.getD (3 + 3 * q) false = false) ∧ Inv C G s0 φ a w) ∨
    (l.getD 0 false = true ∧ ∃ ks : List (V × V), ks.Nodup ∧ (∀ p, p ∈ ks ↔ ∃ (q : Nat) (e : Ent), L[q]? = some e ∧ e.p = p ∧ l.getD (3 + 3 * q) false = true) ∧ Inv C G ⟨s1.tm, ins dm ⟨flatP ks, true, 0, some (0, 0)⟩ s1.H⟩ φ a w)) ∧
  ∀ (q : Nat) (e : Ent), L[q]? = some e → (l.getD (1 + 3 * q) false = true → ∀ (I : Nat → Prop) (w : World) (φ : Phi), Rel I w φ e.k (a.tmps.getD e.kt undef)) ∧
    (l.getD (2 + 3 * q) false = true → ∀ (I : Nat → Prop) (w : World) (φ : Phi), Rel I w φ e.v (a.tmps.getD e.vt undef))
/-- What is asked of the entries: closed, keys unlike, slots of their own. -/
structure LitOk (C : Cx) (s0 s1 : St) (kt : TypeId) (dm : Tmp) (L : List Ent) : Prop where
  cl : ∀ e ∈ L, clV e.k = true ∧ clV e.v = true ∧ (kvOk C.tc 4 kt e.k && ksc e.k) = true ∧ flat e.k = true ∧ flat e.v = true
  ne : ∀ (q q' : Nat) (e e' : Ent), L[q]? = some e → L[q']? = some e' → evEq C.tc 4 kt e.k e'.k = some (decide (q = q'))
  lt : dm < C.n ∧ ∀ e ∈ L, e.kt < C.n ∧ e.vt < C.n
  un : ∀ e ∈ L, lk s0.tm e.kt = none ∧ lk s0.tm e.vt = none ∧ lk s1.tm e.kt = none ∧ lk s1.tm e.vt = none ∧ e.kt ≠ dm ∧ e.vt ≠ dm
  sl : ∀ (q q' : Nat) (e e' : Ent), L[q]? = some e → L[q']? = some e' → e.kt ≠ e'.vt ∧ (q ≠ q' → e.kt ≠ e'.kt ∧ e.vt ≠ e'.vt)
  pl : plainTm s0.tm ∧ plainTm s1.tm
def noneB (tm : List (Nat × T)) (d : Nat) : Bool := match lk tm d with | none => true | some _ => false
theorem noneB_ok {tm : List (Nat × T)} {d : Nat} (h : noneB tm d = true) : lk tm d = none := by
  unfold noneB at h
  split at h
  · assumption
  · cases h
def slots (L : List Ent) : List Nat := L.flatMap fun e => [e.kt, e.vt]
def keysNe (tc : List (Nat × TI)) (kt : TypeId) : List Ent → Bool
  | [] => true
  | e :: r => (match evEq tc 4 kt e.k e.k with | some true => true | _ => false) && (r.all fun e' => (match evEq tc 4 kt e.k e'.k with | some false => true | _ => false) && (match evEq tc 4 kt e'.k e.k with | some false => true | _ => false)) && keysNe tc kt r
theorem keysNe_ok {tc : List (Nat × TI)} {kt : TypeId} : ∀ {L : List Ent}, keysNe tc kt L = true → ∀ (q q' : Nat) (e e' : Ent), L[q]? = some e → L[q']? = some e' → evEq tc 4 kt e.k e'.k = some (decide (q = q'))
  | [], _, q, _, e, _, h, _ => by simp at h
  | x :: r, hk, q, q', e, e', h, h' => by
    simp only [keysNe, Bool.and_eq_true, List.all_eq_true] at hk
    obtain ⟨⟨k1, k2⟩, k3⟩ := hk
    have two : ∀ z ∈ r, evEq tc 4 kt x.k z.k = some false ∧ evEq tc 4 kt z.k x.k = some false := fun z hz => by
      obtain ⟨q1, q2⟩ := k2 z hz
      constructor
      · split at q1
        · assumption
        · cases q1
      · split at q2
        · assumption
        · cases q2
    cases q with
    | zero =>
      simp only [List.getElem?_cons_zero, Option.some.injEq] at h
      subst h
      cases q' with
      | zero =>
        simp only [List.getElem?_cons_zero, Option.some.injEq] at h'
        subst h'
        split at k1
        · simpa using ‹_›
        · cases k1
      | succ q' => simpa using (two e' (List.mem_of_getElem? (by simpa using h'))).1
    | succ q =>
      cases q' with
      | zero =>
        simp only [List.getElem?_cons_zero, Option.some.injEq] at h'
        subst h'
        simpa using (two e (List.mem_of_getElem? (by simpa using h))).2
      | succ q' => simpa using keysNe_ok k3 q q' e e' (by simpa using h) (by simpa using h')
def litOkB (C : Cx) (s0 s1 : St) (kt : TypeId) (dm : Tmp) (L : List Ent) : Bool :=
  (L.all fun e => ((clV e.k && clV e.v) && ((kvOk C.tc 4 kt e.k && ksc e.k) && (flat e.k && flat e.v))) && ((Nat.blt e.kt C.n && Nat.blt e.vt C.n) && ((noneB s0.tm e.kt && noneB s0.tm e.vt) && (noneB s1.tm e.kt && noneB s1.tm e.vt)) && (!(Nat.beq e.kt dm) && !(Nat.beq e.vt dm)))) &&
    (keysNe C.tc kt L && (distinct (slots L) && (Nat.blt dm C.n && (plainB s0.tm && plainB s1.tm))))
theorem slots_get : ∀ {L : List Ent} {q : Nat} {e : Ent}, L[q]? = some e → (slots L)[2 * q]? = some e.kt ∧ (slots L)[2 * q + 1]? = some e.vt
  | [], q, e, h => by simp at h
  | x :: r, 0, e, h => by
    simp only [List.getElem?_cons_zero, Option.some.injEq] at h
    subst h
    exact ⟨rfl, rfl⟩
  | x :: r, q + 1, e, h => by
    have := slots_get (L := r) (q := q) (e := e) (by simpa using h)
    have e0 : slots (x :: r) = x.kt :: x.vt :: slots r := rfl
    rw [e0, show 2 * (q + 1) = 2 * q + 1 + 1 by omega, show 2 * q + 1 + 1 + 1 = (2 * q + 1) + 1 + 1 by omega]
    simpa using this
theorem nodup_get {l : List Nat} (h : l.Nodup) {i j : Nat} {x y : Nat} (hi : l[i]? = some x) (hj : l[j]? = some y) (hne : i ≠ j) : x ≠ y := by
  obtain ⟨hi', rfl⟩ := List.getElem?_eq_some_iff.1 hi
  obtain ⟨hj', rfl⟩ := List.getElem?_eq_some_iff.1 hj
  have hp := List.pairwise_iff_getElem.1 (List.nodup_iff_pairwise_ne.1 h)
  rcases Nat.lt_or_gt_of_ne hne with hlt | hlt
  · exact hp i j hi' hj' hlt
  · exact (hp j i hj' hi' hlt).symm
theorem litOkB_ok {C : Cx} {s0 s1 : St} {kt : TypeId} {dm : Tmp} {L : List Ent} (h : litOkB C s0 s1 kt dm L = true) : LitOk C s0 s1 kt dm L := by
  unfold litOkB at h
  simp only [Bool.and_eq_true, List.all_eq_true, Bool.not_eq_true', Nat.blt_eq] at h
  obtain ⟨h1, h2, h3, h4, h5, h6⟩ := h
  have nb : ∀ {x y : Nat}, Nat.beq x y = false → x ≠ y := fun {x y} hb e => by
    subst e
    rw [show Nat.beq x x = true from Nat.beq_refl x] at hb
    cases hb
  refine ⟨fun e he => ?_, keysNe_ok h2, ⟨h4, fun e he => (h1 e he).2.1.1⟩, fun e he => ?_, fun q q' e e' hq hq' => ?_, ⟨plainB_ok h5, plainB_ok h6⟩⟩
  · obtain ⟨⟨⟨q1, q2⟩, ⟨q3, q4⟩, q5, q6⟩, _⟩ := h1 e he
    exact ⟨q1, q2, by rw [q3, q4]; rfl, q5, q6⟩
  · obtain ⟨_, ⟨_, ⟨q1, q2⟩, q3, q4⟩, q5, q6⟩ := h1 e he
    exact ⟨noneB_ok q1, noneB_ok q2, noneB_ok q3, noneB_ok q4, nb q5, nb q6⟩
  · have hnd := distinct_nodup h3
    obtain ⟨a1, a2⟩ := slots_get hq
    obtain ⟨b1, b2⟩ := slots_get hq'
    exact ⟨nodup_get hnd a1 b2 (by omega), fun hne => ⟨nodup_get hnd a1 b1 (by omega), nodup_get hnd a2 b2 (by omega)⟩⟩
theorem Inv.congH {C : Cx} {G : Gl} {tm : List (Nat × T)} {H H' : List (Nat × Blk)} {φ : Phi} {a : Act} {w : World} (hI : Inv C G ⟨tm, H⟩ φ a w) (h : ∀ i, lk H' i = lk H i) : Inv C G ⟨tm, H'⟩ φ a w :=
  ⟨hI.size, hI.defers, hI.tm, fun i blk hl => hI.hr i blk ((h i).symm.trans hl), ⟨hI.ok.inj, hI.ok.lt, hI.ok.free, fun i hi => hI.ok.dom i ((h i).symm.trans hi)⟩, hI.x, hI.frm, hI.own, fun i hb h0 => (hI.fix i hb h0).imp id fun h1 => (h i).trans h1⟩
set_option maxHeartbeats 2000000 in
theorem lit_any {C : Cx} {G : Gl} {s0 s1 : St} {pre : List Oper} {t kt et : TypeId} {ti : TI} {dm : Tmp} {L : List Ent} (hT : TCok C.P C.tc) (hl : LitOps pre t dm L) (hk : LitOk C s0 s1 kt dm L) (htd : lk C.tc t = some ti) (htm : ti.desc = .map kt et)
    (hmk : ∀ o, pre[0]? = some o → step1 C pre [] 0 ⟨[], []⟩ o = some ⟨[], .plain (.mp dm), [(dm, ⟨[], true, 0, some (0, 0)⟩)]⟩)
    (hkey : ∀ (q : Nat) (e : Ent) (o : Oper), L[q]? = some e → pre[1 + 3 * q]? = some o → step1 C pre [] (1 + 3 * q) ⟨[], []⟩ o = some ⟨[], .plain e.k, []⟩)
    (hval : ∀ (q : Nat) (e : Ent) (o : Oper), L[q]? = some e → pre[2 + 3 * q]? = some o → step1 C pre [] (2 + 3 * q) ⟨[], []⟩ o = some ⟨[], .plain e.v, []⟩)
    (hp1 : put1 C.n (some dm) (.plain (.mp dm)) [(dm, ⟨[], true, 0, some (0, 0)⟩)] s0 = some s1) (hdm : lk s1.tm dm = some (.plain (.mp dm))) (hH1 : lk s1.H dm = some ⟨[], true, 0, some (0, 0)⟩) :
    ∀ (f : Nat) (l : Array Bool) (a : Act) (w : World), l.size = pre.length → unl l pre.length ≤ f → LInv C G s0 s1 dm L l a w →
      wpAny C.P .any pre.toArray (fun e a w => e = .normal ∧ ∃ φ, Inv C G ⟨s1.tm, ins dm ⟨flatP (L.map Ent.p), true, 0, some (0, 0)⟩ s1.H⟩ φ a w) f l a w := by
  have hlen := hl.len
  have tmInj : ∀ (q q' : Nat) (e e' : Ent), L[q]? = some e → L[q']? = some e' → e.p = e'.p → q = q' := fun q q' e e' h h' he => by
    have h1 := hk.ne q q' e e' h h'
    have h2 := hk.ne q q e e h h
    have : e.k = e'.k := congrArg Prod.fst he
    rw [this] at h1 h2
    rw [hk.ne q' q' e' e' h' h'] at h1
    simpa using h1
  have hLn : (L.map Ent.p).Nodup := by
    rw [List.nodup_iff_pairwise_ne, List.pairwise_iff_getElem]
    intro i j hi hj hij he
    simp only [List.getElem_map] at he
    have := tmInj i j _ _ (List.getElem?_eq_getElem (by simpa using hi)) (List.getElem?_eq_getElem (by simpa using hj)) he
    omega
  -- all have come up
  have allUp : ∀ l : Array Bool, l.size = pre.length → Region.ready .any pre.toArray l = [] → ∀ i, i < pre.length → l.getD i false = true := fun l hs hr i => by
    induction i using Nat.strongRecOn with
    | _ i ih =>
      intro hi
      refine Classical.byContradiction fun hno => ?_
      have : i ∈ Region.ready .any pre.toArray l := mem_ready.2 ⟨by rw [getD_lt (by omega)]; simpa using hno, pre[i], by simp [hi], fun e he hb => ih e.on (hl.back i pre[i] (List.getElem?_eq_getElem hi) e he hb) (by have := hl.back i pre[i] (List.getElem?_eq_getElem hi) e he hb; omega)⟩
      rw [hr] at this
      cases this
  have fin : ∀ (l : Array Bool) (a : Act) (w : World), l.size = pre.length → LInv C G s0 s1 dm L l a w → Region.ready .any pre.toArray l = [] → (Exit.normal : Exit) = .normal ∧ ∃ φ, Inv C G ⟨s1.tm, ins dm ⟨flatP (L.map Ent.p), true, 0, some (0, 0)⟩ s1.H⟩ φ a w := fun l a w hs hI hr => by
    have hall := allUp l hs hr
    obtain ⟨⟨φ, h | ⟨_, ks, hnd, hmem, hI⟩⟩, _⟩ := hI
    · have h1 := h.1
      rw [hall 0 (by omega)] at h1
      cases h1
    · refine ⟨rfl, φ, hI.perm ((List.perm_ext_iff_of_nodup hnd hLn).2 fun p => ?_)⟩
      rw [hmem, List.mem_map]
      constructor
      · rintro ⟨q, e, he, rfl, _⟩
        exact ⟨e, List.mem_of_getElem? he, rfl⟩
      · rintro ⟨e, he, rfl⟩
        obtain ⟨q, hq, rfl⟩ := List.getElem_of_mem he
        exact ⟨q, L[q], List.getElem?_eq_getElem hq, rfl, hall _ (by omega)⟩
  have hfresh : ∀ {φ : Phi} {a : Act} {w : World}, Inv C G s0 φ a w → ∀ id, lk [(dm, (⟨[], true, 0, some (0, 0)⟩ : Blk))] id ≠ none → φ id = .none := fun {φ a w} hI id hid => by
    unfold put1 at hp1
    split at hp1
    case h_2 => cases hp1
    rename_i tm' H' htm' hH'
    exact hI.ok.dom id (insAll_fresh hH' id hid)
  intro f
  induction f with
  | zero =>
    intro l a w hs hu hI
    have hall := unl_zero (listed := l) pre.length (by omega)
    have hr : Region.ready .any pre.toArray l = [] := by
      refine List.eq_nil_iff_forall_not_mem.2 fun k hkk => ?_
      obtain ⟨q1, o, ho, _⟩ := mem_ready.1 hkk
      have hlt : k < pre.length := by have := (Array.getElem?_eq_some_iff.1 ho).1; simpa using this
      rw [hall k hlt] at q1
      cases q1
    exact ⟨hr, fin l a w hs hI hr⟩
  | succ f ih =>
    intro l a w hs hu hI
    refine ⟨fun hr => fin l a w hs hI hr, fun i hi => ?_⟩
    obtain ⟨q1, o, ho, q2⟩ := mem_ready.1 hi
    have ho' : pre[i]? = some o := by simpa using ho
    have hil : i < pre.length := (List.getElem?_eq_some_iff.1 ho').1
    have q1' : l.getD i false = false := by rw [← getD_lt (by omega)]; exact q1
    have hsz : (l.setIfInBounds i true).size = pre.length := by simp [hs]
    have hu' : unl (l.setIfInBounds i true) pre.length ≤ f := by
      have := unl_set q1 pre.length
      rw [if_pos hil] at this
      omega
    have hset : ∀ j, (l.setIfInBounds i true).getD j false = if j = i then true else l.getD j false := fun j => by
      split
      · rename_i e
        rw [e]
        exact getD_setT (by omega)
      · rename_i e
        exact getD_set_ne false (Ne.symm e)
    have next : ∀ a' w', LInv C G s0 s1 dm L (l.setIfInBounds i true) a' w' → wpAny C.P .any pre.toArray _ f (l.setIfInBounds i true) a' w' := fun a' w' h => ih _ a' w' hsz hu' h
    obtain ⟨⟨φ, hst⟩, htmp⟩ := hI
    have pureStep : ∀ (d : Tmp) (r : Out1), o.dst = some d → o.guard = none → step1 C pre [] i ⟨[], []⟩ o = some r → r.obl = [] → (∀ id, lk r.new id ≠ none → φ id = .none) → (∃ (S : St), Inv C G S φ a w) →
        (∀ u w' φ', Gr φ w φ' w' r.new → (∀ tmps : Array Value, (∀ d want x, r.t = .gd d want x → tmps.getD d undef = a.tmps.getD d undef) → ∀ t, tmps.getD t undef = u → TRel (Imm φ' G.X w') w' φ' tmps t r.t) → (∀ id blk, lk r.new id = some blk → BlkRel (Imm φ' G.X w') w' φ' (φ' id) blk) → LInv C G s0 s1 dm L (l.setIfInBounds i true) (a.put (some d) u) w') →
        wpOp C.P pre.toArray (fun e a w => e = .normal ∧ ∃ φ, Inv C G ⟨s1.tm, ins dm ⟨flatP (L.map Ent.p), true, 0, some (0, 0)⟩ s1.H⟩ φ a w) i (wpAny C.P .any pre.toArray (fun e a w => e = .normal ∧ ∃ φ, Inv C G ⟨s1.tm, ins dm ⟨flatP (L.map Ent.p), true, 0, some (0, 0)⟩ s1.H⟩ φ a w) f (l.setIfInBounds i true)) a w := fun d r hd hg hstep hob hnew ⟨S, hS⟩ hK => by
      unfold wpOp
      rw [ho]
      dsimp only
      have hw : Region.wanted o (yielded pre.toArray a.tmps) = true := by simp [Region.wanted, hg]
      rw [if_pos hw]
      have hst1 := step1_ok (Q := (fun e a w => e = Exit.normal ∧ ∃ φ, Inv C G ⟨s1.tm, ins dm ⟨flatP (L.map Ent.p), true, 0, some (0, 0)⟩ s1.H⟩ φ a w)) hT (s := ⟨[], []⟩) hS.ok hS.x.lt (fun _ _ h => by cases h) hS.gok (a := a) (fun _ _ h => by cases h) hstep (by rw [hob]; trivial) hnew (K := wpAny C.P .any pre.toArray (fun e a w => e = .normal ∧ ∃ φ, Inv C G ⟨s1.tm, ins dm ⟨flatP (L.map Ent.p), true, 0, some (0, 0)⟩ s1.H⟩ φ a w) f (l.setIfInBounds i true))
        (fun u w' φ' h1 h2 h3 => by rw [hd]; exact next _ _ (hK u w' φ' h1 h2 h3))
      rw [if_pos hw] at hst1
      exact .inl hst1
    -- which one is it?
    by_cases h0 : i = 0
    · subst h0
      obtain ⟨o0, g1, g2, g3⟩ := hl.mk_
      rw [ho'] at g1
      cases g1
      have hst0 : Inv C G s0 φ a w ∧ ∀ q, l.getD (3 + 3 * q) false = false := by
        rcases hst with h | h
        · exact ⟨h.2.2, h.2.1⟩
        · rw [q1'] at h
          cases h.1
      refine pureStep dm _ g2 g3 (hmk o ho') rfl (hfresh hst0.1) ⟨s0, hst0.1⟩ fun u w' φ' h1 h2 h3 => ⟨⟨φ', .inr ⟨by rw [hset, if_pos rfl], [], List.nodup_nil, fun p => ⟨fun h => (by cases h), fun ⟨q, e, _, _, h⟩ => ?_⟩, ?_⟩⟩, fun q e he => ⟨fun h => ?_, fun h => ?_⟩⟩
      · rw [hset, if_neg (by omega), hst0.2] at h
        cases h
      · have hI1 : Inv C G s1 φ' (a.put (some dm) u) w' := hst0.1.put hp1 h1 h2 h3
        exact Inv.congH (H := s1.H) hI1 fun j => by
          rw [lk_ins]
          split
          · rename_i e
            rw [e]
            exact hH1.symm
          · rfl
      · rw [hset, if_neg (by omega)] at h
        intro I w φ
        rw [put_getD a dm u _ (by rw [hst0.1.size]; exact hk.lt.1), if_neg (hk.un e (List.mem_of_getElem? he)).2.2.2.2.1]
        exact (htmp q e he).1 h I w φ
      · rw [hset, if_neg (by omega)] at h
        intro I w φ
        rw [put_getD a dm u _ (by rw [hst0.1.size]; exact hk.lt.1), if_neg (hk.un e (List.mem_of_getElem? he)).2.2.2.2.2]
        exact (htmp q e he).2 h I w φ
    · obtain ⟨q, hq⟩ : ∃ q, i = 1 + 3 * q ∨ i = 2 + 3 * q ∨ i = 3 + 3 * q := ⟨(i - 1) / 3, by omega⟩
      have hqL : q < L.length := by omega
      have heq : L[q]? = some L[q] := List.getElem?_eq_getElem hqL
      generalize L[q] = e at heq
      have hmem := List.mem_of_getElem? heq
      have hun := hk.un e hmem
      have hS : ∃ S, Inv C G S φ a w := by
        rcases hst with h | ⟨_, ks, _, _, h⟩
        · exact ⟨_, h.2.2⟩
        · exact ⟨_, h⟩
      have hsize : a.tmps.size = C.n := by
        obtain ⟨S, hS⟩ := hS
        exact hS.size
      -- a slot is filled
      have fill : ∀ (d : Tmp) (j : Nat) (x : V), (d = e.kt ∧ j = 1 + 3 * q ∧ x = e.k ∨ d = e.vt ∧ j = 2 + 3 * q ∧ x = e.v) → i = j → ∀ u w' φ', Gr φ w φ' w' [] → (∀ (I : Nat → Prop) (w : World) (φ : Phi), Rel I w φ x u) → LInv C G s0 s1 dm L (l.setIfInBounds i true) (a.put (some d) u) w' := fun d j x hd hij u w' φ' hg hrel => by
        have hdn : d < C.n ∧ lk s0.tm d = none ∧ lk s1.tm d = none := by
          rcases hd with ⟨rfl, _⟩ | ⟨rfl, _⟩
          · exact ⟨(hk.lt.2 e hmem).1, hun.1, hun.2.2.1⟩
          · exact ⟨(hk.lt.2 e hmem).2, hun.2.1, hun.2.2.2.1⟩
        have hj : j = 1 + 3 * q ∨ j = 2 + 3 * q := by rcases hd with h | h <;> omega
        have put3 : ∀ q', (l.setIfInBounds i true).getD (3 + 3 * q') false = l.getD (3 + 3 * q') false := fun q' => by rw [hset, if_neg (by omega)]
        refine ⟨⟨φ', ?_⟩, fun q' e' he' => ?_⟩
        · rcases hst with ⟨k1, k2, k3⟩ | ⟨k1, ks, k2, k3, k4⟩
          · exact .inl ⟨by rw [hset, if_neg (by omega)]; exact k1, fun q' => by rw [put3]; exact k2 q', k3.skip hk.pl.1 hdn.2.1 hdn.1 hg u⟩
          · exact .inr ⟨by rw [hset, if_neg (by omega)]; exact k1, ks, k2, fun p => by rw [k3]; simp only [put3], k4.skip hk.pl.2 hdn.2.2 hdn.1 hg u⟩
        · have hs := hk.sl q q' e e' heq he'
          have hs' := hk.sl q' q e' e he' heq
          refine ⟨fun h I w φ => ?_, fun h I w φ => ?_⟩
          · rw [hset] at h
            rw [put_getD a d u _ (by rw [hsize]; exact hdn.1)]
            split
            · rename_i ed
              rcases hd with ⟨rfl, hj1, rfl⟩ | ⟨rfl, hj1, rfl⟩
              · have : q = q' := Classical.byContradiction fun hne => (hs.2 hne).1 ed.symm
                subst this
                rw [he'] at heq
                cases heq
                exact hrel I w φ
              · exact absurd ed hs'.1
            · rename_i ed
              refine (htmp q' e' he').1 ?_ I w φ
              split at h
              · rename_i e1
                exfalso
                rcases hd with ⟨rfl, hj1, rfl⟩ | ⟨rfl, hj1, rfl⟩
                · have : q = q' := by omega
                  subst this
                  rw [he'] at heq
                  cases heq
                  exact ed rfl
                · omega
              · exact h
          · rw [hset] at h
            rw [put_getD a d u _ (by rw [hsize]; exact hdn.1)]
            split
            · rename_i ed
              rcases hd with ⟨rfl, hj1, rfl⟩ | ⟨rfl, hj1, rfl⟩
              · exact absurd ed.symm hs.1
              · have : q = q' := Classical.byContradiction fun hne => (hs.2 hne).2 ed.symm
                subst this
                rw [he'] at heq
                cases heq
                exact hrel I w φ
            · rename_i ed
              refine (htmp q' e' he').2 ?_ I w φ
              split at h
              · rename_i e1
                exfalso
                rcases hd with ⟨rfl, hj1, rfl⟩ | ⟨rfl, hj1, rfl⟩
                · omega
                · have : q = q' := by omega
                  subst this
                  rw [he'] at heq
                  cases heq
                  exact ed rfl
              · exact h
      rcases hq with rfl | rfl | rfl
      · obtain ⟨o0, g1, g2, g3⟩ := hl.key q e heq
        rw [ho'] at g1
        cases g1
        refine pureStep e.kt _ g2 g3 (hkey q e o heq ho') rfl (fun id h => absurd rfl h) hS fun u w' φ' h1 h2 h3 => fill e.kt _ e.k (.inl ⟨rfl, rfl, rfl⟩) rfl u w' φ' h1 fun I w'' φ'' => ?_
        have h4 := h2 #[u] (fun _ _ _ h => by cases h) 0 rfl
        exact Rel.closed (show Rel _ _ _ e.k u from h4) (hk.cl e hmem).1 I w'' φ''
      · obtain ⟨o0, g1, g2, g3⟩ := hl.val q e heq
        rw [ho'] at g1
        cases g1
        refine pureStep e.vt _ g2 g3 (hval q e o heq ho') rfl (fun id h => absurd rfl h) hS fun u w' φ' h1 h2 h3 => fill e.vt _ e.v (.inr ⟨rfl, rfl, rfl⟩) rfl u w' φ' h1 fun I w'' φ'' => ?_
        have h4 := h2 #[u] (fun _ _ _ h => by cases h) 0 rfl
        exact Rel.closed (show Rel _ _ _ e.v u from h4) (hk.cl e hmem).2.1 I w'' φ''
      · obtain ⟨o0, g1, g2, g3, g4, g5⟩ := hl.put q e heq
        rw [ho'] at g1
        cases g1
        have dep : ∀ j, j = 0 ∨ j = 1 + 3 * q ∨ j = 2 + 3 * q → l.getD j false = true := fun j hj => by
          obtain ⟨d, hd, hb, rfl⟩ := g5 j hj
          exact q2 d hd hb
        have hst1 : ∃ ks : List (V × V), ks.Nodup ∧ (∀ p, p ∈ ks ↔ ∃ (q : Nat) (e : Ent), L[q]? = some e ∧ e.p = p ∧ l.getD (3 + 3 * q) false = true) ∧ Inv C G ⟨s1.tm, ins dm ⟨flatP ks, true, 0, some (0, 0)⟩ s1.H⟩ φ a w := by
          rcases hst with h | h
          · have := h.1
            rw [dep 0 (.inl rfl)] at this
            cases this
          · exact h.2
        obtain ⟨ks, hnd, hmm, hI2⟩ := hst1
        have hcl := hk.cl e hmem
        have hup : evMapUpd C.tc (ins dm (⟨flatP ks, true, 0, some (0, 0)⟩ : Blk) s1.H) none t (.mp dm) e.k e.v = some ([], ins dm ⟨flatP (ks ++ [e.p]), true, 0, some (0, 0)⟩ (ins dm (⟨flatP ks, true, 0, some (0, 0)⟩ : Blk) s1.H)) := by
          have htd' : lk C.tc t = some ⟨.map kt et, ti.size, ti.bytes, ti.zero, ti.cmp⟩ := by rw [htd, ← htm]
          have hf : mfind C.tc kt e.k (flatP ks) 0 = some none := mfind_none.2 fun p hp => by
            obtain ⟨q', e', he', rfl, hup⟩ := (hmm p).1 hp
            have hne : q ≠ q' := fun eq => by
              rw [← eq, q1'] at hup
              cases hup
            have := hk.ne q q' e e' heq he'
            rw [decide_eq_false hne] at this
            exact this
          unfold evMapUpd
          simp only [htd', lk_ins, if_true, hcl.2.2.1, isMp, told, mput1, hf, Option.map_some, hcl.2.2.2.1, hcl.2.2.2.2, Bool.and_self]
          rw [flatP_app]
          rfl
        have hx := hI2.tm dm _ hdm
        have hkr := (htmp q e heq).1 (dep _ (.inr (.inl rfl))) (Imm φ G.X w) w φ
        have hvr := (htmp q e heq).2 (dep _ (.inr (.inr rfl))) (Imm φ G.X w) w φ
        obtain ⟨w', hrun, hI3⟩ := evMapUpd_ok (sym := none) hT hI2 hup trivial (show Rel _ _ _ (.mp dm) (a.tmps.getD dm undef) from hx) hkr hvr
        unfold wpOp
        rw [ho]
        dsimp only
        rw [if_pos (by simp [Region.wanted, g4])]
        refine .inl ?_
        have hex : (execOp a.eval o).run C.P w = .ok .skip w' := by
          have e1 : a.eval (.tmp dm) = a.tmps.getD dm undef := rfl
          have e2 : a.eval (.tmp e.kt) = a.tmps.getD e.kt undef := rfl
          have e3 : a.eval (.tmp e.vt) = a.tmps.getD e.vt undef := rfl
          simp only [execOp, g2, e1, e2, e3, Sem.run_bind, hrun, Result.andThen_ok, Sem.run_pure]
        show Oper.upon C.P o a _ _ ((execOp a.eval o).run C.P w)
        rw [hex, Oper.upon_skip, g3]
        have hI4 := Inv.congH (H' := ins dm ⟨flatP (ks ++ [e.p]), true, 0, some (0, 0)⟩ s1.H) hI3 fun j => by
          rw [lk_ins, lk_ins, lk_ins]
          split <;> rfl
        refine next _ _ ⟨⟨φ, .inr ⟨by rw [hset, if_neg (by omega)]; exact dep 0 (.inl rfl), ks ++ [e.p], ?_, fun p => ?_, hI4⟩⟩, fun q' e' he' => ⟨fun h => ?_, fun h => ?_⟩⟩
        · refine List.nodup_append.2 ⟨hnd, by simp, fun x hx y hy hxy => ?_⟩
          simp only [List.mem_singleton] at hy
          subst hy hxy
          obtain ⟨q', e', he', hpe, hup'⟩ := (hmm _).1 hx
          have := tmInj q' q e' e he' heq hpe
          subst this
          rw [q1'] at hup'
          cases hup'
        · rw [List.mem_append, hmm, List.mem_singleton]
          constructor
          · rintro (⟨q', e', he', hpe, hup'⟩ | rfl)
            · exact ⟨q', e', he', hpe, by rw [hset]; split <;> simp_all⟩
            · exact ⟨q, e, heq, rfl, by rw [hset, if_pos rfl]⟩
          · rintro ⟨q', e', he', hpe, hup'⟩
            rw [hset] at hup'
            by_cases e1 : q' = q
            · subst e1
              rw [he'] at heq
              cases heq
              exact .inr hpe.symm
            · rw [if_neg (by omega)] at hup'
              exact .inl ⟨q', e', he', hpe, hup'⟩
        · rw [hset, if_neg (by omega)] at h
          exact (htmp q' e' he').1 h
        · rw [hset, if_neg (by omega)] at h
          exact (htmp q' e' he').2 h
/-- What comes behind all else, one behind another. -/
theorem lin_run {C : Cx} {G : Gl} {ops : List Oper} {hs : List (Nat × Hint)} {sf : St} {n : Nat} {Q : Exit → Act → World → Prop} (hT : TCok C.P C.tc) (hlin : Lin ops n) : ∀ (l : List Oper) (k : Nat) (s : St) (φ : Phi) (a : Act) (w : World) (os : List Prop) (m : Array Bool) (g : Nat), l = ops.drop k → n ≤ k → k ≤ ops.length → m.size = ops.length → (∀ i, i < k → m.getD i false = true) → (∀ i, k ≤ i → m.getD i false = false) →
    runL C ops hs k s l = some (os, sf) → AllP os → Inv C G s φ a w → (∀ a' w' φ', Inv C G sf φ' a' w' → Q .normal a' w') → wpAny C.P .any ops.toArray Q (l.length + g) m a w
  | [], k, s, φ, a, w, os, m, g, hl, hnk, hkl, hm, h1, h2, h, _, hI, hQ => by
    cases h
    have : ops.length ≤ k := by
      have := congrArg List.length hl
      simp at this
      omega
    exact lin_end hm (fun i hi => h1 i (by omega)) (hQ _ _ _ hI) _
  | o :: r, k, s, φ, a, w, os, m, g, hl, hnk, hkl, hm, h1, h2, h, hos, hI, hQ => by
    have ho : ops[k]? = some o := by
      have : (ops.drop k)[0]? = some o := by rw [← hl]; rfl
      simpa using this
    have hk2 : k < ops.length := (List.getElem?_eq_some_iff.1 ho).1
    have hr : r = ops.drop (k + 1) := by
      have := congrArg (List.drop 1) hl
      simpa using this
    have hm' : (m.setIfInBounds k true).size = ops.length := by simp [hm]
    have g1 : ∀ i, i < k + 1 → (m.setIfInBounds k true).getD i false = true := fun i hi => by
      by_cases e : i = k
      · subst e; exact getD_setT (by omega)
      · rw [getD_set_ne false (Ne.symm e)]; exact h1 i (by omega)
    have g2 : ∀ i, k + 1 ≤ i → (m.setIfInBounds k true).getD i false = false := fun i hi => by
      rw [getD_set_ne false (by omega)]; exact h2 i (by omega)
    rw [show (o :: r).length + g = (r.length + g) + 1 by simp; omega]
    refine lin_step hlin hnk hk2 hm h1 h2 ?_
    unfold runL at h
    split at h
    · split at h
      case h_2 => cases h
      rename_i o1 s' hst
      split at h
      case h_2 => cases h
      rename_i o2 sf' hrun
      cases h
      obtain ⟨p1, p2⟩ := AllP.append.1 hos
      exact stepB_ok hT hI ho hst p1 (fun a' w' φ' hI' => lin_run hT hlin r (k + 1) s' φ' a' w' o2 _ g hr (by omega) (by omega) hm' g1 g2 hrun p2 hI' hQ)
    · split at h
      case h_2 => cases h
      rename_i o1 r1 s' hst
      split at h
      case h_2 => cases h
      rename_i o2 sf' hrun
      cases h
      obtain ⟨p1, p2⟩ := AllP.append.1 hos
      exact stepD_ok hT hI ho hst p1 (fun a' w' φ' hI' => lin_run hT hlin r (k + 1) s' φ' a' w' o2 _ g hr (by omega) (by omega) hm' g1 g2 hrun p2 hI' hQ)
/-- The keys and values that the operations build. -/
def litVals (C : Cx) (pre : List Oper) : List Ent → Nat → Prop
  | [], _ => True
  | e :: r, q => ((pre[1 + 3 * q]?).bind (step1 C pre [] (1 + 3 * q) ⟨[], []⟩) = some ⟨[], .plain e.k, []⟩ ∧ (pre[2 + 3 * q]?).bind (step1 C pre [] (2 + 3 * q) ⟨[], []⟩) = some ⟨[], .plain e.v, []⟩) ∧ litVals C pre r (q + 1)
theorem litVals_get {C : Cx} {pre : List Oper} : ∀ {L : List Ent} {q0 : Nat}, litVals C pre L q0 → ∀ (q : Nat) (e : Ent), L[q]? = some e → (∀ o, pre[1 + 3 * (q0 + q)]? = some o → step1 C pre [] (1 + 3 * (q0 + q)) ⟨[], []⟩ o = some ⟨[], .plain e.k, []⟩) ∧ ∀ o, pre[2 + 3 * (q0 + q)]? = some o → step1 C pre [] (2 + 3 * (q0 + q)) ⟨[], []⟩ o = some ⟨[], .plain e.v, []⟩
  | [], _, _, q, e, h => by simp at h
  | x :: r, q0, hv, 0, e, h => by
    simp only [List.getElem?_cons_zero, Option.some.injEq] at h
    subst h
    refine ⟨fun o ho => ?_, fun o ho => ?_⟩
    · have := hv.1.1
      rw [Nat.add_zero] at ho ⊢
      rw [ho] at this
      exact this
    · have := hv.1.2
      rw [Nat.add_zero] at ho ⊢
      rw [ho] at this
      exact this
  | x :: r, q0, hv, q + 1, e, h => by
    have := litVals_get hv.2 q e (by simpa using h)
    rw [show q0 + 1 + q = q0 + (q + 1) by omega] at this
    exact this
/-- **A MAP THAT IS WRITTEN DOWN.** -/
theorem AWP.regionLit {C : Cx} {s s1 sf : St} {K : Exit → St → Prop} {id : Nat} {ops : List Oper} {os : List Prop} (hT : TCok C.P C.tc) (hm : C.P.follows .mixedOrders = true) (n : Nat) (t : TypeId) (dm : Tmp) (L : List Ent) {kt et : TypeId} {ti : TI} (htd : lk C.tc t = some ti) (htm : ti.desc = .map kt et)
    (hl : litOpsB (ops.take n) t dm L = true) (hlin : linB ops n = true) (hbf : ((List.range n).all fun j => ((befs ops).getD n 0).testBit j) = true) (hn : n < ops.length)
    (hmk : (ops.take n)[0]?.bind (step1 C (ops.take n) [] 0 ⟨[], []⟩) = some ⟨[], .plain (.mp dm), [(dm, ⟨[], true, 0, some (0, 0)⟩)]⟩) (hv : litVals C (ops.take n) L 0)
    (hp1 : put1 C.n (some dm) (.plain (.mp dm)) [(dm, ⟨[], true, 0, some (0, 0)⟩)] (clSt s) = some s1) (hdm : lk s1.tm dm = some (.plain (.mp dm))) (hH1 : lk s1.H dm = some ⟨[], true, 0, some (0, 0)⟩)
    (hok : litOkB C (clSt s) s1 kt dm L = true) (hs : List (Nat × Hint)) (hr : runL C ops hs n ⟨s1.tm, ins dm ⟨flatP (L.map Ent.p), true, 0, some (0, 0)⟩ s1.H⟩ (ops.drop n) = some (os, sf)) (hos : AllP os) (hk : K .normal sf) : AWP C (.region id ops.toArray true) s K := by
  have hlo := litOpsB_ok hl
  have hoks := litOkB_ok hok
  have hln := linB_lin hlin
  constructor
  intro G φ a w N hI
  refine reg_any hm hI.defers ?_
  have hlen : (ops.take n).length = n := by simp; omega
  have hopsE : ops.take n ++ ops.drop n = ops := List.take_append_drop n ops
  have hpre := lit_any (G := G) hT hlo hoks htd htm (fun o ho => by rw [ho] at hmk; exact hmk) (fun q e o he ho => by have := (litVals_get hv q e he).1 o (by rw [Nat.zero_add]; exact ho); rwa [Nat.zero_add] at this) (fun q e o he ho => by have := (litVals_get hv q e he).2 o (by rw [Nat.zero_add]; exact ho); rwa [Nat.zero_add] at this) hp1 hdm hH1
    n (Array.replicate n false) a { w with drawn := w.drawn + 1 } (by simp [hlen]) (by
      rw [hlen]
      have : ∀ (l : Array Bool) n, unl l n ≤ n := fun l n => by
        induction n with
        | zero => simp [unl]
        | succ n ih => simp only [unl]; split <;> omega
      exact this _ _) (by
      have hz : ∀ j, (Array.replicate n false).getD j false = false := fun j => by
        simp only [Array.getD_eq_getD_getElem?, Array.getElem?_replicate]
        split <;> rfl
      refine ⟨⟨φ, .inl ⟨hz 0, fun q => hz _, hI.cl.drew⟩⟩, fun q e he => ⟨fun h => ?_, fun h => ?_⟩⟩
      · rw [hz] at h; cases h
      · rw [hz] at h; cases h)
  have hgd : ∀ (i : Nat) (o : Oper) (j : Nat) (w : Bool), (ops.take n)[i]? = some o → o.guard = some (j, w) → j < i := fun i o j w ho hg => by
    have hi : i < n := by have := (List.getElem?_eq_some_iff.1 ho).1; omega
    have hL := hlo.len
    by_cases h0 : i = 0
    · subst h0
      obtain ⟨o0, g1, g2, g3⟩ := hlo.mk_
      rw [ho] at g1
      cases g1
      rw [g3] at hg
      cases hg
    · obtain ⟨q, hq⟩ : ∃ q, i = 1 + 3 * q ∨ i = 2 + 3 * q ∨ i = 3 + 3 * q := ⟨(i - 1) / 3, by omega⟩
      have hqL : q < L.length := by omega
      have heq : L[q]? = some L[q] := List.getElem?_eq_getElem hqL
      rcases hq with rfl | rfl | rfl
      · obtain ⟨o0, g1, g2, g3⟩ := hlo.key q _ heq
        rw [ho] at g1; cases g1; rw [g3] at hg; cases hg
      · obtain ⟨o0, g1, g2, g3⟩ := hlo.val q _ heq
        rw [ho] at g1; cases g1; rw [g3] at hg; cases hg
      · obtain ⟨o0, g1, g2, g3, g4, _⟩ := hlo.put q _ heq
        rw [ho] at g1; cases g1; rw [g4] at hg; cases hg
  have hz : ∀ (m : Nat) j, (Array.replicate m false).getD j false = false := fun m j => by
    simp only [Array.getD_eq_getD_getElem?, Array.getElem?_replicate]
    split <;> rfl
  have key := any_pre' (Q := QN C G K) (tl := ops.drop n) (T := fun a w => ∃ φ, Inv C G ⟨s1.tm, ins dm ⟨flatP (L.map Ent.p), true, 0, some (0, 0)⟩ s1.H⟩ φ a w) hlo.back hgd ?_ ?_ n (Array.replicate ops.length false) (Array.replicate n false) a { w with drawn := w.drawn + 1 } (by rw [hopsE]; simp) (by simp [hlen]) (fun i hi => by rw [hz, hz]) (fun k hk => hz _ _) (fun i o hi => by rw [Lf, hz] at hi; cases hi) hpre
  · rw [hopsE] at key
    have e : ops.toArray.size = (ops.drop n).length + n := by simp; omega
    rw [e, show Array.replicate ((ops.drop n).length + n) false = Array.replicate ops.length false by congr 1; simp; omega]
    exact key
  · rw [hopsE, hlen]
    intro l hls hdc hno kk hkk hrd i hi
    obtain ⟨q1, o, ho, q2⟩ := mem_ready.1 hrd
    have ho' : ops[kk]? = some o := by simpa using ho
    have hkn : kk = n := by
      refine Classical.byContradiction fun hc => ?_
      obtain ⟨e, he, hb, heq⟩ := hln.prev kk o (by omega) ho'
      have := q2 e he hb
      rw [heq, hno (kk - 1) (by omega)] at this
      cases this
    subst hkn
    exact befs_ok ops kk i (by rw [List.all_eq_true] at hbf; exact hbf i (by simpa using hi)) (Lf l) hdc ⟨o, ho', fun e he hb => q2 e he hb⟩
  · rw [hopsE, hlen]
    rintro g l a1 w1 hls hall hno ⟨φ1, hI1⟩
    exact lin_run hT hln (ops.drop n) n _ φ1 a1 w1 os l g rfl (Nat.le_refl _) (by omega) hls hall hno hr hos hI1 (fun a' w' φ' hI' => ⟨rfl, sf, φ', hk, hI'⟩)
end Go.Ab
