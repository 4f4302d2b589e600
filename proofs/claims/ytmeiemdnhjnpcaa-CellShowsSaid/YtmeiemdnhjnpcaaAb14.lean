/- A segment, in whatever order its operations come up. -/
import Derived.Test.YtmeiemdnhjnpcaaAb13
set_option linter.unusedSimpArgs false
set_option linter.unusedVariables false
namespace Go.Ab
open Go.RowKit

/-- Some of a segment's operations have come up. -/
structure SegI (C : Cx) (ops : List Oper) (hs : List (Nat × Hint)) (k0 : Nat) (pd : Nat → Prop) (G : Gl) (m : Nat) (op : Nat → Oper) (st : Nat → St) (out : Nat → Out1) (S : Nat → Prop) (φ : Phi) (a : Act) (w : World) : Prop where
  size : a.tmps.size = C.n
  defers : a.defers = []
  tmS : ∀ i, i < m → S i → ∀ t, (op i).dst = some t → TRel (Imm φ G.X w) w φ a.tmps t (out i).t
  tm0 : ∀ t, (∀ i, i < m → S i → (op i).dst ≠ some t) → (∀ j, pd j → dstAt ops j ≠ some t) → ∀ x, lk (st 0).tm t = some x → TRel (Imm φ G.X w) w φ a.tmps t x
  pdk : ∀ j, pd j → j < k0 ∧ ∃ o d r, Pend C ops hs (st 0) j o d r
  hr0 : HR (Imm φ G.X w) w φ (st 0).H
  hrS : ∀ i, i < m → S i → ∀ id blk, lk (out i).new id = some blk → BlkRel (Imm φ G.X w) w φ (φ id) blk
  no : ∀ i, i < m → ¬S i → ∀ id, lk (out i).new id ≠ none → φ id = .none
  ok : Phi.ok φ G.X w (st m).H
  x : ∀ b, G.X b → b < G.w0.heap.size
  frm : Frm G.φ0 G.w0 w
  own : ∀ id b c, φ id = .at b c → (∃ id0 c0, G.φ0 id0 = .at b c0) ∨ G.w0.heap.size ≤ b
  fix : ∀ id b, BIG ≤ id → G.φ0 id = .at b none → φ id = .at b none ∨ lk (st 0).H id = none

section
variable {C : Cx} {G : Gl} {ops : List Oper} {hs : List (Nat × Hint)} {k0 m : Nat} {op : Nat → Oper} {st : Nat → St} {out : Nat → Out1} {S pd : Nat → Prop} {φ φ' : Phi} {a : Act} {w w' : World} {s s' : St}

theorem SegI.start {tm : List (Nat × T)} (h : Seg C ops hs k0 m op st out) (hI : Inv C G ⟨tm, (st 0).H⟩ φ a w) (htm : ∀ t, (∀ j, pd j → dstAt ops j ≠ some t) → ∀ x, lk (st 0).tm t = some x → lk tm t = some x)
    (hpd : ∀ j, pd j → j < k0 ∧ ∃ o d r, Pend C ops hs (st 0) j o d r) : SegI C ops hs k0 pd G m op st out (fun _ => False) φ a w := by
  refine ⟨hI.size, hI.defers, fun i _ hS => hS.elim, fun t _ hn x hx => hI.tm t x (htm t hn x hx), hpd, hI.hr, fun i _ hS => hS.elim, fun i hi _ id hid => ?_, ⟨hI.ok.inj, hI.ok.lt, hI.ok.free, fun id hid => ?_⟩, hI.x, hI.frm, hI.own, hI.fix⟩
  · refine hI.ok.dom id ?_
    cases h0 : lk (st 0).H id with
    | none => rfl
    | some b =>
      have := h.grow (i := 0) i (by omega) (by omega) id b h0
      rw [h.fresh hi hid] at this
      cases this
  · refine hI.ok.dom id ?_
    cases h0 : lk (st 0).H id with
    | none => rfl
    | some b =>
      have := h.grow (i := 0) m (by omega) (Nat.le_refl _) id b h0
      rw [hid] at this
      cases this

theorem only (q : Nat → Prop) : ∀ tm : List (Nat × T), ∃ tm', (∀ t x, lk tm' t = some x → q t ∧ lk tm t = some x) ∧ (∀ t x, q t → lk tm t = some x → lk tm' t = some x)
  | [] => ⟨[], fun _ _ h => (by cases h), fun _ _ _ h => (by cases h)⟩
  | (k, y) :: r => by
    obtain ⟨r', h1, h2⟩ := only q r
    by_cases hq : q k
    · refine ⟨(k, y) :: r', fun t x h => ?_, fun t x hqt h => ?_⟩
      · simp only [lk] at h ⊢
        split at h
        · rename_i e
          rw [if_pos e]
          simp at e
          subst e
          exact ⟨hq, h⟩
        · rename_i e
          rw [if_neg e]
          exact h1 t x h
      · simp only [lk] at h ⊢
        split at h
        · rename_i e
          rw [if_pos e]
          exact h
        · rename_i e
          rw [if_neg e]
          exact h2 t x hqt h
    · refine ⟨r', fun t x h => ?_, fun t x hqt h => ?_⟩
      · have := h1 t x h
        refine ⟨this.1, ?_⟩
        simp only [lk]
        rw [if_neg]
        · exact this.2
        · intro e
          simp at e
          subst e
          exact hq this.1
      · simp only [lk] at h
        split at h
        · rename_i e
          simp at e
          subst e
          exact absurd hqt hq
        · exact h2 t x hqt h

/-- All but some that may wait have come up. -/
theorem SegI.end_ (h : Seg C ops hs k0 m op st out) (hdw : Dw ops) (hI : SegI C ops hs k0 pd G m op st out S φ a w) (hS : ∀ i, i < m → S i ∨ (¬S i ∧ floats ops (k0 + i) = true)) :
    ∃ tm, (∀ t x, lk tm t = some x → (∀ j, (pd j ∨ ∃ q, q < m ∧ j = k0 + q ∧ ¬S q) → dstAt ops j ≠ some t) ∧ lk (st m).tm t = some x) ∧
      (∀ t x, (∀ j, (pd j ∨ ∃ q, q < m ∧ j = k0 + q ∧ ¬S q) → dstAt ops j ≠ some t) → lk (st m).tm t = some x → lk tm t = some x) ∧ Inv C G ⟨tm, (st m).H⟩ φ a w ∧
      (∀ j, (pd j ∨ ∃ q, q < m ∧ j = k0 + q ∧ ¬S q) → j < k0 + m ∧ ∃ o d r, Pend C ops hs (st m) j o d r) := by
  have flt : ∀ i, i < m → ¬S i → ∃ d, Flt ops (k0 + i) (op i) d := fun i hi hno => by
    rcases hS i hi with h1 | ⟨_, h2⟩
    · exact absurd h1 hno
    · obtain ⟨o, d, hf⟩ := floats_flt h2
      have := hf.at_
      rw [h.at_ i hi] at this
      cases this
      exact ⟨d, hf⟩
  obtain ⟨tm, k1, k2⟩ := only (fun t => ∀ j, (pd j ∨ ∃ q, q < m ∧ j = k0 + q ∧ ¬S q) → dstAt ops j ≠ some t) (st m).tm
  refine ⟨tm, k1, k2, ⟨hI.size, hI.defers, fun t x hx => ?_, fun id blk hl => ?_, hI.ok, hI.x, hI.frm, hI.own, fun id b hb h0 => by rw [h.big hb m (Nat.le_refl _)]; exact hI.fix id b hb h0⟩, fun j hj => ?_⟩
  · obtain ⟨hq, hx⟩ := k1 t x hx
    rcases h.tm m (Nat.le_refl _) t x hx with rfl | ⟨j, hj, hd, rfl⟩ | ⟨hno, h0⟩
    · exact Rel.top
    · refine hI.tmS j hj (Classical.byContradiction fun hc => ?_) t hd
      refine hq (k0 + j) (.inr ⟨j, hj, rfl, hc⟩) ?_
      unfold dstAt
      rw [h.at_ j hj]
      exact hd
    · exact hI.tm0 t (fun i hi _ => hno i hi) (fun j hj => hq j (.inl hj)) x h0
  · rcases h.H_ m (Nat.le_refl _) id blk hl with h0 | ⟨j, hj, h1⟩
    · exact hI.hr0 id blk h0
    · refine hI.hrS j hj (Classical.byContradiction fun hc => ?_) id blk h1
      obtain ⟨d, hf⟩ := flt j hj hc
      obtain ⟨_, hn, _⟩ := flt_step1 hf (h.one j hj)
      rw [hn] at h1
      cases h1
  · rcases hj with hj | ⟨q, hq, rfl, hno⟩
    · obtain ⟨hlt, o, d, r, hp⟩ := hI.pdk j hj
      obtain ⟨tm1, H1, q1, q2, q3⟩ := hp.one
      have keep : ∀ t v, t ∈ rs ops o → lk (st 0).tm t = some (.plain v) → lk (st m).tm t = some (.plain v) := fun t v ht hl =>
        h.stays hl m (Nat.zero_le _) (Nat.le_refl _) (fun i _ hi => hp.flt.last (k0 + i) (op i) (by omega) (h.at_ i hi) t ht)
      refine ⟨by omega, o, d, r, hp.flt, hp.ne, hp.lt, ⟨tm1, H1, fun t x hx => ?_, fun id blk hl => ?_, q3⟩, hp.obl, hp.new, hp.pl, ?_⟩
      · obtain ⟨h1, h2, v, rfl⟩ := q1 t x hx
        exact ⟨h1, keep t v h1 h2, v, rfl⟩
      · obtain ⟨h1, ty, t, off, h2, h3, h4⟩ := q2 id blk hl
        exact ⟨h.grow m (Nat.zero_le _) (Nat.le_refl _) id blk h1, ty, t, off, h2, h3, keep t _ h3 h4⟩
      · obtain ⟨v, hv⟩ := hp.pl
        have := hp.val
        rw [hv] at this ⊢
        exact h.stays this m (Nat.zero_le _) (Nat.le_refl _) (fun i _ hi => hdw.dst j (k0 + i) o (op i) hp.flt.at_ (h.at_ i hi) (by omega) d hp.flt.dst)
    · obtain ⟨d, hf⟩ := flt q hq hno
      obtain ⟨⟨tm1, H1, q1, q2, q3⟩, hn, v, hv⟩ := flt_step1 hf (h.one q hq)
      have hput := h.put q hq
      rw [hf.dst] at hput
      have hne : d ∉ rs ops (op q) := hdw.self (k0 + q) (op q) d hf.at_ hf.dst
      have keep : ∀ t v, t ∈ rs ops (op q) → lk (st q).tm t = some (.plain v) → lk (st m).tm t = some (.plain v) := fun t v ht hl => by
        refine h.stays hl m (by omega) (Nat.le_refl _) (fun i h1 hi => ?_)
        by_cases e : i = q
        · subst e
          rw [hf.dst]
          intro e
          cases e
          exact hne ht
        · exact hf.last (k0 + i) (op i) (by omega) (h.at_ i hi) t ht
      refine ⟨by omega, op q, d, out q, hf, hne, (put1_not hput).1, ⟨tm1, H1, fun t x hx => ?_, fun id blk hl => ?_, q3⟩, h.obl q hq, hn, ⟨v, hv⟩, ?_⟩
      · obtain ⟨h1, h2, v, rfl⟩ := q1 t x hx
        exact ⟨h1, keep t v h1 h2, v, rfl⟩
      · obtain ⟨h1, ty, t, off, h2, h3, h4⟩ := q2 id blk hl
        exact ⟨h.grow m (by omega) (Nat.le_refl _) id blk h1, ty, t, off, h2, h3, keep t _ h3 h4⟩
      · have h1 := put1_new hput
        rw [hv] at h1 ⊢
        exact h.stays h1 m (by omega) (Nat.le_refl _) (fun i h1 hi => hdw.dst (k0 + q) (k0 + i) (op q) (op i) hf.at_ (h.at_ i hi) (by omega) d hf.dst)

theorem step1_gd {i : Nat} {o : Oper} {r : Out1} (h : step1 C ops hs i s o = some r) {d : Nat} {want : Bool} {y : V} (hy : r.t = .gd d want y) : ∃ j, o.guard = some (j, want) ∧ dstAt ops j = some d := by
  unfold step1 at h
  split at h
  · split at h
    · simp only [Option.some.injEq] at h
      subst h
      cases hy
    · cases h
  · rename_i j want' hg'
    split at h
    · rename_i d' hd'
      split at h
      · split at h
        · simp only [Option.some.injEq] at h
          subst h
          cases hy
          exact ⟨j, hg', hd'⟩
        · cases h
      · split at h
        · simp only [Option.some.injEq] at h
          subst h
          cases hy
          exact ⟨j, hg', hd'⟩
        · cases h
    · cases h

/-- One more comes up. -/
theorem SegI.step (hT : TCok C.P C.tc) (h : Seg C ops hs k0 m op st out) (hdw : Dw ops) (hI : SegI C ops hs k0 pd G m op st out S φ a w) {k : Nat} (hk : k < m) (hkS : ¬S k)
    (hgS : ∀ i j w, i < m → S i → (op i).guard = some (j, w) → ∀ q, q < m → j = k0 + q → S q)
    (hrd : ∀ t, t ∈ rs ops (op k) → ∀ j, j < m → (op j).dst = some t → (j < k → S j) ∧ (k < j → ¬S j) ∧ j ≠ k) (hpn : ∀ t, t ∈ rs ops (op k) → ∀ j, pd j → dstAt ops j ≠ some t)
    (Q : Exit → Act → World → Prop) (K : Act → World → Prop) (hK : ∀ a' w' φ', SegI C ops hs k0 pd G m op st out (fun i => S i ∨ i = k) φ' a' w' → K a' w') :
    wpOp C.P ops.toArray Q (k0 + k) K a w := by
  have hop := h.at_ k hk
  have hX : ∀ b, G.X b → b < w.heap.size := fun b hb => Nat.lt_of_lt_of_le (hI.x b hb) hI.frm.size
  -- what the operation looks at
  have ht : TmRel (Imm φ G.X w) w φ (restr (rs ops (op k)) (st k).tm) a := fun t x hx => by
    obtain ⟨hin, hx⟩ := lk_restr hx
    rcases h.tm k (by omega) t x hx with rfl | ⟨j, hj, hd, rfl⟩ | ⟨hno, h0⟩
    · exact Rel.top
    · exact hI.tmS j (by omega) ((hrd t hin j (by omega) hd).1 hj) t hd
    · refine hI.tm0 t (fun i hi hSi hd => ?_) (hpn t hin) x h0
      have := hrd t hin i hi hd
      rcases Nat.lt_trichotomy i k with e | e | e
      · exact hno i e hd
      · exact this.2.2 e
      · exact this.2.1 e hSi
  have hH : HR (Imm φ G.X w) w φ (st k).H := fun id blk hl => by
    rcases h.H_ k (by omega) id blk hl with h0 | ⟨j, hj, h1⟩
    · exact hI.hr0 id blk h0
    · by_cases hj' : S j
      · exact hI.hrS j (by omega) hj' id blk h1
      · rw [hI.no j (by omega) hj' id (by simp [h1])]
        trivial
  have hnew := hI.no k hk hkS
  have hput := h.put k hk
  have hmain := step1_ok (a := a) (s := ⟨restr (rs ops (op k)) (st k).tm, (st k).H⟩) hT hI.ok hX hH (gok_of hI.frm hI.own) ht (h.one k hk) (h.obl k hk) hnew Q K (fun u w' φ' hg htr hb => by
    have hx := hg.xt (X := G.X) hnew
    have hlt : ∀ id b c, φ id = .at b c → w'.heap[b]? = w.heap[b]? := fun id b c hs => hg.block b (hI.ok.lt id b c hs)
    have hdst : ∀ d, (op k).dst = some d → d < a.tmps.size := fun d hd => by
      have hp := hput
      rw [hd] at hp
      rw [hI.size]
      exact (put1_not hp).1
    have hget : ∀ t, (op k).dst ≠ some t → (a.put (op k).dst u).tmps.getD t undef = a.tmps.getD t undef := fun t ht => by
      cases hd : (op k).dst with
      | none => rfl
      | some d => rw [put_getD a d u t (hdst d hd), if_neg (fun e => ht (by rw [hd, e]))]
    have old : ∀ t x, (op k).dst ≠ some t → (∀ d want y, x = .gd d want y → (op k).dst ≠ some d) → TRel (Imm φ G.X w) w φ a.tmps t x → TRel (Imm φ' G.X w') w' φ' (a.put (op k).dst u).tmps t x := fun t x h1 h2 h3 => by
      cases x with
      | plain y =>
        show Rel _ _ _ _ _
        rw [hget t h1]
        exact Rel.xt h3 hx
      | gd d want y =>
        have h4 := hget d (h2 d want y rfl)
        refine ⟨fun e => ?_, fun e => ?_⟩
        · rw [hget t h1]
          exact Rel.xt (h3.1 (h4.symm.trans e)) hx
        · rw [hget t h1]
          exact h3.2 (fun e' => e (h4.trans e'))
    refine hK _ w' φ' ⟨?_, ?_, ?_, ?_, hI.pdk, ?_, ?_, ?_, ?_, hI.x, ?_, ?_, fun id b hb h0 => by rw [hg.old id (h.small hk hb)]; exact hI.fix id b hb h0⟩
    · cases (op k).dst <;> simp [Act.put, hI.size]
    · cases (op k).dst <;> simp [Act.put, hI.defers]
    · intro i hi hSi t hd
      rcases hSi with hSi | rfl
      · have hne : i ≠ k := fun e => hkS (e ▸ hSi)
        refine old t _ (hdw.dst (k0 + i) (k0 + k) (op i) (op k) (h.at_ i hi) hop (by omega) t hd) (fun d want y hy => ?_) (hI.tmS i hi hSi t hd)
        -- its guard's slot
        obtain ⟨j, hj, hdj⟩ := step1_gd (h.one i hi) hy
        intro hkd
        -- the guard's operation is k itself, or another one of the same slot
        unfold dstAt at hdj
        cases ho : ops[j]? with
        | none => simp [ho] at hdj
        | some oj =>
          have hdj' : oj.dst = some d := by simpa [ho] using hdj
          by_cases e : j = k0 + k
          · exact hkS (hgS i j want hi hSi hj k hk e)
          · exact hdw.dst (k0 + k) j (op k) oj hop ho e d hkd hdj'
      · refine htr _ (fun d want x hx' => ?_) t ?_
        · have hp := hput
          rw [hd] at hp
          have h2 := (put1_not hp).2
          rw [hx'] at h2
          have h3 : ¬ d = t := by simpa [notOn] using h2
          exact hget d (by rw [hd]; intro e; cases e; exact h3 rfl)
        · rw [hd, put_getD a t u t (hdst t hd), if_pos rfl]
    · intro t hno hnp x hx0
      have hne : (op k).dst ≠ some t := hno k hk (.inr rfl)
      refine old t x hne (fun d want y hy => ?_) (hI.tm0 t (fun i hi hSi => hno i hi (.inl hSi)) hnp x hx0)
      subst hy
      exact h.gd0 t d want y hx0 k hk
    · exact fun id blk hl => by
        have hn : lk (out k).new id = none := by
          cases hc : lk (out k).new id with
          | none => rfl
          | some b =>
            have h1 := h.fresh hk (id := id) (by simp [hc])
            have h2 := h.grow (i := 0) k (by omega) (by omega) id blk hl
            rw [h1] at h2
            cases h2
        rw [hg.old id hn]
        exact (hI.hr0 id blk hl).mono hx.im (fun b c hs => hlt id b c hs) hx.at_ hx.nil_
    · intro i hi hSi id blk hl
      rcases hSi with hSi | rfl
      · have hn : lk (out k).new id = none := by
          cases hc : lk (out k).new id with
          | none => rfl
          | some b => exact absurd (h.uniq hi hk (id := id) (by simp [hl]) (by simp [hc])) (fun e => hkS (e ▸ hSi))
        rw [hg.old id hn]
        exact (hI.hrS i hi hSi id blk hl).mono hx.im (fun b c hs => hlt id b c hs) hx.at_ hx.nil_
      · exact hb id blk hl
    · intro i hi hSi id hid
      have hne : i ≠ k := fun e => hSi (.inr e)
      have hn : lk (out k).new id = none := by
        cases hc : lk (out k).new id with
        | none => rfl
        | some b => exact absurd (h.uniq hi hk hid (by simp [hc])) hne
      rw [hg.old id hn]
      exact hI.no i hi (fun hS' => hSi (.inl hS')) id hid
    · refine ⟨fun i j b c c' hi hj => ?_, fun i b c hi => ?_, fun i b c hi => ?_, fun i hi => ?_⟩
      · by_cases h1 : lk (out k).new i = none <;> by_cases h2 : lk (out k).new j = none
        · rw [hg.old i h1] at hi
          rw [hg.old j h2] at hj
          exact hI.ok.inj _ _ _ _ _ hi hj
        · rw [hg.old i h1] at hi
          have := hI.ok.lt _ _ _ hi
          have := (hg.fresh j b c' h2 hj).1
          omega
        · rw [hg.old j h2] at hj
          have := hI.ok.lt _ _ _ hj
          have := (hg.fresh i b c h1 hi).1
          omega
        · exact hg.inj _ _ _ _ _ h1 h2 hi hj
      · by_cases h1 : lk (out k).new i = none
        · rw [hg.old i h1] at hi
          exact Nat.lt_of_lt_of_le (hI.ok.lt _ _ _ hi) hg.size
        · exact (hg.fresh i b c h1 hi).2
      · by_cases h1 : lk (out k).new i = none
        · rw [hg.old i h1] at hi
          exact hI.ok.free _ _ _ hi
        · intro hX'
          have := (hg.fresh i b c h1 hi).1
          have := hX b hX'
          omega
      · cases hc : lk (out k).new i with
        | none =>
          rw [hg.old i hc]
          exact hI.ok.dom i hi
        | some b =>
          rw [h.newIn hk hc] at hi
          cases hi
    · exact ⟨hg.os.trans hI.frm.os, hg.tape.trans hI.frm.tape, hg.output.trans hI.frm.output, Nat.le_trans hI.frm.size hg.size, fun b hb h0 => (hg.block b (Nat.lt_of_lt_of_le hb hI.frm.size)).trans (hI.frm.block b hb h0)⟩
    · intro id b c hs
      by_cases h1 : lk (out k).new id = none
      · rw [hg.old id h1] at hs
        exact hI.own id b c hs
      · have := (hg.fresh id b c h1 hs).1
        have := hI.frm.size
        exact .inr (by omega))
  unfold wpOp
  have e : ops.toArray[k0 + k]? = some (op k) := by simpa using hop
  simp only [e]
  split
  · rename_i hw
    rw [if_pos hw] at hmain
    exact .inl hmain
  · rename_i hw
    rw [if_neg hw] at hmain
    exact hmain
/-- One that waited comes up. -/
theorem SegI.late (hT : TCok C.P C.tc) (h : Seg C ops hs k0 m op st out) (hdw : Dw ops) (hI : SegI C ops hs k0 pd G m op st out S φ a w) {k : Nat} (hk : pd k)
    (hpn : ∀ o, ops[k]? = some o → ∀ t, t ∈ rs ops o → ∀ j, pd j → dstAt ops j ≠ some t)
    (Q : Exit → Act → World → Prop) (K : Act → World → Prop) (hK : ∀ a' w' φ', SegI C ops hs k0 (fun j => pd j ∧ j ≠ k) G m op st out S φ' a' w' → K a' w') :
    wpOp C.P ops.toArray Q k K a w := by
  obtain ⟨hlt, o, d, r, hp⟩ := hI.pdk k hk
  obtain ⟨tm1, H1, q1, q2, q3⟩ := hp.one
  have hX : ∀ b, G.X b → b < w.heap.size := fun b hb => Nat.lt_of_lt_of_le (hI.x b hb) hI.frm.size
  have ht : TmRel (Imm φ G.X w) w φ tm1 a := fun t' y hy => by
    obtain ⟨hin, h2, _⟩ := q1 t' y hy
    exact hI.tm0 _ (fun i hi _ => hp.flt.last (k0 + i) (op i) (by omega) (h.at_ i hi) t' hin) (hpn o hp.flt.at_ _ hin) _ h2
  have hr1 : HR (Imm φ G.X w) w φ H1 := fun id blk hl => hI.hr0 id blk (q2 id blk hl).1
  obtain ⟨v, hv⟩ := hp.pl
  have hmain := step1_ok (a := a) (s := ⟨tm1, H1⟩) hT hI.ok hX hr1 (gok_of hI.frm hI.own) ht q3 hp.obl (fun id hid => absurd (by rw [hp.new]; rfl) hid) Q K (fun u w' φ' hg htr hb => by
    rw [hp.new] at hg
    have hx := hg.xt (X := G.X) (fun id hid => absurd rfl hid)
    have hltb : ∀ id b c, φ id = .at b c → w'.heap[b]? = w.heap[b]? := fun id b c hs => hg.block b (hI.ok.lt id b c hs)
    have hdst : d < a.tmps.size := by rw [hI.size]; exact hp.lt
    have e0 : a.put o.dst u = a.put (some d) u := by rw [hp.flt.dst]
    have hget : ∀ t, t ≠ d → (a.put o.dst u).tmps.getD t undef = a.tmps.getD t undef := fun t ht => by
      rw [e0, put_getD a d u t hdst, if_neg ht]
    have old : ∀ t x, t ≠ d → (∀ d' want y, x = .gd d' want y → d' ≠ d) → TRel (Imm φ G.X w) w φ a.tmps t x → TRel (Imm φ' G.X w') w' φ' (a.put o.dst u).tmps t x := fun t x h1 h2 h3 => by
      cases x with
      | plain y =>
        show Rel _ _ _ _ _
        rw [hget t h1]
        exact Rel.xt h3 hx
      | gd d' want y =>
        have h4 := hget d' (h2 d' want y rfl)
        refine ⟨fun e => ?_, fun e => ?_⟩
        · rw [hget t h1]
          exact Rel.xt (h3.1 (h4.symm.trans e)) hx
        · rw [hget t h1]
          exact h3.2 (fun e' => e (h4.trans e'))
    have same : ∀ (j q : Nat) (oq : Oper) (w1 : Bool), dstAt ops j = some d → ops[q]? = some oq → oq.guard = some (j, w1) → False := fun j q oq w1 hj hq hgd => by
      unfold dstAt at hj
      cases ho : ops[j]? with
      | none => simp [ho] at hj
      | some oj =>
        have hj' : oj.dst = some d := by simpa [ho] using hj
        by_cases e : j = k
        · subst e
          exact hp.flt.ng q oq w1 hq hgd
        · exact hdw.dst j k oj o ho hp.flt.at_ (Ne.symm e) d hj' hp.flt.dst
    refine hK _ w' φ' ⟨?_, ?_, ?_, ?_, fun j hj => hI.pdk j hj.1, ?_, ?_, ?_, ?_, hI.x, ?_, ?_, fun id b hb h0 => by rw [hg.old id rfl]; exact hI.fix id b hb h0⟩
    · rw [e0]; simp [Act.put, hI.size]
    · rw [e0]; simp [Act.put, hI.defers]
    · intro i hi hSi t1 hd1
      refine old t1 _ (fun e => ?_) (fun d' want y hy e => ?_) (hI.tmS i hi hSi t1 hd1)
      · subst e
        exact hdw.dst (k0 + i) k (op i) o (h.at_ i hi) hp.flt.at_ (by omega) t1 hd1 hp.flt.dst
      · subst e
        obtain ⟨j, hj, hdj⟩ := step1_gd (h.one i hi) hy
        exact same j (k0 + i) (op i) want hdj (h.at_ i hi) hj
    · intro t1 hno hnp x1 hx1
      by_cases e : t1 = d
      · subst e
        rw [hp.val] at hx1
        cases hx1
        rw [hv]
        have := htr (a.put o.dst u).tmps (fun d' want y hy => by rw [hv] at hy; cases hy) t1 (by rw [e0, put_getD a t1 u t1 hdst, if_pos rfl])
        rw [hv] at this
        exact this
      · refine old t1 x1 e (fun d' want y hy e' => ?_) (hI.tm0 t1 hno (fun j hj => ?_) x1 hx1)
        · subst e' hy
          obtain ⟨j, q, oq, w1, h1, h2, h3⟩ := h.gd1 t1 _ want y hx1
          exact same j q oq w1 h1 h2 h3
        · by_cases e2 : j = k
          · subst e2
            unfold dstAt
            rw [hp.flt.at_]
            intro e3
            have : some d = some t1 := hp.flt.dst.symm.trans e3
            cases this
            exact e rfl
          · exact hnp j ⟨hj, e2⟩
    · exact fun id blk hl => by
        rw [hg.old id rfl]
        exact (hI.hr0 id blk hl).mono hx.im (fun b c hs => hltb id b c hs) hx.at_ hx.nil_
    · intro i hi hSi id blk hl
      rw [hg.old id rfl]
      exact (hI.hrS i hi hSi id blk hl).mono hx.im (fun b c hs => hltb id b c hs) hx.at_ hx.nil_
    · intro i hi hSi id hid
      rw [hg.old id rfl]
      exact hI.no i hi hSi id hid
    · refine ⟨fun i j b c c' hi hj => ?_, fun i b c hi => ?_, fun i b c hi => ?_, fun i hi => ?_⟩
      · rw [hg.old i rfl] at hi
        rw [hg.old j rfl] at hj
        exact hI.ok.inj _ _ _ _ _ hi hj
      · rw [hg.old i rfl] at hi
        exact Nat.lt_of_lt_of_le (hI.ok.lt _ _ _ hi) hg.size
      · rw [hg.old i rfl] at hi
        exact hI.ok.free _ _ _ hi
      · rw [hg.old i rfl]
        exact hI.ok.dom i hi
    · exact ⟨hg.os.trans hI.frm.os, hg.tape.trans hI.frm.tape, hg.output.trans hI.frm.output, Nat.le_trans hI.frm.size hg.size, fun b hb h0 => (hg.block b (Nat.lt_of_lt_of_le hb hI.frm.size)).trans (hI.frm.block b hb h0)⟩
    · intro id b c hs
      rw [hg.old id rfl] at hs
      exact hI.own id b c hs)
  unfold wpOp
  have e : ops.toArray[k]? = some o := by simpa using hp.flt.at_
  simp only [e]
  split
  · rename_i hw
    rw [if_pos hw] at hmain
    exact .inl hmain
  · rename_i hw
    rw [if_neg hw] at hmain
    exact hmain
end
end Go.Ab
