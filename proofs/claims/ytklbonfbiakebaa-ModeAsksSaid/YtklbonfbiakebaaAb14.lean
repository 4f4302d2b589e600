/- A segment, in whatever order its operations come up. -/
import Derived.Test.YtklbonfbiakebaaAb13
namespace Go.Ab
open Go.RowKit

/-- Some of a segment's operations have come up. -/
structure SegI (C : Cx) (G : Gl) (m : Nat) (op : Nat → Oper) (st : Nat → St) (out : Nat → Out1) (S : Nat → Prop) (φ : Phi) (a : Act) (w : World) : Prop where
  size : a.tmps.size = C.n
  defers : a.defers = []
  tmS : ∀ i, i < m → S i → ∀ t, (op i).dst = some t → TRel (Imm φ G.X w) w φ a.tmps t (out i).t
  tm0 : ∀ t, (∀ i, i < m → S i → (op i).dst ≠ some t) → ∀ x, lk (st 0).tm t = some x → TRel (Imm φ G.X w) w φ a.tmps t x
  hr0 : HR (Imm φ G.X w) w φ (st 0).H
  hrS : ∀ i, i < m → S i → ∀ id blk, lk (out i).new id = some blk → BlkRel (Imm φ G.X w) w φ (φ id) blk
  no : ∀ i, i < m → ¬S i → ∀ id, lk (out i).new id ≠ none → φ id = .none
  ok : Phi.ok φ G.X w (st m).H
  x : ∀ b, G.X b → b < G.w0.heap.size
  frm : Frm G.φ0 G.w0 w
  own : ∀ id b c, φ id = .at b c → (∃ id0 c0, G.φ0 id0 = .at b c0) ∨ G.w0.heap.size ≤ b

section
variable {C : Cx} {G : Gl} {ops : List Oper} {hs : List (Nat × Hint)} {k0 m : Nat} {op : Nat → Oper} {st : Nat → St} {out : Nat → Out1} {S : Nat → Prop} {φ φ' : Phi} {a : Act} {w w' : World} {s s' : St}

theorem SegI.start (h : Seg C ops hs k0 m op st out) (hI : Inv C G (st 0) φ a w) : SegI C G m op st out (fun _ => False) φ a w := by
  refine ⟨hI.size, hI.defers, fun i _ hS => hS.elim, fun t _ x hx => hI.tm t x hx, hI.hr, fun i _ hS => hS.elim, fun i hi _ id hid => ?_, ⟨hI.ok.inj, hI.ok.lt, hI.ok.free, fun id hid => ?_⟩, hI.x, hI.frm, hI.own⟩
  · refine hI.ok.dom id ?_
    cases h0 : lk (st 0).H id with
    | none => rfl
    | some b =>
      have := h.grow (i := 0) i (by omega) (by omega) id b h0
      rw [h.fresh hi hid] at this
      cases this
  · refine hI.ok.dom id ?_
    cases h0 : lk (st 0).H id with
    | none => rfl
    | some b =>
      have := h.grow (i := 0) m (by omega) (Nat.le_refl _) id b h0
      rw [hid] at this
      cases this

theorem SegI.end_ (h : Seg C ops hs k0 m op st out) (hI : SegI C G m op st out S φ a w) (hS : ∀ i, i < m → S i) : Inv C G (st m) φ a w := by
  refine ⟨hI.size, hI.defers, fun t x hx => ?_, fun id blk hl => ?_, hI.ok, hI.x, hI.frm, hI.own⟩
  · rcases h.tm m (Nat.le_refl _) t x hx with rfl | ⟨j, hj, hd, rfl⟩ | ⟨hno, h0⟩
    · exact Rel.top
    · exact hI.tmS j hj (hS j hj) t hd
    · exact hI.tm0 t (fun i hi _ => hno i hi) x h0
  · rcases h.H_ m (Nat.le_refl _) id blk hl with h0 | ⟨j, hj, h1⟩
    · exact hI.hr0 id blk h0
    · exact hI.hrS j hj (hS j hj) id blk h1

theorem step1_gd {i : Nat} {o : Oper} {r : Out1} (h : step1 C ops hs i s o = some r) {d : Nat} {want : Bool} {y : V} (hy : r.t = .gd d want y) : ∃ j, o.guard = some (j, want) ∧ dstAt ops j = some d := by
  unfold step1 at h
  split at h
  · split at h
    · simp only [Option.some.injEq] at h
      subst h
      cases hy
    · cases h
  · rename_i j want' hg'
    split at h
    · rename_i d' hd'
      split at h
      · simp only [Option.some.injEq] at h
        subst h
        cases hy
        exact ⟨j, hg', hd'⟩
      · cases h
    · cases h

/-- One more comes up. -/
theorem SegI.step (hT : TCok C.P C.tc) (h : Seg C ops hs k0 m op st out) (hdw : Dw ops) (hI : SegI C G m op st out S φ a w) {k : Nat} (hk : k < m) (hkS : ¬S k)
    (hgS : ∀ i j w, i < m → S i → (op i).guard = some (j, w) → ∀ q, q < m → j = k0 + q → S q)
    (hrd : ∀ t, t ∈ rs ops (op k) → ∀ j, j < m → (op j).dst = some t → (j < k → S j) ∧ (k < j → ¬S j) ∧ j ≠ k)
    (Q : Exit → Act → World → Prop) (K : Act → World → Prop) (hK : ∀ a' w' φ', SegI C G m op st out (fun i => S i ∨ i = k) φ' a' w' → K a' w') :
    wpOp C.P ops.toArray Q (k0 + k) K a w := by
  have hop := h.at_ k hk
  have hX : ∀ b, G.X b → b < w.heap.size := fun b hb => Nat.lt_of_lt_of_le (hI.x b hb) hI.frm.size
  -- what the operation looks at
  have ht : TmRel (Imm φ G.X w) w φ (restr (rs ops (op k)) (st k).tm) a := fun t x hx => by
    obtain ⟨hin, hx⟩ := lk_restr hx
    rcases h.tm k (by omega) t x hx with rfl | ⟨j, hj, hd, rfl⟩ | ⟨hno, h0⟩
    · exact Rel.top
    · exact hI.tmS j (by omega) ((hrd t hin j (by omega) hd).1 hj) t hd
    · refine hI.tm0 t (fun i hi hSi hd => ?_) x h0
      have := hrd t hin i hi hd
      rcases Nat.lt_trichotomy i k with e | e | e
      · exact hno i e hd
      · exact this.2.2 e
      · exact this.2.1 e hSi
  have hH : HR (Imm φ G.X w) w φ (st k).H := fun id blk hl => by
    rcases h.H_ k (by omega) id blk hl with h0 | ⟨j, hj, h1⟩
    · exact hI.hr0 id blk h0
    · by_cases hj' : S j
      · exact hI.hrS j (by omega) hj' id blk h1
      · rw [hI.no j (by omega) hj' id (by simp [h1])]
        trivial
  have hnew := hI.no k hk hkS
  have hput := h.put k hk
  have hmain := step1_ok (a := a) (s := ⟨restr (rs ops (op k)) (st k).tm, (st k).H⟩) hT hI.ok hX hH ht (h.one k hk) (h.obl k hk) hnew Q K (fun u w' φ' hg htr hb => by
    have hx := hg.xt (X := G.X) hnew
    have hlt : ∀ id b c, φ id = .at b c → w'.heap[b]? = w.heap[b]? := fun id b c hs => hg.block b (hI.ok.lt id b c hs)
    have hdst : ∀ d, (op k).dst = some d → d < a.tmps.size := fun d hd => by
      have hp := hput
      rw [hd] at hp
      rw [hI.size]
      exact (put1_not hp).1
    have hget : ∀ t, (op k).dst ≠ some t → (a.put (op k).dst u).tmps.getD t undef = a.tmps.getD t undef := fun t ht => by
      cases hd : (op k).dst with
      | none => rfl
      | some d => rw [put_getD a d u t (hdst d hd), if_neg (fun e => ht (by rw [hd, e]))]
    have old : ∀ t x, (op k).dst ≠ some t → (∀ d want y, x = .gd d want y → (op k).dst ≠ some d) → TRel (Imm φ G.X w) w φ a.tmps t x → TRel (Imm φ' G.X w') w' φ' (a.put (op k).dst u).tmps t x := fun t x h1 h2 h3 => by
      cases x with
      | plain y =>
        show Rel _ _ _ _ _
        rw [hget t h1]
        exact Rel.xt h3 hx
      | gd d want y =>
        have h4 := hget d (h2 d want y rfl)
        refine ⟨fun e => ?_, fun e => ?_⟩
        · rw [hget t h1]
          exact Rel.xt (h3.1 (h4.symm.trans e)) hx
        · rw [hget t h1]
          exact h3.2 (fun e' => e (h4.trans e'))
    refine hK _ w' φ' ⟨?_, ?_, ?_, ?_, ?_, ?_, ?_, ?_, hI.x, ?_, ?_⟩
    · cases (op k).dst <;> simp [Act.put, hI.size]
    · cases (op k).dst <;> simp [Act.put, hI.defers]
    · intro i hi hSi t hd
      rcases hSi with hSi | rfl
      · have hne : i ≠ k := fun e => hkS (e ▸ hSi)
        refine old t _ (hdw.dst (k0 + i) (k0 + k) (op i) (op k) (h.at_ i hi) hop (by omega) t hd) (fun d want y hy => ?_) (hI.tmS i hi hSi t hd)
        -- its guard's slot
        obtain ⟨j, hj, hdj⟩ := step1_gd (h.one i hi) hy
        intro hkd
        -- the guard's operation is k itself, or another one of the same slot
        unfold dstAt at hdj
        cases ho : ops[j]? with
        | none => simp [ho] at hdj
        | some oj =>
          have hdj' : oj.dst = some d := by simpa [ho] using hdj
          by_cases e : j = k0 + k
          · exact hkS (hgS i j want hi hSi hj k hk e)
          · exact hdw.dst (k0 + k) j (op k) oj hop ho e d hkd hdj'
      · refine htr _ (fun d want x hx' => ?_) t ?_
        · have hp := hput
          rw [hd] at hp
          have h2 := (put1_not hp).2
          rw [hx'] at h2
          have h3 : ¬ d = t := by simpa [notOn] using h2
          exact hget d (by rw [hd]; intro e; cases e; exact h3 rfl)
        · rw [hd, put_getD a t u t (hdst t hd), if_pos rfl]
    · intro t hno x hx0
      have hne : (op k).dst ≠ some t := hno k hk (.inr rfl)
      refine old t x hne (fun d want y hy => ?_) (hI.tm0 t (fun i hi hSi => hno i hi (.inl hSi)) x hx0)
      subst hy
      exact h.gd0 t d want y hx0 k hk
    · exact fun id blk hl => by
        have hn : lk (out k).new id = none := by
          cases hc : lk (out k).new id with
          | none => rfl
          | some b =>
            have h1 := h.fresh hk (id := id) (by simp [hc])
            have h2 := h.grow (i := 0) k (by omega) (by omega) id blk hl
            rw [h1] at h2
            cases h2
        rw [hg.old id hn]
        exact (hI.hr0 id blk hl).mono hx.im (fun b c hs => hlt id b c hs) hx.at_ hx.nil_
    · intro i hi hSi id blk hl
      rcases hSi with hSi | rfl
      · have hn : lk (out k).new id = none := by
          cases hc : lk (out k).new id with
          | none => rfl
          | some b => exact absurd (h.uniq hi hk (id := id) (by simp [hl]) (by simp [hc])) (fun e => hkS (e ▸ hSi))
        rw [hg.old id hn]
        exact (hI.hrS i hi hSi id blk hl).mono hx.im (fun b c hs => hlt id b c hs) hx.at_ hx.nil_
      · exact hb id blk hl
    · intro i hi hSi id hid
      have hne : i ≠ k := fun e => hSi (.inr e)
      have hn : lk (out k).new id = none := by
        cases hc : lk (out k).new id with
        | none => rfl
        | some b => exact absurd (h.uniq hi hk hid (by simp [hc])) hne
      rw [hg.old id hn]
      exact hI.no i hi (fun hS' => hSi (.inl hS')) id hid
    · refine ⟨fun i j b c c' hi hj => ?_, fun i b c hi => ?_, fun i b c hi => ?_, fun i hi => ?_⟩
      · by_cases h1 : lk (out k).new i = none <;> by_cases h2 : lk (out k).new j = none
        · rw [hg.old i h1] at hi
          rw [hg.old j h2] at hj
          exact hI.ok.inj _ _ _ _ _ hi hj
        · rw [hg.old i h1] at hi
          have := hI.ok.lt _ _ _ hi
          have := (hg.fresh j b c' h2 hj).1
          omega
        · rw [hg.old j h2] at hj
          have := hI.ok.lt _ _ _ hj
          have := (hg.fresh i b c h1 hi).1
          omega
        · exact hg.inj _ _ _ _ _ h1 h2 hi hj
      · by_cases h1 : lk (out k).new i = none
        · rw [hg.old i h1] at hi
          exact Nat.lt_of_lt_of_le (hI.ok.lt _ _ _ hi) hg.size
        · exact (hg.fresh i b c h1 hi).2
      · by_cases h1 : lk (out k).new i = none
        · rw [hg.old i h1] at hi
          exact hI.ok.free _ _ _ hi
        · intro hX'
          have := (hg.fresh i b c h1 hi).1
          have := hX b hX'
          omega
      · cases hc : lk (out k).new i with
        | none =>
          rw [hg.old i hc]
          exact hI.ok.dom i hi
        | some b =>
          rw [h.newIn hk hc] at hi
          cases hi
    · exact ⟨hg.os.trans hI.frm.os, hg.tape.trans hI.frm.tape, hg.output.trans hI.frm.output, Nat.le_trans hI.frm.size hg.size, fun b hb h0 => (hg.block b (Nat.lt_of_lt_of_le hb hI.frm.size)).trans (hI.frm.block b hb h0)⟩
    · intro id b c hs
      by_cases h1 : lk (out k).new id = none
      · rw [hg.old id h1] at hs
        exact hI.own id b c hs
      · have := (hg.fresh id b c h1 hs).1
        have := hI.frm.size
        exact .inr (by omega))
  unfold wpOp
  have e : ops.toArray[k0 + k]? = some (op k) := by simpa using hop
  simp only [e]
  split
  · rename_i hw
    rw [if_pos hw] at hmain
    exact .inl hmain
  · rename_i hw
    rw [if_neg hw] at hmain
    exact hmain
end
end Go.Ab
