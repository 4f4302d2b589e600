/- Chapter 16: MonitorSleeps, the plain part. -/
import Derived.Test.YtlfjnkobnkfioaaMonJ
import Derived.Test.YtlfjnkobnkfioaaMonF
namespace Go.Proofs.Ytlfjnkobnkfioaa
open Go.Ab
set_option linter.unusedSimpArgs false
set_option linter.unusedVariables false
set_option maxHeartbeats 8000000
set_option maxRecDepth 100000
def ruV (u : Ru) : List V := [u8 u.kd, i64 u.pa, i32 u.lo, i32 u.hi, u32 u.ma, u32 u.wa, u8 u.rp, u8 u.ev, u8 u.lv, i64 u.un, vb u.en]
theorem gI_drop {L l : List V} {off : Nat} (h : L.drop off = l) (k : Nat) : gI L (off + k) = gI l k := by
  subst h
  unfold gI
  rw [List.getD_eq_getElem?_getD, List.getD_eq_getElem?_getD, List.getElem?_drop]
theorem mcells_at {rows : List (List V)} {n : Int} (h : ∀ r ∈ rows, r.length = 11) (j : Nat) (u : Ru) (hx : rows[j]? = some (ruV u)) : AtG (mcells rows n) (j * 16) u ⟨0, 0, 0, 0, false⟩ := by
  obtain ⟨r, hr⟩ : ∃ r, (mcells rows n).drop (j * 16) = ruV u ++ (z5 ++ r) := by
    unfold mcells
    generalize (List.replicate (16 - rows.length) z16).flatten ++ [i64 n] = R
    induction rows generalizing j with
    | nil => simp at hx
    | cons q t ih =>
      have hq := h q (List.mem_cons_self ..)
      cases j with
      | zero =>
        cases hx
        exact ⟨(t.map (· ++ z5)).flatten ++ R, by simp⟩
      | succ j =>
        obtain ⟨r, hr⟩ := ih (fun z hz => h z (List.mem_cons_of_mem _ hz)) j (by simpa using hx)
        refine ⟨r, ?_⟩
        rw [← hr, List.map_cons, List.flatten_cons, show (j + 1) * 16 = (q ++ z5).length + j * 16 by rw [List.length_append, hq]; show _ = 11 + 5 + j * 16; omega, ← List.drop_drop, List.append_assoc, List.drop_left]
  have g := gI_drop hr
  exact ⟨(g 0).trans rfl, (g 1).trans rfl, (g 2).trans rfl, (g 3).trans rfl, (g 4).trans rfl, (g 5).trans rfl, (g 6).trans rfl, (g 7).trans rfl, (g 8).trans rfl, (g 9).trans rfl, (g 10).trans rfl, (g 11).trans rfl, (g 12).trans rfl, (g 13).trans rfl, (g 14).trans rfl, (g 15).trans rfl⟩
theorem rus_of {P : Ru → Prop} (rows : List (List V)) (h : ∀ r ∈ rows, ∃ u : Ru, r = ruV u ∧ P u) : ∃ ru : Nat → Ru, ∀ i, i < rows.length → rows[i]? = some (ruV (ru i)) ∧ P (ru i) := by
  classical
  have nx : ∀ i, ∃ u : Ru, i < rows.length → rows[i]? = some (ruV u) ∧ P u := fun i => by
    by_cases hi : i < rows.length
    · obtain ⟨u, h1, h2⟩ := h rows[i] (List.getElem_mem hi)
      exact ⟨u, fun _ => ⟨by rw [List.getElem?_eq_getElem hi, h1], h2⟩⟩
    · exact ⟨⟨0, 0, 0, 0, 0, 0, 0, 0, 0, 0, false⟩, fun q => absurd q hi⟩
  exact ⟨fun i => Classical.choose (nx i), fun i hi => Classical.choose_spec (nx i) hi⟩
theorem flat_drop {k : Nat} : ∀ (rows : List (List V)), (∀ r ∈ rows, r.length = k) → ∀ (j : Nat) (x : List V), rows[j]? = some x → ∃ r, rows.flatten.drop (j * k) = x ++ r
  | [], _, j, x, h => by simp at h
  | q :: t, hl, j, x, h => by
    cases j with
    | zero =>
      cases h
      exact ⟨t.flatten, by simp⟩
    | succ j =>
      have hq := hl q (List.mem_cons_self ..)
      obtain ⟨r, hr⟩ := flat_drop t (fun z hz => hl z (List.mem_cons_of_mem _ hz)) j x (by simpa using h)
      refine ⟨r, ?_⟩
      rw [List.flatten_cons, show (j + 1) * k = q.length + j * k by rw [hq, Nat.succ_mul, Nat.add_comm], ← List.drop_drop, List.drop_left]
      exact hr
theorem flat_lenk {k : Nat} {rows : List (List V)} (h : ∀ r ∈ rows, r.length = k) : rows.flatten.length = rows.length * k := by
  induction rows with
  | nil => simp
  | cons r t ih =>
    rw [List.flatten_cons, List.length_append, ih (fun q hq => h q (List.mem_cons_of_mem _ hq)), h r (List.mem_cons_self ..), List.length_cons, Nat.succ_mul, Nat.add_comm]
/-- A rule that may be, of numbers of their types. -/
structure RuT (u : Ru) : Prop where
  kd : 0 ≤ u.kd ∧ u.kd < 256
  lo : -2147483648 ≤ u.lo ∧ u.lo ≤ 2147483647
  hi : -2147483648 ≤ u.hi ∧ u.hi ≤ 2147483647
  rp : 0 ≤ u.rp ∧ u.rp < 256
def mru (u : Ru) : Bool := mrt u.kd u.pa u.lo u.hi u.rp u.lv u.un
theorem mru_ok {u : Ru} (h : RuT u) (hm : mru u = true) : RuOk u ∧ 0 ≤ u.pa ∧ u.pa < 16 := by
  simp only [mru, mrt, cright, Bool.and_eq_true, decide_eq_true_eq] at hm
  exact ⟨⟨h.kd, h.lo, h.hi, h.rp⟩, by omega, by omega⟩
/-- The rows that are kept. -/
theorem kp_mem (xs : List V) (rt : Nat → Bool) (ru0 : Nat → Ru) (n : Nat) (hx : ∀ i, i < n → (∃ r, xs.drop (i * 11) = ruV (ru0 i) ++ r) ∧ rt i = mru (ru0 i) ∧ RuT (ru0 i)) : ∀ i, i ≤ n → ∀ r ∈ kp xs rt i, ∃ u : Ru, r = ruV u ∧ RuT u ∧ mru u = true
  | 0, _, r, hr => by cases hr
  | i + 1, hi, r, hr => by
    unfold kp at hr
    split at hr
    · rename_i hc
      rcases List.mem_append.1 hr with h | h
      · exact kp_mem xs rt ru0 n hx i (by omega) r h
      · obtain ⟨⟨q, hq⟩, h2, h3⟩ := hx i (by omega)
        rw [List.mem_singleton.1 h, hq]
        exact ⟨ru0 i, rfl, h3, by rw [← h2]; exact hc.2⟩
    · exact kp_mem xs rt ru0 n hx i (by omega) r hr
/-- The status of a rule, as a monitor's cells have it. -/
def stt (a : Sp) (j : Nat) : V := gI a.L (j * 16 + 11)
/-- A change at rule i. -/
structure ChAt (ru : Nat → Ru) (i : Nat) (a b : Sp) (s s' v : Int) : Prop where
  en : (ru i).en = true
  q : b.q = a.q + 1
  C : b.C = a.C ++ [i64 i, u8 s, u8 s', i32 v]
  ne : s' ≠ s
  nz : s' ≠ 0
  was : stt a i = u8 s
  is : stt b i = u8 s'
  oth : ∀ j, j ≠ i → stt b j = stt a j
theorem spt_cases {ru : Nat → Ru} {pv : Nat → Int} {i : Nat} {a b : Sp} (h : SpT ru pv i a b) : b.q = a.q ∧ b.C = a.C ∧ (∀ j, stt b j = stt a j) ∨ ∃ s s' v, ChAt ru i a b s s' v := by
  rcases h with ⟨_, rfl⟩ | ⟨hen, e, e', ch, hA, hA', ho, _, h1, h2⟩
  · exact .inl ⟨rfl, rfl, fun _ => rfl⟩
  · have hw : stt a i = u8 e.st := by have := hA.f11; rw [Nat.zero_add] at this; exact this
    have hi : stt b i = u8 e'.st := by have := hA'.f11; rw [Nat.zero_add] at this; exact this
    have hoth : ∀ j, j ≠ i → stt b j = stt a j := fun j hj => ho _ (by omega)
    cases ch with
    | true =>
      obtain ⟨⟨k1, k2⟩, k3, k4⟩ := h1 rfl
      exact .inr ⟨e.st, e'.st, _, hen, k4, k3, k1, k2, hw, hi, hoth⟩
    | false =>
      obtain ⟨k1, k2, k3⟩ := h2 rfl
      refine .inl ⟨k3, k2, fun j => ?_⟩
      by_cases hj : j = i
      · subst hj; rw [hw, hi, k1]
      · exact hoth j hj
theorem seq_pre {ru : Nat → Ru} {pv : Nat → Int} {n : Nat} {f : Nat → Sp} (hf : ∀ i, i < n → SpT ru pv i (f i) (f (i + 1))) : ∀ (d i : Nat), i + d = n → (f i).q ≤ (f n).q ∧ ∃ r, (f n).C = (f i).C ++ r
  | 0, i, h => by
    have : i = n := by omega
    subst this
    exact ⟨Nat.le_refl _, [], by simp⟩
  | d + 1, i, h => by
    obtain ⟨h1, r, h2⟩ := seq_pre hf d (i + 1) (by omega)
    rcases spt_cases (hf i (by omega)) with ⟨k1, k2, _⟩ | ⟨s, s', v, c⟩
    · exact ⟨by omega, r, by rw [h2, k2]⟩
    · exact ⟨by have := c.q; omega, [i64 i, u8 s, u8 s', i32 v] ++ r, by rw [h2, c.C, List.append_assoc]⟩
theorem seq_end {ru : Nat → Ru} {pv : Nat → Int} {n : Nat} {f : Nat → Sp} (hf : ∀ i, i < n → SpT ru pv i (f i) (f (i + 1))) : ∀ (d i : Nat), i + d = n → (f i).q = (f n).q → ∀ j, stt (f n) j = stt (f i) j
  | 0, i, h => by
    have : i = n := by omega
    subst this
    intro _ _; rfl
  | d + 1, i, h => by
    intro hq j
    have hp := (seq_pre hf d (i + 1) (by omega)).1
    rcases spt_cases (hf i (by omega)) with ⟨k1, k2, k3⟩ | ⟨s, s', v, c⟩
    · rw [seq_end hf d (i + 1) (by omega) (by omega) j, k3]
    · have := c.q; omega
theorem seq_next {ru : Nat → Ru} {pv : Nat → Int} {n : Nat} {f : Nat → Sp} (hf : ∀ i, i < n → SpT ru pv i (f i) (f (i + 1))) (hl : ∀ i, i ≤ n → (f i).C.length = (f i).q * 4) : ∀ (d i : Nat), i + d = n → (f i).q < (f n).q → ∃ (k : Nat) (s s' v : Int) (r : List V), i ≤ k ∧ k < n ∧ (f k).q = (f i).q ∧ (∀ j, stt (f k) j = stt (f i) j) ∧ ChAt ru k (f k) (f (k + 1)) s s' v ∧ (f n).C.drop ((f i).q * 4) = i64 k :: u8 s :: u8 s' :: i32 v :: r
  | 0, i, h => by
    have : i = n := by omega
    subst this
    intro h; omega
  | d + 1, i, h => by
    intro hq
    rcases spt_cases (hf i (by omega)) with ⟨k1, k2, k3⟩ | ⟨s, s', v, c⟩
    · obtain ⟨k, s, s', v, r, h1, h2, h3, h4, h5, h6⟩ := seq_next hf hl d (i + 1) (by omega) (by omega)
      exact ⟨k, s, s', v, r, by omega, h2, by omega, fun j => (h4 j).trans (k3 j), h5, by rw [← k1]; exact h6⟩
    · obtain ⟨_, r, hr⟩ := seq_pre hf d (i + 1) (by omega)
      refine ⟨i, s, s', v, r, by omega, by omega, rfl, fun _ => rfl, c, ?_⟩
      rw [hr, c.C, ← hl i (by omega), List.append_assoc, List.drop_left]
      rfl
theorem vf_drop (en : Nat → Bool) (st : Nat → Int) : ∀ (n t : Nat), t < (vf en st n).length → ∃ (k : Nat) (r : List V), k < n ∧ en k = true ∧ 2 ≤ st k ∧ (vf en st n).drop t = i64 k :: r
  | 0, t, h => by simp [vf] at h
  | n + 1, t, h => by
    have e : vf en st (n + 1) = if en n = true ∧ 2 ≤ st n ∧ st n ≤ 4 then vf en st n ++ [i64 n] else vf en st n := rfl
    by_cases hc : en n = true ∧ 2 ≤ st n ∧ st n ≤ 4
    · rw [if_pos hc] at e
      rw [e] at h ⊢
      by_cases ht : t < (vf en st n).length
      · obtain ⟨k, r, h1, h2, h3, h4⟩ := vf_drop en st n t ht
        exact ⟨k, r ++ [i64 n], by omega, h2, h3, by rw [List.drop_append_of_le_length (by omega), h4]; rfl⟩
      · have : t = (vf en st n).length := by rw [List.length_append] at h; simp at h; omega
        subst this
        exact ⟨n, [], by omega, hc.1, hc.2.1, by rw [List.drop_left]⟩
    · rw [if_neg hc] at e
      rw [e] at h ⊢
      obtain ⟨k, r, h1, h2, h3, h4⟩ := vf_drop en st n t h
      exact ⟨k, r, by omega, h2, h3, h4⟩
/-- What the document's rules hold. -/
def xf (xs : List V) (rt : Nat → Bool) (ru0 : Nat → Ru) : Nat → List V
  | 0 => []
  | i + 1 => if (kp xs rt i).length < 16 ∧ rt i = true then xf xs rt ru0 i ++ [u8 (ru0 i).kd, i64 (ru0 i).pa, i32 (ru0 i).lo, i32 (ru0 i).hi, u32 (ru0 i).ma, u32 (ru0 i).wa, i64 (ru0 i).rp, vb (ru0 i).en, i64 0, .val (.slice none 0 0), i32 0, vb false] else xf xs rt ru0 i
theorem con_rules2 (xs : List V) (n : Nat) (hn : n ≤ 9223372036854775807) (rt : Nat → Bool) (ru0 : Nat → Ru) (hx : ∀ i, i < n → (∃ r, xs.drop (i * 11) = ruV (ru0 i) ++ r) ∧ rt i = mru (ru0 i) ∧ RuT (ru0 i)) (A : List V) (k : Nat) (hA : (kp xs rt n).flatten = A) (hk : (kp xs rt n).length = k) (X : List V) (hX : xf xs rt ru0 n = X) :
    Con Try.prog 21 [] [.vs xs n] [(4, ⟨A, true, 0, some (27, 11)⟩), (5, ⟨X, true, 0, some (106, 12)⟩)] (.tup [.sl 4 0 k, .sl 5 0 k]) := by
  subst hX
  refine con_rules1 xs n hn rt A k hA hk (fun i hi => ?_) (xf xs rt ru0) rfl (fun i hi kd pa lo hi' ma wa rp ev lv un en r hd => ?_)
  · obtain ⟨⟨r, h1⟩, h2, h3⟩ := hx i hi
    exact ⟨_, _, _, _, _, _, _, _, _, _, _, r, h1, h2.symm, h3.rp.1, h3.rp.2⟩
  · obtain ⟨⟨r, h1⟩, h2, h3⟩ := hx i hi
    rw [h1] at hd
    unfold ruV at hd
    cases hu : ru0 i with
    | mk kd' pa' lo' hi'' ma' wa' rp' ev' lv' un' en' =>
      rw [hu] at hd
      cases hd
      show xf xs rt ru0 (i + 1) = _
      rw [xf, hu]
end Go.Proofs.Ytlfjnkobnkfioaa
