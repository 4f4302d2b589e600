/- slices.Insert at items of three cells: its contract. -/
import Derived.Test.YtlfjnkobnkfioaaPlnA
namespace Go.Proofs.Ytlfjnkobnkfioaa
open Go Go.Ab Go.RowKit
set_option linter.unusedSimpArgs false
set_option linter.unusedVariables false
theorem bldPost {B e sz k : Nat} {X : Nat → Prop} {φ : Phi} {w w' : World} {Hin : List (Nat × Blk)} {cs' : List V} {g G : Nat} {R : Array Value} (hφ : Phi.ok φ X w Hin) (hX : ∀ b, X b → b < w.heap.size) (hns : ¬stayS B (φ B)) (hsz : 0 < sz)
    (h1 : w'.os = w.os) (h2 : w'.tape = w.tape) (h3 : w'.output = w.output) (h4 : w.heap.size ≤ w'.heap.size) (h5 : ∀ x, x < w.heap.size → (∀ id c, φ id ≠ .at x c) → w'.heap[x]? = w.heap[x]?)
    (hg : (∃ c, φ B = .at g c) ∨ w.heap.size ≤ g) (hR : w'.heap[g]? = some (.cells R e)) (hRs : R.size = G * sz) (hk : k ≤ G) (hG : G ≤ 9223372036854775807) (hc : cs'.length = k * sz) (hr : RelL (Imm φ X w) w Phi.emp cs' (R.toList.take (k * sz))) :
    ∃ u φ', Ending.returned (.slice (some ⟨g, 0, none⟩) k G) = .returned u ∧ Frm φ w w' ∧ Phi.ok φ' X w' [(B, ⟨cs', true, 0, some (e, sz)⟩)] ∧ (∀ id b c, φ' id = .at b c → (∃ id0 c0, φ id0 = .at b c0) ∨ w.heap.size ≤ b) ∧
      HR (Imm φ' X w') w' φ' [(B, ⟨cs', true, 0, some (e, sz)⟩)] ∧ Rel (Imm φ' X w') w' φ' (.sl B 0 k) u ∧ (∀ id, BIG ≤ id → stayS id (φ id) → φ' id = φ id ∨ lk [(B, (⟨cs', true, 0, some (e, sz)⟩ : Blk))] id = none) := by
  have hlt : g < w'.heap.size := (Array.getElem?_eq_some_iff.1 hR).1
  have hn : ∀ i, i ≠ B → (Phi.upd Phi.emp B (.at g (some G))) i = .none := fun i h => by simp [Phi.upd, h, Phi.emp]
  have he : (Phi.upd Phi.emp B (.at g (some G))) B = .at g (some G) := by simp [Phi.upd]
  have hone : ∀ i b' c', (Phi.upd Phi.emp B (.at g (some G))) i = .at b' c' → i = B ∧ b' = g ∧ c' = some G := fun i b' c' h => by
    by_cases hi : i = B
    · subst hi; rw [he] at h; cases h; exact ⟨rfl, rfl, rfl⟩
    · rw [hn i hi] at h; cases h
  have him : ∀ x, Imm φ X w x → Imm (Phi.upd Phi.emp B (.at g (some G))) X w' x ∧ w'.heap[x]? = w.heap[x]? := fun x hx => by
    refine ⟨⟨Nat.lt_of_lt_of_le hx.1 h4, fun id c' h => ?_, hx.2.2⟩, h5 x hx.1 hx.2.1⟩
    obtain ⟨_, rfl, _⟩ := hone _ _ _ h
    rcases hg with ⟨c, h⟩ | h
    · exact hx.2.1 B c h
    · have := hx.1
      omega
  refine ⟨_, Phi.upd Phi.emp B (.at g (some G)), rfl, ⟨h1, h2, h3, h4, h5⟩, ⟨?_, ?_, ?_, ?_⟩, ?_, ?_, ?_, ?_⟩
  · intro i j b1 c1 c2 e1 e2
    exact (hone _ _ _ e1).1.trans (hone _ _ _ e2).1.symm
  · intro i b1 c1 e1
    rw [(hone _ _ _ e1).2.1]
    exact hlt
  · intro i b1 c1 e1 hXb
    obtain ⟨_, rfl, _⟩ := hone _ _ _ e1
    rcases hg with ⟨c, h⟩ | h
    · exact hφ.free B _ c h hXb
    · have := hX _ hXb
      omega
  · intro i e1
    refine hn i (fun h => ?_)
    subst h
    simp [lk] at e1
  · intro i b1 c1 e1
    obtain ⟨_, rfl, _⟩ := hone _ _ _ e1
    rcases hg with ⟨c, h⟩ | h
    · exact .inl ⟨B, c, h⟩
    · exact .inr h
  · intro i blk e1
    simp only [lk] at e1
    split at e1
    · rename_i hh
      have hh' : i = B := by simpa using hh
      subst hh'
      cases e1
      rw [he]
      refine CRel.blk ⟨R, e, hR, ?_, rfl, G, k, rfl, hc, hk, hG, hRs⟩ (isMp_some rfl hsz)
      rw [hc]
      exact hr.mono him (fun _ _ _ h => by cases h) (fun _ h => by cases h)
    · cases e1
  · exact .sl he hk hG (fun k' h _ => by cases h; rfl)
  · intro i hi hs
    by_cases hh : i = B
    · subst hh
      exact (hns hs).elim
    · right
      simp [lk, hh]
/-- The same, where another block was lent, which is as it was. -/
theorem bldPost2 {B V2 e sz k : Nat} {X : Nat → Prop} {φ : Phi} {w w' : World} {Hin : List (Nat × Blk)} {cs' cv : List V} {sv : Option (Nat × Nat)} {g G vb : Nat} {c2 : Option Nat} {R : Array Value} (hφ : Phi.ok φ X w Hin) (hX : ∀ b, X b → b < w.heap.size) (hns : ¬stayS B (φ B)) (hsz : 0 < sz)
    (hV : φ V2 = .at vb c2) (hBV : V2 ≠ B) (hmv : isMp ⟨cv, true, 0, sv⟩ = false) (hbv : BlkRel (Imm φ X w) w φ (.at vb c2) ⟨cv, true, 0, sv⟩)
    (h1 : w'.os = w.os) (h2 : w'.tape = w.tape) (h3 : w'.output = w.output) (h4 : w.heap.size ≤ w'.heap.size) (h5 : ∀ x, x < w.heap.size → (∀ c, φ B ≠ .at x c) → w'.heap[x]? = w.heap[x]?)
    (hg : (∃ c, φ B = .at g c) ∨ w.heap.size ≤ g) (hR : w'.heap[g]? = some (.cells R e)) (hRs : R.size = G * sz) (hk : k ≤ G) (hG : G ≤ 9223372036854775807) (hc : cs'.length = k * sz) (hr : RelL (Imm φ X w) w Phi.emp cs' (R.toList.take (k * sz))) :
    ∃ u φ', Ending.returned (.slice (some ⟨g, 0, none⟩) k G) = .returned u ∧ Frm φ w w' ∧ Phi.ok φ' X w' [(B, ⟨cs', true, 0, some (e, sz)⟩), (V2, ⟨cv, true, 0, sv⟩)] ∧ (∀ id b c, φ' id = .at b c → (∃ id0 c0, φ id0 = .at b c0) ∨ w.heap.size ≤ b) ∧
      HR (Imm φ' X w') w' φ' [(B, ⟨cs', true, 0, some (e, sz)⟩), (V2, ⟨cv, true, 0, sv⟩)] ∧ Rel (Imm φ' X w') w' φ' (.sl B 0 k) u ∧ (∀ id, BIG ≤ id → stayS id (φ id) → φ' id = φ id ∨ lk [(B, (⟨cs', true, 0, some (e, sz)⟩ : Blk)), (V2, ⟨cv, true, 0, sv⟩)] id = none) := by
  have hlt : g < w'.heap.size := (Array.getElem?_eq_some_iff.1 hR).1
  have hvl : vb < w.heap.size := hφ.lt _ _ _ hV
  have hvg : vb ≠ g := fun h => by
    rcases hg with ⟨c, h'⟩ | h'
    · subst h
      exact hBV (hφ.inj _ _ _ _ _ hV h')
    · omega
  have hn : ∀ i, i ≠ B → i ≠ V2 → ((Phi.emp.upd B (.at g (some G))).upd V2 (.at vb c2)) i = .none := fun i h h' => by simp [Phi.upd, h, h', Phi.emp]
  have he : ((Phi.emp.upd B (.at g (some G))).upd V2 (.at vb c2)) B = .at g (some G) := by simp [Phi.upd, Ne.symm hBV]
  have he2 : ((Phi.emp.upd B (.at g (some G))).upd V2 (.at vb c2)) V2 = .at vb c2 := by simp [Phi.upd]
  generalize hψ : (Phi.emp.upd B (.at g (some G))).upd V2 (.at vb c2) = ψ at *
  have hone : ∀ i b' c', ψ i = .at b' c' → (i = B ∧ b' = g) ∨ (i = V2 ∧ b' = vb) := fun i b' c' h => by
    by_cases hi : i = B
    · subst hi; rw [he] at h; cases h; exact .inl ⟨rfl, rfl⟩
    · by_cases hi2 : i = V2
      · subst hi2; rw [he2] at h; cases h; exact .inr ⟨rfl, rfl⟩
      · rw [hn i hi hi2] at h; cases h
  have him : ∀ x, Imm φ X w x → Imm ψ X w' x ∧ w'.heap[x]? = w.heap[x]? := fun x hx => by
    refine ⟨⟨Nat.lt_of_lt_of_le hx.1 h4, fun id c' h => ?_, hx.2.2⟩, h5 x hx.1 (fun c => hx.2.1 B c)⟩
    rcases hone _ _ _ h with ⟨_, rfl⟩ | ⟨_, rfl⟩
    · rcases hg with ⟨c, h⟩ | h
      · exact hx.2.1 B c h
      · have := hx.1
        omega
    · exact hx.2.1 V2 _ hV
  have hwv : w'.heap[vb]? = w.heap[vb]? := h5 vb hvl (fun c h => hBV (hφ.inj _ _ _ _ _ hV h))
  refine ⟨_, ψ, rfl, ⟨h1, h2, h3, h4, fun x hx hne => h5 x hx (fun c => hne B c)⟩, ⟨?_, ?_, ?_, ?_⟩, ?_, ?_, ?_, ?_⟩
  · intro i j b1 c1 c3 e1 e2
    rcases hone _ _ _ e1 with ⟨rfl, rfl⟩ | ⟨rfl, rfl⟩ <;> rcases hone _ _ _ e2 with ⟨rfl, h⟩ | ⟨rfl, h⟩
    · rfl
    · exact (hvg h.symm).elim
    · exact (hvg h).elim
    · rfl
  · intro i b1 c1 e1
    rcases hone _ _ _ e1 with ⟨_, rfl⟩ | ⟨_, rfl⟩
    · exact hlt
    · omega
  · intro i b1 c1 e1 hXb
    rcases hone _ _ _ e1 with ⟨_, rfl⟩ | ⟨_, rfl⟩
    · rcases hg with ⟨c, h⟩ | h
      · exact hφ.free B _ c h hXb
      · have := hX _ hXb
        omega
    · exact hφ.free V2 _ _ hV hXb
  · intro i e1
    refine hn i (fun h => ?_) (fun h => ?_)
    · subst h
      simp [lk] at e1
    · subst h
      simp [lk, hBV] at e1
  · intro i b1 c1 e1
    rcases hone _ _ _ e1 with ⟨_, rfl⟩ | ⟨_, rfl⟩
    · rcases hg with ⟨c, h⟩ | h
      · exact .inl ⟨B, c, h⟩
      · exact .inr h
    · exact .inl ⟨V2, _, hV⟩
  · intro i blk e1
    simp only [lk] at e1
    split at e1
    · rename_i hh
      have hh' : i = B := by simpa using hh
      subst hh'
      cases e1
      rw [he]
      refine CRel.blk ⟨R, e, hR, ?_, rfl, G, k, rfl, hc, hk, hG, hRs⟩ (isMp_some rfl hsz)
      rw [hc]
      exact hr.mono him (fun _ _ _ h => by cases h) (fun _ h => by cases h)
    · split at e1
      · rename_i hh
        have hh' : i = V2 := by simpa using hh
        subst hh'
        cases e1
        rw [he2]
        simp only [BlkRel, hmv] at hbv
        obtain ⟨us, el, q1, q2, q3⟩ := hbv
        exact CRel.blk ⟨us, el, hwv.trans q1, q2.mono him (fun _ _ _ h => by cases h) (fun _ h => by cases h), q3⟩ hmv
      · cases e1
  · exact .sl he hk hG (fun k' h _ => by cases h; rfl)
  · intro i hi hs
    by_cases hh : i = B
    · subst hh
      exact (hns hs).elim
    · by_cases hh2 : i = V2
      · subst hh2
        left
        rw [he2, hV]
      · right
        simp [lk, hh, hh2]
theorem noStay {B b c : Nat} {s : Slot} (hB : B < BIG2) (h : s = .at b (some c)) : ¬stayS B s := by
  subst h
  rintro (h | h)
  · cases h
  · omega
theorem con_ins_mid (cs row : List V) (n i : Nat) (hcs : cs.length = n * 3) (hrow : row.length = 3) (hi : i < n) (hn : n ≤ 1000) : Con Try.prog 46 [(1000000000, ⟨cs, true, 0, some (79, 3)⟩), (2000000000, ⟨row, true, 0, some (79, 3)⟩)] [.sl 1000000000 0 n, i64 (i : Int), .sl 2000000000 0 1]
    [(1000000000, ⟨cs.take (i * 3) ++ row ++ cs.drop (i * 3), true, 0, some (79, 3)⟩), (2000000000, ⟨row, true, 0, some (79, 3)⟩)] (.sl 1000000000 0 (n + 1)) := by
  refine ⟨⟨_, Try.func46, rfl, rfl⟩, fun X φ w us hφ hX hH hu hg => ?_⟩
  cases hu with
  | cons hu0 hu =>
  cases hu with
  | cons hu1 hu =>
  cases hu with
  | cons hu2 hu =>
  cases hu
  cases hu1
  cases hu0 with
  | slnil => omega
  | @sl _ _ _ _ cap b c0 hat hle hcap hk =>
  cases hu2 with
  | @sl _ _ _ _ cap2 vb c2 hat2 hle2 hcap2 hk2 =>
  have hB1 := hH 1000000000 _ rfl
  have hB2 := hH 2000000000 _ rfl
  rw [hat] at hB1
  rw [hat2] at hB2
  obtain ⟨uu, el, hb, hr, rfl, cap', n', hc0, hcl, hn', hcap', hus⟩ := hB1
  cases hc0
  obtain rfl : cap = cap' := hk _ rfl rfl
  obtain rfl : n = n' := by rw [hcs] at hcl; omega
  have hBV := hB2
  obtain ⟨uv, tv, hvb, hrv, _⟩ := hB2
  have hne : vb ≠ b := fun h => by
    subst h
    have := hφ.inj _ _ _ _ _ hat hat2
    omega
  have hrc : RelL (Imm φ X w) w Phi.emp cs (uu.toList.take (n * 3)) := by rw [← hcs]; exact hr
  have hrr : RelL (Imm φ X w) w Phi.emp row ((uv.toList.drop 0).take 3) := by rw [← hrow]; exact hrv
  have e1 : (uu.toList.take (n * 3)).take (i * 3) = uu.toList.take (i * 3) := by rw [List.take_take, Nat.min_eq_left (by omega)]
  have e2 : (uu.toList.take (n * 3)).drop (i * 3) = (uu.toList.drop (i * 3)).take ((n - i) * 3) := by rw [List.drop_take]; congr 1; omega
  have hout : RelL (Imm φ X w) w Phi.emp (cs.take (i * 3) ++ row ++ cs.drop (i * 3)) (uu.toList.take (i * 3) ++ (uv.toList.drop 0).take 3 ++ (uu.toList.drop (i * 3)).take ((n - i) * 3)) := by
    rw [← e1, ← e2]
    exact ((hrc.take _).append hrr).append (hrc.drop _)
  have hol : (cs.take (i * 3) ++ row ++ cs.drop (i * 3)).length = (n + 1) * 3 := by
    simp only [List.length_append, List.length_take, List.length_drop, hcs, hrow]
    omega
  have hl0 : uu.toList.length = cap * 3 := by simpa using hus
  by_cases hroom : n + 1 ≤ cap
  · refine (ins_room w b n cap i vb 0 cap2 uu uv tv _ hb hus hrc.2.2 hvb rfl ?_ hrr.2.2 hne hi hroom hcap').mono ?_
    · rw [hrr.1, hrow]
    rintro e w' ⟨rfl, R, hR, rfl⟩
    have hvl : ((uv.toList.drop 0).take 3).length = 3 := by rw [hrr.1, hrow]
    have hI : (insR1 uu.toList n i).length = cap * 3 := by
      simp only [insR1, List.length_append, List.length_take, List.length_drop, hl0]
      omega
    have ht : R.toList.take ((n + 1) * 3) = uu.toList.take (i * 3) ++ (uv.toList.drop 0).take 3 ++ (uu.toList.drop (i * 3)).take ((n - i) * 3) := by
      rw [hR]
      have a1 : (insR1 uu.toList n i).take (i * 3) = uu.toList.take (i * 3) := by
        simp only [insR1, List.append_assoc]
        rw [List.take_append_of_le_length (by simp only [List.length_take, hl0]; omega), List.take_take, Nat.min_eq_left (by omega)]
      have a2 : (insR1 uu.toList n i).drop (i * 3 + 3) = (uu.toList.drop (i * 3)).take ((n - i) * 3) ++ uu.toList.drop ((n + 1) * 3) := by
        simp only [insR1, List.append_assoc]
        exact List.drop_left' (by rw [List.length_take, hl0]; omega)
      rw [a1, a2, ← List.append_assoc]
      exact List.take_left' (by simp only [List.length_append, List.length_take, List.length_drop, hl0] at hvl ⊢; omega)
    refine bldPost2 hφ hX (noStay (by decide) hat) (by omega) hat2 (by decide) rfl hBV rfl rfl rfl (by simp) (fun x _ hx => ?_) (.inl ⟨_, hat⟩) (R := R) (setRow_heap _ _ _ R _ _ (setRow_heap _ _ _ _ _ _ hb)) ?_ hroom hcap' hol (by rw [ht]; exact hout)
    · have hx : x ≠ b := fun h => hx _ (h ▸ hat)
      rw [setRow_other _ _ _ _ hx, setRow_other _ _ _ _ hx]
      rfl
    · rw [hR]
      simp only [List.size_toArray, List.length_append, List.length_take, List.length_drop, hI] at hvl ⊢
      omega
  · refine (ins_grow w b n cap i vb 0 cap2 uu uv tv _ hb hus hrc.2.2 hvb rfl ?_ hrr.2.2 hne hi hn' (by omega) hn).mono ?_
    · rw [hrr.1, hrow]
    rintro e w' ⟨G, R, rfl, g1, g2, g3, g4, g5, g6, g7, g8, g9, g10⟩
    exact bldPost2 hφ hX (noStay (by decide) hat) (by omega) hat2 (by decide) rfl hBV g3 g4 g5 g6 (fun x hx _ => g7 x hx) (.inr (Nat.le_refl _)) g8 g9 g1 g2 hol (by rw [g10]; exact hout)
end Go.Proofs.Ytlfjnkobnkfioaa
