/- What was seen: a map of bytes. -/
import Derived.Test.YtlfjnkobnkfioaaPlnS
import Derived.Test.YtlfjnkobnkfioaaAb32
namespace Go.Proofs.Ytlfjnkobnkfioaa
open Go.Ab
set_option maxRecDepth 100000
set_option linter.unusedSimpArgs false
set_option linter.unusedVariables false
def seenC : List Int → List V
  | [] => []
  | k :: r => u8 k :: vb true :: seenC r
theorem evEq8 (a b : Int) : evEq tc 4 5 (u8 a) (u8 b) = some (a == b) := by kernel_rfl
theorem mfind_seen (id : Int) : ∀ (K : List Int) (i : Nat), mfind tc 5 (u8 id) (seenC K) i = some (if id ∈ K then some (i + K.idxOf id) else none)
  | [], i => by simp [mfind, seenC]
  | k :: r, i => by
    simp only [seenC, mfind, evEq8]
    by_cases h : id = k
    · subst h
      simp
    · have h2 : (id == k) = false := by simpa using h
      have h3 : (k == id) = false := by simpa using fun e => h (Eq.symm e)
      simp only [h2]
      rw [mfind_seen id r (i + 1)]
      simp only [List.mem_cons, h, false_or, List.idxOf_cons, h3, cond_false]
      split
      · refine congrArg (fun z => some (some z)) ?_
        omega
      · rfl
theorem mget_seen (id : Int) (K : List Int) (h : id ∉ K) : mget tc 5 (vb false) false (seenC K) (u8 id) = some (vb false) := by
  unfold mget
  rw [mfind_seen, if_neg h]
  rfl
theorem seenC_app : ∀ (K Q : List Int), seenC (K ++ Q) = seenC K ++ seenC Q
  | [], Q => rfl
  | k :: r, Q => by simp [seenC, seenC_app r Q]
theorem seenC_len : ∀ K : List Int, (seenC K).length = 2 * K.length
  | [] => rfl
  | k :: r => by simp only [seenC, List.length_cons, seenC_len r]; omega
theorem mput_seen (id : Int) (K : List Int) (h : id ∉ K) : mputR tc 5 (seenC K) (u8 id) (vb true) (seenC (K ++ [id])) := by
  refine .inl ⟨?_, ?_⟩
  · rw [mfind_seen, if_neg h]
  · rw [seenC_app]; rfl
theorem insO_perm (a : It) (L : List It) : (insI a L).Perm (a :: L) := by
  unfold insI
  rw [List.append_assoc]
  have h := List.perm_middle (a := a) (l₁ := L.take (posI a.t L)) (l₂ := L.drop (posI a.t L))
  rwa [List.take_append_drop] at h
/-- What is planned: each item bears its time and its number. -/
def OnP (m : Nat) (L : List It) : Prop := ∀ a ∈ L, (0 ≤ a.t ∧ a.t < 256) ∧ (0 ≤ a.id ∧ a.id < m) ∧ a.c = [a.t, a.id] ∧ a.k = 2
theorem OnP.ins {k : Nat} {L : List It} (h : OnP k L) {x i : Int} (hx : 0 ≤ x ∧ x < 256) (hi : i = (k : Int)) : OnP (k + 1) (insI ⟨x, i, [x, i], 2⟩ L) := fun a ha => by
  rcases insI_mem _ _ _ ha with rfl | ha
  · exact ⟨hx, ⟨by show 0 ≤ i; omega, by show i < _; omega⟩, rfl, rfl⟩
  · obtain ⟨h1, h2, h3⟩ := h a ha
    exact ⟨h1, ⟨h2.1, by omega⟩, h3⟩
theorem perm_ins {k : Nat} {L : List It} (h : (L.map It.id).Perm (idsR k)) {x i : Int} {c : List Int} {n : Nat} (hi : i = (k : Int)) : ((insI ⟨x, i, c, n⟩ L).map It.id).Perm (idsR (k + 1)) := by
  have h1 := (insO_perm ⟨x, i, c, n⟩ L).map It.id
  have h2 : (i :: L.map It.id).Perm (i :: idsR k) := h.cons i
  have h3 : (i :: idsR k).Perm (idsR k ++ [i]) := (List.perm_append_singleton i (idsR k)).symm
  rw [← idsR_next k, ← hi]
  exact h1.trans (h2.trans h3)
theorem idsR_nodup : ∀ k : Nat, (idsR k).Nodup
  | 0 => List.Pairwise.nil
  | k + 1 => by
    rw [← idsR_next]
    have h3 := (List.perm_append_singleton (k : Int) (idsR k))
    exact h3.nodup_iff.2 (List.nodup_cons.2 ⟨idsR_new k, idsR_nodup k⟩)
theorem tcO_dr {R : List It} {m : Nat} (hp : OnP m R) {i p : Nat} {a : It} (h : R[i]? = some a) (hi : i < p) : List.drop (i * 1) (tcC (R.take p)) = .vs (u8s [a.t, a.id]) 2 :: tcC ((R.take p).drop (i + 1)) := by
  obtain ⟨hl, rfl⟩ := List.getElem?_eq_some_iff.1 h
  obtain ⟨_, _, h3, h4⟩ := hp R[i] (List.getElem_mem hl)
  have hl2 : i < (R.take p).length := by rw [List.length_take]; omega
  unfold tcC
  rw [Nat.mul_one, ← List.map_drop, List.drop_eq_getElem_cons hl2, List.map_cons, List.getElem_take, h3, h4]
end Go.Proofs.Ytlfjnkobnkfioaa
