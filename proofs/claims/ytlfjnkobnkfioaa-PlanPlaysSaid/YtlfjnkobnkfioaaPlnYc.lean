/- A call of the plan, as plain data. -/
import Derived.Test.YtlfjnkobnkfioaaPlnYb
import Derived.Test.YtlfjnkobnkfioaaPlnZ
import Derived.Test.YtlfjnkobnkfioaaPlnZa
import Derived.Test.YtlfjnkobnkfioaaPlnZb
namespace Go.Proofs.Ytlfjnkobnkfioaa
open Go.Ab
set_option linter.unusedSimpArgs false
set_option linter.unusedVariables false
structure Ac where
  d : Int
  t : Int
  id : Int
  c : List Int
  k : Nat
  b : Int
  on : Bool
abbrev Ac.v (a : Ac) : V := .agg true [u8 a.d, u32 a.t, u16 a.id, .vs (u8s a.c) a.k, i32 a.b, vb a.on]
structure AcOk (a : Ac) : Prop where
  d : 0 ≤ a.d ∧ a.d < 256
  t : 0 ≤ a.t ∧ a.t ≤ 4294967295
  b : -2147483648 ≤ a.b ∧ a.b ≤ 2147483647
  c : a.c.length = a.k
  k : a.k ≤ 230
structure PlOk (L : List It) : Prop where
  n : L.length ≤ 32
  s : SortI L
  t : ∀ a ∈ L, 0 ≤ a.t ∧ a.t ≤ 4294967295
  c : TcOk L
  id : (L.map It.id).Nodup
def KOk (K : List Int) (L : List It) : Prop := K.Perm (L.map It.id)
structure Nx where
  L : List It
  off : Bool
  code : Int
  out : List It
def nx (L : List It) (off : Bool) (a : Ac) : Nx :=
  if a.d % 8 = 3 then (if a.id ∈ L.map It.id then ⟨keepP (pId a.id) L, off, 0, []⟩ else ⟨L, off, 3, []⟩)
  else if a.d % 8 = 4 then (if off then ⟨L, off, 0, []⟩ else ⟨L.drop (posI a.t L), off, 0, L.take (posI a.t L)⟩)
  else if a.d % 8 = 5 then ⟨L.map (shI a.b), off, L.length, []⟩
  else if a.d % 8 = 6 then ⟨L, !a.on, 0, []⟩
  else if a.d % 8 = 7 then ⟨[], off, L.length, []⟩
  else if 208 < a.k then ⟨L, off, 4, []⟩
  else if a.id ∈ L.map It.id then ⟨L, off, 8, []⟩
  else if L.length = 32 then ⟨L, off, 6, []⟩
  else ⟨insI ⟨a.t, a.id, a.c, a.k⟩ L, off, 0, []⟩
theorem insI_perm (a : It) (L : List It) : (insI a L).Perm (a :: L) := by
  unfold insI
  rw [List.append_assoc]
  have h := List.perm_middle (a := a) (l₁ := L.take (posI a.t L)) (l₂ := L.drop (posI a.t L))
  rwa [List.take_append_drop] at h
theorem PlOk.ins {L : List It} (h : PlOk L) {a : It} (h32 : L.length < 32) (ht : 0 ≤ a.t ∧ a.t ≤ 4294967295) (hc : a.c.length = a.k ∧ a.k ≤ 1000) (hid : a.id ∉ L.map It.id) : PlOk (insI a L) := by
  refine ⟨by rw [insI_len]; omega, insI_sort _ _ h.s, fun x hx => ?_, fun x hx => ?_, ?_⟩
  · rcases insI_mem _ _ _ hx with rfl | hx
    · exact ht
    · exact h.t x hx
  · rcases insI_mem _ _ _ hx with rfl | hx
    · exact hc
    · exact h.c x hx
  · have hp := (insI_perm a L).map It.id
    exact hp.nodup_iff.2 (List.nodup_cons.2 ⟨hid, h.id⟩)
theorem PlOk.sub {L M : List It} (h : PlOk L) (hs : M.Sublist L) : PlOk M :=
  ⟨Nat.le_trans hs.length_le h.n, List.Pairwise.sublist hs h.s, fun a ha => h.t a (hs.subset ha), fun a ha => h.c a (hs.subset ha), (hs.map It.id).nodup h.id⟩
theorem shT_mono {b s t : Int} (h : s ≤ t) : shT b s ≤ shT b t := by
  unfold shT
  simp only [Int.min_def, Int.max_def]
  (repeat' split) <;> omega
theorem shT_in (b t : Int) : 0 ≤ shT b t ∧ shT b t ≤ 4294967295 := by
  unfold shT
  simp only [Int.min_def, Int.max_def]
  (repeat' split) <;> omega
theorem PlOk.sh {L : List It} (h : PlOk L) (b : Int) : PlOk (L.map (shI b)) := by
  refine ⟨by rw [List.length_map]; exact h.n, ?_, fun a ha => ?_, fun a ha => ?_, ?_⟩
  · exact List.Pairwise.map _ (fun x y hxy => shT_mono hxy) h.s
  · obtain ⟨x, _, rfl⟩ := List.mem_map.1 ha
    exact shT_in _ _
  · obtain ⟨x, hx, rfl⟩ := List.mem_map.1 ha
    exact h.c x hx
  · rw [List.map_map]
    exact h.id
theorem PlOk.nil : PlOk [] := ⟨by decide, List.Pairwise.nil, fun a h => (by cases h), fun a h => (by cases h), List.Pairwise.nil⟩
theorem nx_ok {L : List It} (h : PlOk L) (off : Bool) {a : Ac} (ha : AcOk a) : PlOk (nx L off a).L ∧ TcOk (nx L off a).out ∧ (nx L off a).out.length ≤ 32 := by
  have hnil : TcOk ([] : List It) := fun a h => by cases h
  unfold nx
  split
  · split
    · exact ⟨h.sub List.filter_sublist, hnil, Nat.zero_le _⟩
    · exact ⟨h, hnil, Nat.zero_le _⟩
  split
  · split
    · exact ⟨h, hnil, Nat.zero_le _⟩
    · refine ⟨h.sub (List.drop_sublist ..), fun x hx => h.c x (List.mem_of_mem_take hx), ?_⟩
      have := h.n
      show (L.take _).length ≤ 32
      rw [List.length_take]
      omega
  split
  · exact ⟨h.sh _, hnil, Nat.zero_le _⟩
  split
  · exact ⟨h, hnil, Nat.zero_le _⟩
  split
  · exact ⟨.nil, hnil, Nat.zero_le _⟩
  split
  · exact ⟨h, hnil, Nat.zero_le _⟩
  split
  · exact ⟨h, hnil, Nat.zero_le _⟩
  split
  · exact ⟨h, hnil, Nat.zero_le _⟩
  · rename_i h1 h2 h3
    have := h.n
    have := ha.k
    exact ⟨h.ins (by omega) ha.t ⟨ha.c, by show a.k ≤ 1000; omega⟩ h2, hnil, Nat.zero_le _⟩
theorem KOk.mem {K : List Int} {L : List It} (h : KOk K L) (x : Int) : x ∈ K ↔ x ∈ L.map It.id := List.Perm.mem_iff h
theorem KOk.ins {K : List Int} {L : List It} (h : KOk K L) (a : It) : KOk (K ++ [a.id]) (insI a L) := by
  have h1 : (K ++ [a.id]).Perm (a.id :: K) := by
    have := List.perm_middle (a := a.id) (l₁ := K) (l₂ := [])
    rwa [List.append_nil] at this
  exact h1.trans ((h.cons a.id).trans ((insI_perm a L).map It.id).symm)
theorem keep_ids (x : Int) (L : List It) : (keepP (pId x) L).map It.id = (L.map It.id).filter fun y => !(y == x) := by
  unfold keepP
  rw [List.filter_map]
  rfl
theorem KOk.del {K : List Int} {L : List It} (h : KOk K L) (hn : (L.map It.id).Nodup) (x : Int) : KOk (K.erase x) (keepP (pId x) L) := by
  unfold KOk
  rw [keep_ids]
  have h1 := List.Perm.erase x h
  have h2 : (L.map It.id).erase x = (L.map It.id).filter fun y => !(y == x) := by
    rw [List.Nodup.erase_eq_filter hn]
    rfl
  rw [h2] at h1
  exact h1
theorem KOk.era : ∀ {K : List Int} {P Q : List It}, KOk K (P ++ Q) → KOk (eraI K P) Q
  | K, [], Q, h => h
  | K, a :: P, Q, h => by
    have h1 := List.Perm.erase a.id h
    have h2 : KOk (K.erase a.id) (P ++ Q) := by
      unfold KOk
      simpa using h1
    exact KOk.era (P := P) h2
theorem KOk.due {K : List Int} {L : List It} (h : KOk K L) (p : Nat) : KOk (eraI K (L.take p)) (L.drop p) := by
  refine KOk.era ?_
  rw [List.take_append_drop]
  exact h
/-- Where it is, if it is there. -/
theorem atP_in {id : Int} {L : List It} (hn : (L.map It.id).Nodup) (h : id ∈ L.map It.id) : ∃ k, k < L.length ∧ atP id L L.length = (k : Int) ∧ L.take k ++ L.drop (k + 1) = keepP (pId id) L := by
  obtain ⟨a, ha, rfl⟩ := List.mem_map.1 h
  obtain ⟨k, hk, hka⟩ := List.getElem_of_mem ha
  have hne : ∀ j (hj : j < L.length), j ≠ k → L[j].id ≠ a.id := fun j hj hjk e => by
    have hpw := List.pairwise_iff_getElem.1 hn
    rcases Nat.lt_or_gt_of_ne hjk with hlt | hlt
    · have := hpw j k (by simpa using hj) (by simpa using hk) hlt
      simp only [List.getElem_map, hka] at this
      exact this e
    · have := hpw k j (by simpa using hk) (by simpa using hj) hlt
      simp only [List.getElem_map, hka] at this
      exact this e.symm
  refine ⟨k, hk, ?_, ?_⟩
  · have key : ∀ m, m ≤ L.length → k < m → atP a.id L m = (k : Int) := fun m => by
      induction m with
      | zero => intro _ h; omega
      | succ m ih =>
        intro h1 h2
        rw [atP_at (List.getElem?_eq_getElem (by omega : m < L.length))]
        by_cases e : m = k
        · subst e
          rw [if_pos (by rw [hka])]
        · rw [if_neg (hne m (by omega) e)]
          exact ih (by omega) (by omega)
    exact key _ (Nat.le_refl _) hk
  · have e1 : L = L.take k ++ a :: L.drop (k + 1) := by
      rw [← hka, ← List.drop_eq_getElem_cons hk, List.take_append_drop]
    unfold keepP
    have hp : ∀ x, pId a.id x = (x.id == a.id) := fun x => rfl
    have f1 : ∀ x ∈ L.take k, (!pId a.id x) = true := fun x hx => by
      obtain ⟨j, hj, rfl⟩ := List.getElem_of_mem hx
      have hj' : j < k := by simp at hj; omega
      rw [hp, List.getElem_take]
      have := hne j (by omega) (by omega)
      simpa using this
    have f2 : ∀ x ∈ L.drop (k + 1), (!pId a.id x) = true := fun x hx => by
      obtain ⟨j, hj, rfl⟩ := List.getElem_of_mem hx
      have hj' : k + 1 + j < L.length := by simp at hj; omega
      rw [hp, List.getElem_drop]
      have := hne (k + 1 + j) hj' (by omega)
      simpa using this
    conv => rhs; rw [e1]
    rw [List.filter_append, List.filter_cons, if_neg (by rw [hp]; simp), List.filter_eq_self.2 f1, List.filter_eq_self.2 f2]
end Go.Proofs.Ytlfjnkobnkfioaa
