/- Phrases: what they are, in plain words. -/
import Derived.Test.YtieoaeidlcdggaaDoorTc
import Derived.Test.YtieoaeidlcdggaaDoorAb24
import Derived.Lib.SplitLaws
import Derived.Lib.AtoiAll
import Derived.Lib.ItoaNum
namespace Go.Proofs.YtieoaeidlcdggaaDoor
open Go Go.Ab
set_option linter.unusedSimpArgs false
set_option linter.unusedVariables false
abbrev strV (s : ByteArray) : V := .val (.string s)
/-- Bytes as a text. -/
def bb (l : List UInt8) : ByteArray := ⟨l.toArray⟩
theorem bb_list (l : List UInt8) : (bb l).data.toList = l := rfl
theorem bb_of (s : ByteArray) : bb s.data.toList = s := rfl
theorem ba_ext {s t : ByteArray} (h : s.data.toList = t.data.toList) : s = t := by rw [← bb_of s, ← bb_of t, h]
theorem bb_size (l : List UInt8) : (bb l).size = l.length := by
  show l.toArray.size = _
  simp
theorem ba_len (s : ByteArray) : s.data.toList.length = s.size := by
  show _ = s.data.size
  simp
/-- Cut at spaces. -/
def spg (cur : List UInt8) : List UInt8 → List (List UInt8)
  | [] => [cur]
  | b :: r => if b = 32 then cur :: spg [] r else spg (cur ++ [b]) r
theorem spg_cur (x : UInt8) : ∀ (l cur : List UInt8), spg (x :: cur) l = (match spg cur l with | [] => [[x]] | h :: t => (x :: h) :: t)
  | [], cur => rfl
  | b :: r, cur => by
    unfold spg
    split
    · rfl
    · exact spg_cur x r (cur ++ [b])
theorem spg_ne : ∀ (l cur : List UInt8), spg cur l ≠ []
  | [], cur => by simp [spg]
  | b :: r, cur => by
    unfold spg
    split
    · simp
    · exact spg_ne r _
theorem index_cons (b : UInt8) (l : List UInt8) : Lib.index (b :: l) [32] = if b = 32 then 0 else if Lib.index l [32] == -1 then -1 else Lib.index l [32] + 1 := by
  rw [Lib.index]
  by_cases h : b = 32
  · subst h; simp [List.isPrefixOf]
  · have hp : ([32] : List UInt8).isPrefixOf (b :: l) = false := by simp [List.isPrefixOf, Ne.symm h]
    rw [hp, if_neg h]
    simp
theorem splitK_spg : ∀ l : List UInt8, Lib.splitK [32] 0 (Lib.count l [32]) l = spg [] l
  | [] => by rw [Lib.count_miss (by simp [Lib.index])]; rfl
  | b :: l => by
    have ih := splitK_spg l
    by_cases h : b = 32
    · subst h
      rw [Lib.count_cons_eq, Nat.add_comm, Lib.splitK, index_cons, if_pos rfl]
      simp only [spg, if_true]
      rw [if_neg (by decide)]
      simp [ih]
    · rw [Lib.count_cons_ne b 32 l h]
      unfold spg
      rw [if_neg h, List.nil_append, spg_cur, ← ih]
      cases hc : Lib.count l [32] with
      | zero => rfl
      | succ k =>
        rw [Lib.splitK, Lib.splitK, index_cons, if_neg h]
        by_cases hm : Lib.index l [32] = -1
        · simp [hm]
        · have hge := Lib.index_ge l [32]
          obtain ⟨j, hj⟩ : ∃ j : Nat, Lib.index l [32] = j := ⟨(Lib.index l [32]).toNat, by omega⟩
          have e1 : ((j : Int) == -1) = false := by first | (simp; done) | (simp; omega)
          have e2 : ((j : Int) + 1 == -1) = false := by first | (simp; done) | (simp; omega)
          have e3 : ((j : Int) + 1).toNat = j + 1 := by omega
          have e5 : ¬ (((j : Int) == -1) = true) := by rw [e1]; simp
          have e6 : ¬ (((j : Int) + 1 == -1) = true) := by rw [e2]; simp
          rw [hj, if_neg e5, if_neg e5, if_neg e6, e3]
          rfl
def spl (s : ByteArray) : List ByteArray := (spg [] s.data.toList).map bb
theorem splitB_spl (s : ByteArray) : Lib.splitB ⟨#[32]⟩ 0 (Lib.countB s ⟨#[32]⟩) s = spl s := by
  have h := Lib.splitB_data ⟨#[32]⟩ 0 (Lib.countB s ⟨#[32]⟩) s
  have e : Lib.splitK [32] 0 (Lib.countB s ⟨#[32]⟩) s.data.toList = spg [] s.data.toList := splitK_spg s.data.toList
  rw [show (⟨#[32]⟩ : ByteArray).data.toList = [32] from rfl, e] at h
  unfold spl
  rw [← h, List.map_map]
  conv => lhs; rw [← List.map_id (Lib.splitB _ _ _ _)]
  rfl
theorem spg_len : ∀ (l cur : List UInt8), (spg cur l).length ≤ l.length + 1
  | [], cur => by simp [spg]
  | b :: r, cur => by
    unfold spg
    split
    · have := spg_len r []; simp; omega
    · have := spg_len r (cur ++ [b]); simp; omega
theorem spg_small : ∀ (l cur : List UInt8), ∀ p ∈ spg cur l, p.length ≤ cur.length + l.length
  | [], cur, p, h => by simp [spg] at h; simp [h]
  | b :: r, cur, p, h => by
    unfold spg at h
    split at h
    · rcases List.mem_cons.1 h with rfl | h
      · omega
      · have := spg_small r [] p h; simp at this ⊢; omega
    · have := spg_small r _ p h; simp at this ⊢; omega
theorem spl_small (s : ByteArray) (p : ByteArray) (h : p ∈ spl s) : p.size ≤ s.size := by
  unfold spl at h
  obtain ⟨q, hq, rfl⟩ := List.mem_map.1 h
  have := spg_small _ _ q hq
  rw [bb_size, ← ba_len]
  simpa using this
theorem spl_len (s : ByteArray) : (spl s).length ≤ s.size + 1 := by
  unfold spl
  rw [List.length_map]
  have := spg_len s.data.toList []
  rwa [ba_len] at this
theorem spl_pos (s : ByteArray) : 1 ≤ (spl s).length := by
  unfold spl
  rw [List.length_map]
  have := spg_ne s.data.toList []
  cases h : spg [] s.data.toList with
  | nil => exact absurd h this
  | cons => simp
/-! Numbers. -/
/-- In decimal. -/
def dgs (n : Nat) : List UInt8 := if n < 10 then [UInt8.ofNat (48 + n)] else if n < 100 then [UInt8.ofNat (48 + n / 10), UInt8.ofNat (48 + n % 10)] else [UInt8.ofNat (48 + n / 100), UInt8.ofNat (48 + n / 10 % 10), UInt8.ofNat (48 + n % 10)]
theorem dgs_dec (n : Nat) (h : n < 1000) : Lib.decDigits n = dgs n := by
  unfold dgs
  by_cases h1 : n < 10
  · rw [if_pos h1, Lib.decDigits_one h1]
  · rw [if_neg h1]
    by_cases h2 : n < 100
    · rw [if_pos h2, Lib.decDigits_two h1 h2]
    · rw [if_neg h2, Lib.decDigits, dif_neg h1, Lib.decDigits_two (by omega) (by omega), Nat.div_div_eq_div_mul]
      rfl
theorem dgs_atoi : ∀ n : Fin 256, Lib.atoiAll (dgs n.val) = .ok (n.val : Int) := by decide +kernel
/-- The number, 0 to 255, that a text says. -/
def numO (s : ByteArray) : Option Nat := match Lib.atoiAll s.data.toList with
  | .ok v => if 0 ≤ v ∧ v ≤ 255 ∧ dgs v.toNat = s.data.toList then some v.toNat else none
  | _ => none
theorem numO_some {s : ByteArray} {n : Nat} (h : numO s = some n) : n < 256 ∧ s.data.toList = dgs n := by
  unfold numO at h
  split at h
  · split at h
    · rename_i v _ hv
      cases h
      exact ⟨by omega, hv.2.2.symm⟩
    · cases h
  · cases h
theorem numO_dgs {s : ByteArray} {n : Nat} (hn : n < 256) (h : s.data.toList = dgs n) : numO s = some n := by
  unfold numO
  have := dgs_atoi ⟨n, hn⟩
  rw [h, this]
  dsimp only
  rw [if_pos ⟨by omega, by omega, by simp⟩]
  simp
/-! Of a text of one to three digits, as the document reads it. -/
def isD (b : UInt8) : Bool := Nat.ble 48 b.toNat && Nat.ble b.toNat 57
theorem digs1 : ∀ a : Fin 10, dgs a.val = [UInt8.ofNat (48 + a.val)] := by decide +kernel
theorem digs2 : ∀ a b : Fin 10, a.val ≠ 0 → dgs (10 * a.val + b.val) = [UInt8.ofNat (48 + a.val), UInt8.ofNat (48 + b.val)] := by decide +kernel
theorem digs3 : ∀ a b c : Fin 10, a.val ≠ 0 → dgs (100 * a.val + 10 * b.val + c.val) = [UInt8.ofNat (48 + a.val), UInt8.ofNat (48 + b.val), UInt8.ofNat (48 + c.val)] := by decide +kernel
theorem dgs_dig : ∀ n : Fin 256, (dgs n.val).all isD = true ∧ 1 ≤ (dgs n.val).length ∧ (dgs n.val).length ≤ 3 ∧ ((dgs n.val).length ≠ 1 → (dgs n.val).head? ≠ some 48) := by decide +kernel
theorem dig_of {b : UInt8} (h1 : 48 ≤ b.toNat) (h2 : b.toNat ≤ 57) : ∃ d : Fin 10, b.toNat = 48 + d.val ∧ b = UInt8.ofNat (48 + d.val) :=
  ⟨⟨b.toNat - 48, by omega⟩, by show b.toNat = 48 + (b.toNat - 48); omega, by
    show b = UInt8.ofNat (48 + (b.toNat - 48))
    rw [show 48 + (b.toNat - 48) = b.toNat by omega]
    exact (UInt8.ofNat_toNat).symm⟩
end Go.Proofs.YtieoaeidlcdggaaDoor
