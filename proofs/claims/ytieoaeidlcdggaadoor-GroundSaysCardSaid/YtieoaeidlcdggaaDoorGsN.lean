/- Bytes in hexadecimal. -/
import Derived.Test.YtieoaeidlcdggaaDoorGsM
namespace Go.Proofs.YtieoaeidlcdggaaDoor
open Go Go.Ab Go.RowKit Go.Shelf
set_option linter.unusedSimpArgs false
set_option linter.unusedVariables false
set_option maxRecDepth 100000
set_option maxHeartbeats 4000000
/-- The hexadecimal digit. -/
def hx1 (n : Nat) : UInt8 := UInt8.ofNat (if n < 10 then 48 + n else 87 + n)
def hexL : List Nat → List UInt8
  | [] => []
  | b :: r => hx1 (b / 16) :: hx1 (b % 16) :: hexL r
theorem hexL_snoc : ∀ (l : List Nat) (b : Nat), hexL (l ++ [b]) = hexL l ++ [hx1 (b / 16)] ++ [hx1 (b % 16)]
  | [], b => rfl
  | x :: r, b => by simp [hexL, hexL_snoc r b]
theorem hexL_len : ∀ l : List Nat, (hexL l).length = 2 * l.length
  | [] => rfl
  | x :: r => by simp only [hexL, List.length_cons, hexL_len r]; omega
/-- Bytes as cells. -/
def bc (l : List UInt8) : List Value := Lib.byteCells l
theorem dig_at : ∀ n : Fin 16, (((⟨#[48, 49, 50, 51, 52, 53, 54, 55, 56, 57, 97, 98, 99, 100, 101, 102]⟩ : ByteArray)[n.val]'n.isLt).toNat) = (hx1 n.val).toNat := by decide +kernel
theorem dig_val (n : Nat) (h : n < 16) : Value.int .u8 ((((⟨#[48, 49, 50, 51, 52, 53, 54, 55, 56, 57, 97, 98, 99, 100, 101, 102]⟩ : ByteArray)[n]'h).toNat : Nat) : Int) = .int .u8 ((hx1 n).toNat : Nat) := by rw [dig_at ⟨n, h⟩]
theorem bc_app (a b : List UInt8) : bc (a ++ b) = bc a ++ bc b := by simp [bc, Lib.byteCells]
theorem shown_calls (p o c : Nat) (l : List Nat) (hl : l.length ≤ 1000) (hlc : l.length ≤ c) (hb : ∀ x ∈ l, x < 256) (w : World) (hp : p < w.heap.size) (hc : ∀ (j : Nat) x, l[j]? = some x → w.cell? ⟨p, o + j, none⟩ = some (.int .u8 (x : Nat))) :
    Calls Tryd.prog 31 #[.slice (some ⟨p, o, none⟩) l.length c] w fun e w' => e = .returned (.string (bb (hexL l))) ∧ Below w.heap.size w w' := by
  have HC := Any.hidJ hc
  clear hc
  go_enter Tryd.func31, Tryd.ntmps31
  go_wp2
  have H0 : Lib.IsBuilder 87 5 w.heap.size w.heap.size (bc (hexL (l.take 0))) (w.alloc (.cells #[.pointer none, .slice none 0 0] 87)) := Lib.fresh_isBuilder 87 5 w
  have HB0 : Below w.heap.size w (w.alloc (.cells #[.pointer none, .slice none 0 0] 87)) := (Below.refl _ w).alloc (Nat.le_refl _) _
  go_loopw [8] (fun i wr => ∃ k : Nat, k ≤ l.length ∧ i = .int .i64 k ∧ Hid (Lib.IsBuilder 87 5 w.heap.size w.heap.size (bc (hexL (l.take k))) wr) ∧ Hid (Below w.heap.size w wr)) (fun i _ => l.length - (intOf i).toNat)
  case atStart => exact ⟨0, Nat.zero_le _, rfl, Any.hidJ H0, Any.hidJ HB0⟩
  case round =>
    obtain ⟨k, hk, rfl, HB, HW⟩ := hrel
    by_cases hkl : k < l.length
    · obtain ⟨x, hx⟩ : ∃ x, l[k]? = some x := ⟨_, List.getElem?_eq_getElem hkl⟩
      have hxm := hb x (List.mem_of_getElem? hx)
      have hcx : wr.cell? ⟨p, o + k, none⟩ = some (.int .u8 (x : Nat)) := by
        rw [HW.out.cell (p := ⟨p, o + k, none⟩) hp]
        exact HC.out k x hx
      have hBw := HW.out.size
      have hbl : (bc (hexL (l.take k))).length ≤ 4000 := by
        unfold bc
        rw [Lib.byteCells_length, hexL_len, List.length_take]
        omega
      go_wp2_with (go_at_call 41; refine (Any.Builder_WriteByte layWB extraB w.heap.size w.heap.size _ _ _ HB.out (by omega) hBw).mono ?_; rintro e w1 ⟨rfl, hA1, hB1⟩; have HA1 := Any.hidJ hA1; clear hA1)
      have hBw1 := hB1.size
      go_wp2_with (go_at_call 41; refine (Any.Builder_WriteByte layWB extraB w.heap.size w.heap.size _ _ _ (.inr HA1.out) (by rw [List.length_append, List.length_singleton]; omega) (by omega)).mono ?_; rintro e w2 ⟨rfl, hA2, hB2⟩; have HA2 := Any.hidJ hA2; clear hA2)
      refine ⟨⟨k + 1, hkl, by simp, Any.hidJ (.inr ?_), Any.hidJ ((HW.out.trans (hB1.mono (Nat.le_refl _))).trans (hB2.mono (Nat.le_refl _)))⟩, by simp [intOf]; omega⟩
      have h2 := HA2.out
      rw [dig_val (x / 16) (by omega), dig_val (x % 16) (by omega)] at h2
      have e : l.take (k + 1) = l.take k ++ [x] := by rw [List.take_add_one, hx]; rfl
      rw [e, hexL_snoc, bc_app, bc_app]
      exact h2
    · have hkk : k = l.length := by omega
      subst hkk
      have hb1 := HB.out
      rw [List.take_length] at hb1
      have HB1 := Any.hidJ hb1
      clear hb1
      go_wp2_with (go_at_call 42; refine (Any.Builder_String_any layStr extraB w.heap.size w.heap.size (hexL l) _ HB1.out HW.out.size).mono ?_; rintro e w3 ⟨rfl, hB3⟩)
      go_ret
      exact ⟨rfl, HW.out.trans (hB3.mono (Nat.le_refl _))⟩
theorem con_shown (l : List Nat) (hl : l.length ≤ 1000) (h0 : l ≠ []) (hb : ∀ x ∈ l, x < 256) : Con Tryd.prog 31 [] [.vs (u8s (l.map fun (n : Nat) => (n : Int))) l.length] [] (strV (bb (hexL l))) := by
  refine Con.of_below ⟨_, Tryd.func31, by kernel_rfl, by kernel_rfl⟩ rfl fun w us hu hg => ?_
  cases hu with
  | cons h1 h2 =>
    cases h2
    cases h1 with
    | vs q1 q2 q3 q4 q5 q6 q7 =>
      rename_i us cap A
      have hlen : us.length = l.length := by rw [q1]; simp [u8s]
      have hcell : ∀ (j : Nat) x, l[j]? = some x → us[j]? = some (.int .u8 (x : Nat)) := fun j x hj => by
        obtain ⟨hj', rfl⟩ := List.getElem?_eq_some_iff.1 hj
        have hju : j < us.length := by omega
        have := q2 j (by simpa [u8s] using hj')
        rw [List.getD_eq_getElem?_getD, List.getElem?_eq_getElem hju, Option.getD_some] at this
        have e : (u8s (l.map fun (n : Nat) => (n : Int)))[j]'(by simpa [u8s] using hj') = u8 ((l[j] : Nat) : Int) := by simp [u8s]
        rw [e] at this
        rw [List.getElem?_eq_getElem hju, this.val_inv]
      obtain ⟨x0, hx0⟩ : ∃ x0, l[0]? = some x0 := by
        cases l with
        | nil => exact absurd rfl h0
        | cons a b => exact ⟨a, rfl⟩
      obtain ⟨p, o, hA, hI, _⟩ := q4 0 _ (hcell 0 x0 hx0)
      subst hA
      refine shown_calls p o cap l hl q6 hb w hI fun j x hj => ?_
      obtain ⟨p', o', hA', _, hc⟩ := q4 j _ (hcell j x hj)
      cases hA'
      exact hc
end Go.Proofs.YtieoaeidlcdggaaDoor
