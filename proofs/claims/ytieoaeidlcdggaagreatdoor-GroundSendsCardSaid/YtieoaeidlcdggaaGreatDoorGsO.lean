/- The document's example. -/
import Derived.Test.YtieoaeidlcdggaaGreatDoorGsL
import Derived.Test.YtieoaeidlcdggaaGreatDoorRg
import Derived.Test.YtieoaeidlcdggaaGreatDoorCrC
namespace Go.Proofs.YtieoaeidlcdggaaGreatDoor
open Go Go.Ab Go.RowKit Go.Shelf
set_option linter.unusedSimpArgs false
set_option linter.unusedVariables false
set_option maxRecDepth 100000
set_option maxHeartbeats 4000000
/-- The hexadecimal digit. -/
def hx1 (n : Nat) : UInt8 := UInt8.ofNat (if n < 10 then 48 + n else 87 + n)
def hexL : List Nat → List UInt8
  | [] => []
  | b :: r => hx1 (b / 16) :: hx1 (b % 16) :: hexL r
theorem hexL_snoc : ∀ (l : List Nat) (b : Nat), hexL (l ++ [b]) = hexL l ++ [hx1 (b / 16)] ++ [hx1 (b % 16)]
  | [], b => rfl
  | x :: r, b => by simp [hexL, hexL_snoc r b]
theorem hexL_len : ∀ l : List Nat, (hexL l).length = 2 * l.length
  | [] => rfl
  | x :: r => by simp only [hexL, List.length_cons, hexL_len r]; omega
/-- Bytes as cells. -/
def bc (l : List UInt8) : List Value := Lib.byteCells l
theorem dig_at : ∀ n : Fin 16, (((⟨#[48, 49, 50, 51, 52, 53, 54, 55, 56, 57, 97, 98, 99, 100, 101, 102]⟩ : ByteArray)[n.val]'n.isLt).toNat) = (hx1 n.val).toNat := by decide +kernel
theorem dig_val (n : Nat) (h : n < 16) : Value.int .u8 ((((⟨#[48, 49, 50, 51, 52, 53, 54, 55, 56, 57, 97, 98, 99, 100, 101, 102]⟩ : ByteArray)[n]'h).toNat : Nat) : Int) = .int .u8 ((hx1 n).toNat : Nat) := by rw [dig_at ⟨n, h⟩]
theorem bc_app (a b : List UInt8) : bc (a ++ b) = bc a ++ bc b := by simp [bc, Lib.byteCells]
theorem shown_calls (p o c : Nat) (l : List Nat) (hl : l.length ≤ 1000) (hlc : l.length ≤ c) (hb : ∀ x ∈ l, x < 256) (w : World) (hp : p < w.heap.size) (hc : ∀ (j : Nat) x, l[j]? = some x → w.cell? ⟨p, o + j, none⟩ = some (.int .u8 (x : Nat))) :
    Calls Tryz.prog 39 #[.slice (some ⟨p, o, none⟩) l.length c] w fun e w' => e = .returned (.string (bb (hexL l))) ∧ Below w.heap.size w w' := by
  have HC := Any.hidJ hc
  clear hc
  go_enter Tryz.func39, Tryz.ntmps39
  go_wp2
  have H0 : Lib.IsBuilder 110 5 w.heap.size w.heap.size (bc (hexL (l.take 0))) (w.alloc (.cells #[.pointer none, .slice none 0 0] 110)) := Lib.fresh_isBuilder 110 5 w
  have HB0 : Below w.heap.size w (w.alloc (.cells #[.pointer none, .slice none 0 0] 110)) := (Below.refl _ w).alloc (Nat.le_refl _) _
  go_loopw [8] (fun i wr => ∃ k : Nat, k ≤ l.length ∧ i = .int .i64 k ∧ Hid (Lib.IsBuilder 110 5 w.heap.size w.heap.size (bc (hexL (l.take k))) wr) ∧ Hid (Below w.heap.size w wr)) (fun i _ => l.length - (intOf i).toNat)
  case atStart => exact ⟨0, Nat.zero_le _, rfl, Any.hidJ H0, Any.hidJ HB0⟩
  case round =>
    obtain ⟨k, hk, rfl, HB, HW⟩ := hrel
    by_cases hkl : k < l.length
    · obtain ⟨x, hx⟩ : ∃ x, l[k]? = some x := ⟨_, List.getElem?_eq_getElem hkl⟩
      have hxm := hb x (List.mem_of_getElem? hx)
      have hcx : wr.cell? ⟨p, o + k, none⟩ = some (.int .u8 (x : Nat)) := by
        rw [HW.out.cell (p := ⟨p, o + k, none⟩) hp]
        exact HC.out k x hx
      have hBw := HW.out.size
      have hbl : (bc (hexL (l.take k))).length ≤ 4000 := by
        unfold bc
        rw [Lib.byteCells_length, hexL_len, List.length_take]
        omega
      go_wp2_with (go_at_call 51; refine (Any.Builder_WriteByte layWB extraB w.heap.size w.heap.size _ _ _ HB.out (by omega) hBw).mono ?_; rintro e w1 ⟨rfl, hA1, hB1⟩; have HA1 := Any.hidJ hA1; clear hA1)
      have hBw1 := hB1.size
      go_wp2_with (go_at_call 51; refine (Any.Builder_WriteByte layWB extraB w.heap.size w.heap.size _ _ _ (.inr HA1.out) (by rw [List.length_append, List.length_singleton]; omega) (by omega)).mono ?_; rintro e w2 ⟨rfl, hA2, hB2⟩; have HA2 := Any.hidJ hA2; clear hA2)
      refine ⟨⟨k + 1, hkl, by simp, Any.hidJ (.inr ?_), Any.hidJ ((HW.out.trans (hB1.mono (Nat.le_refl _))).trans (hB2.mono (Nat.le_refl _)))⟩, by simp [intOf]; omega⟩
      have h2 := HA2.out
      rw [dig_val (x / 16) (by omega), dig_val (x % 16) (by omega)] at h2
      have e : l.take (k + 1) = l.take k ++ [x] := by rw [List.take_add_one, hx]; rfl
      rw [e, hexL_snoc, bc_app, bc_app]
      exact h2
    · have hkk : k = l.length := by omega
      subst hkk
      have hb1 := HB.out
      rw [List.take_length] at hb1
      have HB1 := Any.hidJ hb1
      clear hb1
      go_wp2_with (go_at_call 52; refine (Any.Builder_String_any layStr extraB w.heap.size w.heap.size (hexL l) _ HB1.out HW.out.size).mono ?_; rintro e w3 ⟨rfl, hB3⟩)
      go_ret
      exact ⟨rfl, HW.out.trans (hB3.mono (Nat.le_refl _))⟩
theorem con_shown (l : List Nat) (hl : l.length ≤ 1000) (h0 : l ≠ []) (hb : ∀ x ∈ l, x < 256) : Con Tryz.prog 39 [] [.vs (u8s (l.map fun (n : Nat) => (n : Int))) l.length] [] (strV (bb (hexL l))) := by
  refine Con.of_below ⟨_, Tryz.func39, by kernel_rfl, by kernel_rfl⟩ rfl fun w us hu hg => ?_
  cases hu with
  | cons h1 h2 =>
    cases h2
    cases h1 with
    | vs q1 q2 q3 q4 q5 q6 q7 =>
      rename_i us cap A
      have hlen : us.length = l.length := by rw [q1]; simp [u8s]
      have hcell : ∀ (j : Nat) x, l[j]? = some x → us[j]? = some (.int .u8 (x : Nat)) := fun j x hj => by
        obtain ⟨hj', rfl⟩ := List.getElem?_eq_some_iff.1 hj
        have hju : j < us.length := by omega
        have := q2 j (by simpa [u8s] using hj')
        rw [List.getD_eq_getElem?_getD, List.getElem?_eq_getElem hju, Option.getD_some] at this
        have e : (u8s (l.map fun (n : Nat) => (n : Int)))[j]'(by simpa [u8s] using hj') = u8 ((l[j] : Nat) : Int) := by simp [u8s]
        rw [e] at this
        rw [List.getElem?_eq_getElem hju, this.val_inv]
      obtain ⟨x0, hx0⟩ : ∃ x0, l[0]? = some x0 := by
        cases l with
        | nil => exact absurd rfl h0
        | cons a b => exact ⟨a, rfl⟩
      obtain ⟨p, o, hA, hI, _⟩ := q4 0 _ (hcell 0 x0 hx0)
      subst hA
      refine shown_calls p o cap l hl q6 hb w hI fun j x hj => ?_
      obtain ⟨p', o', hA', _, hc⟩ := q4 j _ (hcell j x hj)
      cases hA'
      exact hc
end Go.Proofs.YtieoaeidlcdggaaGreatDoor

namespace Go.Proofs.YtieoaeidlcdggaaGreatDoor
open Go Go.Ab
set_option linter.unusedSimpArgs false
set_option linter.unusedVariables false
set_option maxRecDepth 100000
def sRef : ByteArray := ⟨#[114, 101, 102, 117, 115, 101, 100]⟩
theorem con_outcome : Con Tryz.prog 38 [] [u8 2] [] (strV sRef) := by
  refine Con.of (C := ⟨Tryz.prog, tc, Tryz.f38.ntmps⟩) [] tcok Tryz.func38 rfl rfl (by kernel_rfl) (by kernel_rfl) ?_
  refine AWP.seq ?_
  refine AWP.regionT tcok hmix [] [0, 2] [] (os := []) (s' := St.mk [(0, tp (u8 2)), (2, tp (V.val (Value.string (ByteArray.mk #[]))))] []) (by kernel_rfl) trivial ?_
  refine AWP.seq ?_
  refine xe0 [2, 3] [] (by kernel_rfl) ?_
  refine AWP.block ?_
  refine xe0 [2, 3, 4] [] (by kernel_rfl) ?_
  refine AWP.condF (by kernel_rfl) ?_
  refine xe0 [2, 3, 6] [] (by kernel_rfl) ?_
  refine AWP.condT (by kernel_rfl) ?_
  refine xe0 [2] [] (by kernel_rfl) ?_
  refine AWP.ret ?_
  refine ⟨Or.inr rfl, Eq.trans (b := some ([], V.val (Value.string (ByteArray.mk #[114, 101, 102, 117, 115, 101, 100])))) (by kernel_rfl) ?_⟩
  rfl
def d4 : List Int := [24, 3, 192, 0]
def d5 : List Int := [24, 3, 192, 0, 4]
def repV : V := .agg true [u8 1, u8 2, u16 0, u32 0, .vs (u8s d5) 5]
def sTold : ByteArray := ⟨#[114, 101, 102, 117, 115, 101, 100, 32, 52, 32, 49, 56, 48, 51, 99, 48, 48, 48]⟩
theorem con_verified : Con Tryz.prog 27 [] [repV] [] (.tup [strV sTold, vb true]) := by
  have c1 := con_outcome
  have c2 := con_spaced sRef [4] (by simp) (by decide) (by decide)
  have c3 := con_shown [24, 3, 192, 0] (by decide) (by decide) (by decide)
  refine Con.of (C := ⟨Tryz.prog, tc, Tryz.f27.ntmps⟩) [] tcok Tryz.func27 rfl rfl (by kernel_rfl) (by kernel_rfl) ?_
  refine AWP.seq ?_
  refine AWP.regionT tcok hmix [] [1, 2, 3] [1] (os := []) (s' := St.mk [(1, tp (V.ptr 1 0)), (2, tp (V.val (Value.string (ByteArray.mk #[])))), (3, tp (vb false))] [(1, Blk.mk [u8 1, u8 2, u16 0, u32 0, V.vs [u8 24, u8 3, u8 192, u8 0, u8 4] 5] true 5 none)]) (by kernel_rfl) trivial ?_
  refine xe1 (os := [Con Tryz.prog 38 [] [u8 2] [] (V.val (Value.string sRef))]) [(2, ⟨none, some ⟨strV sRef, [], []⟩⟩)] [1, 2, 3, 4] [1] (by kernel_rfl) ⟨(c1 ), trivial⟩ ?_
  refine xe0 [1, 2, 3, 4, 5] [1] (by kernel_rfl) ?_
  refine AWP.seq ?_
  refine AWP.block ?_
  refine xe0 [1, 2, 3, 4, 5, 17] [1] (by kernel_rfl) ?_
  refine AWP.condF (by kernel_rfl) ?_
  refine xe0 [1, 2, 3, 4, 5, 25] [1] (by kernel_rfl) ?_
  refine AWP.condT (by kernel_rfl) ?_
  refine xe1 (os := [VO (V.val (Value.string (spd sRef [(4 : Int)]))), VOH [], Con Tryz.prog 30 [] [V.val (Value.string sRef), V.vs [u8 4] 1] [] (V.val (Value.string (spd sRef [4]))), (0 : Nat) = (0 : Nat), (1 : Nat) = (1 : Nat), Con Tryz.prog 39 [] [V.vs [u8 24, u8 3, u8 192, u8 0] 4] [] (V.val (Value.string (bb (hexL [24, 3, 192, 0]))))]) [(6, ⟨none, some ⟨strV (spd sRef [4]), [], [(38, true)]⟩⟩), (11, ⟨none, some ⟨strV (bb (hexL [24, 3, 192, 0])), [], []⟩⟩)] [2, 3] [] (by kernel_rfl) ⟨(VO.val _), trivial, (c2 ), (by omega), (by omega), (c3 ), trivial⟩ ?_
  refine AWP.ret ?_
  refine ⟨Or.inr rfl, Eq.trans (b := some ([], V.tup [V.val (Value.string (spd sRef [4] ++ ByteArray.mk #[32] ++ bb (hexL [24, 3, 192, 0]))), vb true])) (by kernel_rfl) ?_⟩
  rfl
theorem con_tell : Con Tryz.prog 13 [] [repV] [] (strV sTold) := by
  refine Con.of (C := ⟨Tryz.prog, tc, Tryz.f13.ntmps⟩) [] tcok Tryz.func13 rfl rfl (by kernel_rfl) (by kernel_rfl) ?_
  refine AWP.seq ?_
  refine AWP.regionT tcok hmix [] [1, 2] [1] (os := []) (s' := St.mk [(1, tp (V.ptr 1 0)), (2, tp (V.val (Value.string (ByteArray.mk #[]))))] [(1, Blk.mk [u8 1, u8 2, u16 0, u32 0, V.vs [u8 24, u8 3, u8 192, u8 0, u8 4] 5] true 5 none)]) (by kernel_rfl) trivial ?_
  refine AWP.seq ?_
  refine xe1 [(1, ⟨none, some ⟨V.tup [strV sTold, vb true], [], []⟩⟩)] [1, 2, 3, 4] [1] (by kernel_rfl) (AllP.c (con_verified ) AllP.n) ?_
  refine xe0 [1, 2, 3, 14] [1] (by kernel_rfl) ?_
  refine AWP.condT (by kernel_rfl) ?_
  refine xe0 [1, 2] [1] (by kernel_rfl) ?_
  refine AWP.ret ?_
  refine ⟨Or.inr rfl, Eq.trans (b := some ([], V.val (Value.string sTold))) (by kernel_rfl) ?_⟩
  rfl
def sHeal : ByteArray := ⟨#[104, 101, 97, 108, 32, 51]⟩
def wHeal : Wd := ⟨⟨#[104, 101, 97, 108]⟩, 128, 2, 1⟩
theorem say_heal : sayO sHeal = some (wHeal, [3]) := by kernel_rfl
theorem con_awake : Con Tryz.prog 4 [] [] [] (vb true) := by
  have c1 := con_say sHeal (by decide) wHeal [3] say_heal
  have c2 := con_tell
  refine Con.of (C := ⟨Tryz.prog, tc, Tryz.f4.ntmps⟩) [] tcok Tryz.func4 rfl rfl (by kernel_rfl) (by kernel_rfl) ?_
  refine AWP.seq ?_
  refine AWP.regionT tcok hmix [] [0] [] (os := []) (s' := St.mk [(0, tp (vb false))] []) (by kernel_rfl) trivial ?_
  refine xe1 (os := [Con Tryz.prog 12 [] [V.val (Value.string (ByteArray.mk #[104, 101, 97, 108, 32, 51]))] [(5, Blk.mk [u8 3] true 0 (some (5, 1)))] (V.tup [V.agg false [u8 9, u8 128, u8 2, u16 0, V.sl 5 0 1], i64 0])]) [(0, ⟨none, some ⟨V.tup [V.agg false [u8 9, u8 wHeal.a, u8 wHeal.b, u16 0, V.sl 5 0 (List.length [3])], i64 0], [(5, Blk.mk (u8s [3]) true 0 (some (5, 1)))], []⟩⟩)] [0, 1, 2] [1, 50005] (by kernel_rfl) ⟨(c1 ), trivial⟩ ?_
  refine xe1 (os := [true = true → VO (V.val (Value.string sTold)) ∧ VOH [] ∧ Con Tryz.prog (13 : Nat) [] [V.agg true [u8 (1 : Int), u8 (2 : Int), u16 (0 : Int), u32 (0 : Int), V.vs [u8 (24 : Int), u8 (3 : Int), u8 (192 : Int), u8 (0 : Int), u8 (4 : Int)] (5 : Nat)]] [] (V.val (Value.string sTold)) ∧ (0 : Nat) = (0 : Nat) ∧ True]) [(28, ⟨none, some ⟨strV sTold, [], [(33, true)]⟩⟩)] [0] [] (by kernel_rfl) ⟨(by intro hc0; first | (cases hc0; done) | ((try simp only [Bool.or_false, Bool.false_or, Bool.true_and, Bool.and_true, decide_eq_true_eq, decide_eq_false_iff_not, Bool.and_eq_true, Bool.or_eq_true, Bool.or_eq_false_iff, Bool.not_eq_true', Bool.and_eq_false_iff, beq_iff_eq, bne_iff_ne, bne_eq_false_iff_eq, beq_eq_false_iff_ne, Bool.not_eq_false'] at hc0); exact ⟨(VO.val _), trivial, (c2 ), (by omega), trivial⟩)), trivial⟩ ?_
  refine AWP.ret ?_
  refine ⟨Or.inr rfl, Eq.trans (b := some ([], vb true)) (by kernel_rfl) ?_⟩
  rfl
end Go.Proofs.YtieoaeidlcdggaaGreatDoor
