/- A plan: what is deleted, what is due. -/
import Derived.Test.YtlfjnkobnkfioaaRg
import Derived.Test.YtlfjnkobnkfioaaPlnI
namespace Go.Proofs.Ytlfjnkobnkfioaa
open Go.Ab
set_option maxRecDepth 100000
set_option maxHeartbeats 8000000
set_option linter.unusedSimpArgs false
set_option linter.unusedVariables false
theorem posI_get {t : Int} : ∀ {R : List It} {i : Nat} {a : It}, R[i]? = some a → i ≤ posI t R → (a.t ≤ t → i + 1 ≤ posI t R) ∧ (t < a.t → posI t R = i)
  | [], _, _, h, _ => by simp at h
  | b :: r, 0, a, h, _ => by
    simp at h
    subst h
    refine ⟨fun e => ?_, fun e => ?_⟩
    · simp only [posI, if_pos e]; omega
    · simp only [posI, if_neg (show ¬ b.t ≤ t by omega)]
  | b :: r, i + 1, a, h, hi => by
    simp only [posI] at hi ⊢
    split at hi
    · rename_i hb
      rw [if_pos hb]
      have := posI_get (t := t) (R := r) (i := i) (by simpa using h) (by omega)
      exact ⟨fun e => by have := this.1 e; omega, fun e => by have := this.2 e; omega⟩
    · omega
theorem rowsI_t {R : List It} {i : Nat} {a : It} (h : R[i]? = some a) : gI (rowsI R) (0 + i * 3 + 0) = u32 a.t := by
  have hd := rowsI_dr h
  have h0 := congrArg (fun l => l[0]?) hd
  simp only [List.getElem?_drop, List.getElem?_cons_zero, Nat.add_zero] at h0
  unfold gI
  rw [List.getD_eq_getElem?_getD, show 0 + i * 3 + 0 = i * 3 by omega, h0]
  rfl
theorem con_late (L : List It) (n : Nat) (hn : L.length = n) (hm : n ≤ 1000) (K : List Int) (off : Bool) (t : Int) (p : Nat) (hp : posI t L = p) :
    Con Try.prog 48 [(2000000000, ⟨rowsI L, true, 0, some (79, 3)⟩), (2000000010, ⟨[.sl 2000000000 0 n, .mp 2000000011, vb off], false, 3, none⟩), (2000000011, ⟨idsC K, true, 0, some (0, 0)⟩)] [.ptr 2000000010 0, u32 t]
      [(2000000000, ⟨rowsI L, true, 0, some (79, 3)⟩), (2000000010, ⟨[.sl 2000000000 0 n, .mp 2000000011, vb off], false, 3, none⟩), (2000000011, ⟨idsC K, true, 0, some (0, 0)⟩)] (i64 (p : Int)) := by
  subst hp
  have hrl := rowsI_len L
  have hpl := posI_le t L
  refine Con.of (C := ⟨Try.prog, tc, Try.f48.ntmps⟩) [2000000000, 2000000010, 2000000011] tcok Try.func48 rfl rfl (by kernel_rfl) (by kernel_rfl) ?_
  refine AWP.seq ?_
  refine AWP.regionT tcok hmix [] [0, 1, 4] [2000000000, 2000000010, 2000000011] (os := []) (s' := St.mk [(0, tp (V.ptr 2000000010 0)), (1, tp (u32 t)), (4, tp (i64 0))] [(2000000000, Blk.mk (rowsI L) true 0 (some (79, 3))), (2000000010, Blk.mk [V.sl 2000000000 0 n, V.mp 2000000011, vb off] false 3 none), (2000000011, Blk.mk (idsC K) true 0 (some (0, 0)))]) (by kernel_rfl) trivial ?_
  refine xe0 [0, 1, 4, 5] [2000000000, 2000000010, 2000000011] (by kernel_rfl) ?_
  refine AWP.seq ?_
  refine AWP.block ?_
  refine AWP.loopI [5, 0, 1, 4] [2000000000, 2000000010, 2000000011] (fun N s' => ∃ i : Int, s' = St.mk [(0, T.plain (V.ptr 2000000010 0)), (1, T.plain (u32 t)), (4, T.plain (i64 0)), (5, T.plain (i64 i))] [(2000000000, Blk.mk (rowsI L) true 0 (some (79, 3))), (2000000010, Blk.mk [V.sl 2000000000 0 n, V.mp 2000000011, vb off] false 3 none), (2000000011, Blk.mk (idsC K) true 0 (some (0, 0)))] ∧ 0 ≤ i ∧ i.toNat ≤ posI t L ∧ (N : Int) = n - i) n (s0 := St.mk [(0, T.plain (V.ptr 2000000010 0)), (1, T.plain (u32 t)), (4, T.plain (i64 0)), (5, T.plain (i64 0))] [(2000000000, Blk.mk (rowsI L) true 0 (some (79, 3))), (2000000010, Blk.mk [V.sl 2000000000 0 n, V.mp 2000000011, vb off] false 3 none), (2000000011, Blk.mk (idsC K) true 0 (some (0, 0)))]) (by kernel_rfl) ?_ ?_
  · exact ⟨0, rfl, by omega, by simp, by omega⟩
  rintro N s' ⟨i, rfl, hi, hip, hN⟩
  by_cases hlt : i < n
  · obtain ⟨a, ha⟩ : ∃ a, L[i.toNat]? = some a := ⟨_, List.getElem?_eq_getElem (by omega)⟩
    have wg := rowsI_t ha
    have wb : decide (i < (n : Int)) = true := decide_eq_true hlt
    obtain ⟨f1, f2⟩ := posI_get (t := t) ha hip
    by_cases hat : a.t ≤ t
    · have f1 := f1 hat
      refine AWP.seq ?_
      refine AWP.seq ?_
      refine AWP.regionT tcok hmix [(6, ⟨some (vb true), none⟩), (13, ⟨some (V.ptr 2000000000 (0 + Int.toNat i * 3)), none⟩), (15, ⟨some (u32 a.t), none⟩)] [0, 1, 4, 5, 24] [2000000000, 2000000010, 2000000011] (os := [vb (decide (i < (↑n : Int))) = vb true, true = true → ((0 : Int) ≤ i ∧ i < (↑n : Int)) ∧ V.ptr (2000000000 : Nat) ((0 : Nat) + Int.toNat i * (3 : Nat)) = V.ptr (2000000000 : Nat) ((0 : Nat) + Int.toNat i * (3 : Nat)) ∧ True, true = true → (0 : Nat) + Int.toNat i * (3 : Nat) + (0 : Nat) + (1 : Nat) ≤ List.length (rowsI L) ∧ part_ true (isRow (TypeDesc.int IntKind.u32)) (rowsI L) ((0 : Nat) + Int.toNat i * (3 : Nat) + (0 : Nat)) (1 : Nat) = u32 a.t ∧ True]) (s' := St.mk [(0, tp (V.ptr 2000000010 0)), (1, tp (u32 t)), (4, tp (i64 0)), (5, tp (i64 i)), (24, tp (vb (true && decide (a.t ≤ t))))] [(2000000000, Blk.mk (rowsI L) true 0 (some (79, 3))), (2000000010, Blk.mk [V.sl 2000000000 0 n, V.mp 2000000011, vb off] false 3 none), (2000000011, Blk.mk (idsC K) true 0 (some (0, 0)))]) (by kernel_rfl) ⟨(congrArg (fun b => V.val (Value.bool b)) wb), (by intro hc0; first | (cases hc0; done) | ((try simp only [Bool.or_false, Bool.false_or, Bool.true_and, Bool.and_true, decide_eq_true_eq, decide_eq_false_iff_not, Bool.and_eq_true, Bool.or_eq_true, Bool.or_eq_false_iff, Bool.not_eq_true', Bool.and_eq_false_iff, beq_iff_eq, bne_iff_ne, bne_eq_false_iff_eq, beq_eq_false_iff_ne, Bool.not_eq_false'] at hc0); exact ⟨(by omega), rfl, trivial⟩)), (by intro hc0; first | (cases hc0; done) | ((try simp only [Bool.or_false, Bool.false_or, Bool.true_and, Bool.and_true, decide_eq_true_eq, decide_eq_false_iff_not, Bool.and_eq_true, Bool.or_eq_true, Bool.or_eq_false_iff, Bool.not_eq_true', Bool.and_eq_false_iff, beq_iff_eq, bne_iff_ne, bne_eq_false_iff_eq, beq_eq_false_iff_ne, Bool.not_eq_false'] at hc0); exact ⟨(by first | omega | (simp [len_u8s]; done) | (simp [len_u8s]; omega)), (wg ), trivial⟩)), trivial⟩ ?_
      refine AWP.cond (b := true && decide (a.t ≤ t)) (by kernel_rfl) (fun hq2 => ?_) (fun hq2 => ?_)
      · simp only [Bool.true_and, decide_eq_true_eq] at hq2
        refine AWP.skip ?_
        refine AWP.block ?_
        refine AWP.region tcok hmix [(1, ⟨some (i64 (i + 1)), none⟩)] (os := [i64 (IntKind.wrap IntKind.i64 (i + 1)) = i64 (i + 1)]) (sf := St.mk [(0, tp (V.ptr 2000000010 0)), (1, tp (u32 t)), (4, tp (i64 0)), (5, tp (i64 (i + 1))), (24, tp (vb (true && decide (a.t ≤ t)))), (25, tp (i64 i)), (26, tp (i64 (i + 1)))] [(2000000000, Blk.mk (rowsI L) true 0 (some (79, 3))), (2000000010, Blk.mk [V.sl 2000000000 0 n, V.mp 2000000011, vb off] false 3 none), (2000000011, Blk.mk (idsC K) true 0 (some (0, 0)))]) (by kernel_rfl) ⟨(wr_i64 (by omega) (by omega)), trivial⟩ ?_
        refine ⟨St.mk [(0, tp (V.ptr 2000000010 0)), (1, tp (u32 t)), (4, tp (i64 0)), (5, tp (i64 (i + 1)))] [(2000000000, Blk.mk (rowsI L) true 0 (some (79, 3))), (2000000010, Blk.mk [V.sl 2000000000 0 n, V.mp 2000000011, vb off] false 3 none), (2000000011, Blk.mk (idsC K) true 0 (some (0, 0)))], by kernel_rfl, ?_⟩
        first | (exact ⟨(n - (i + 1)).toNat, (by omega), i + 1, rfl, (by omega), (by omega), (by omega)⟩) | (exfalso; omega)
      simp only [Bool.true_and, decide_eq_false_iff_not] at hq2
      (exfalso; omega)
    · have f2 := f2 (by omega)
      have hii : i = ((posI t L : Nat) : Int) := by omega
      rw [← hii]
      refine AWP.seq ?_
      refine AWP.seq ?_
      refine AWP.regionT tcok hmix [(6, ⟨some (vb true), none⟩), (13, ⟨some (V.ptr 2000000000 (0 + Int.toNat i * 3)), none⟩), (15, ⟨some (u32 a.t), none⟩)] [0, 1, 4, 5, 24] [2000000000, 2000000010, 2000000011] (os := [vb (decide (i < (↑n : Int))) = vb true, true = true → ((0 : Int) ≤ i ∧ i < (↑n : Int)) ∧ V.ptr (2000000000 : Nat) ((0 : Nat) + Int.toNat i * (3 : Nat)) = V.ptr (2000000000 : Nat) ((0 : Nat) + Int.toNat i * (3 : Nat)) ∧ True, true = true → (0 : Nat) + Int.toNat i * (3 : Nat) + (0 : Nat) + (1 : Nat) ≤ List.length (rowsI L) ∧ part_ true (isRow (TypeDesc.int IntKind.u32)) (rowsI L) ((0 : Nat) + Int.toNat i * (3 : Nat) + (0 : Nat)) (1 : Nat) = u32 a.t ∧ True]) (s' := St.mk [(0, tp (V.ptr 2000000010 0)), (1, tp (u32 t)), (4, tp (i64 0)), (5, tp (i64 i)), (24, tp (vb (true && decide (a.t ≤ t))))] [(2000000000, Blk.mk (rowsI L) true 0 (some (79, 3))), (2000000010, Blk.mk [V.sl 2000000000 0 n, V.mp 2000000011, vb off] false 3 none), (2000000011, Blk.mk (idsC K) true 0 (some (0, 0)))]) (by kernel_rfl) ⟨(congrArg (fun b => V.val (Value.bool b)) wb), (by intro hc0; first | (cases hc0; done) | ((try simp only [Bool.or_false, Bool.false_or, Bool.true_and, Bool.and_true, decide_eq_true_eq, decide_eq_false_iff_not, Bool.and_eq_true, Bool.or_eq_true, Bool.or_eq_false_iff, Bool.not_eq_true', Bool.and_eq_false_iff, beq_iff_eq, bne_iff_ne, bne_eq_false_iff_eq, beq_eq_false_iff_ne, Bool.not_eq_false'] at hc0); exact ⟨(by omega), rfl, trivial⟩)), (by intro hc0; first | (cases hc0; done) | ((try simp only [Bool.or_false, Bool.false_or, Bool.true_and, Bool.and_true, decide_eq_true_eq, decide_eq_false_iff_not, Bool.and_eq_true, Bool.or_eq_true, Bool.or_eq_false_iff, Bool.not_eq_true', Bool.and_eq_false_iff, beq_iff_eq, bne_iff_ne, bne_eq_false_iff_eq, beq_eq_false_iff_ne, Bool.not_eq_false'] at hc0); exact ⟨(by first | omega | (simp [len_u8s]; done) | (simp [len_u8s]; omega)), (wg ), trivial⟩)), trivial⟩ ?_
      refine AWP.cond (b := true && decide (a.t ≤ t)) (by kernel_rfl) (fun hq3 => ?_) (fun hq3 => ?_)
      · simp only [Bool.true_and, decide_eq_true_eq] at hq3
        (exfalso; omega)
      simp only [Bool.true_and, decide_eq_false_iff_not] at hq3
      refine AWP.exit ?_
      refine AWP.seq ?_
      refine AWP.regionT tcok hmix [] [4] [2000000000, 2000000010, 2000000011] (os := []) (s' := St.mk [(4, tp (i64 i))] [(2000000000, Blk.mk (rowsI L) true 0 (some (79, 3))), (2000000010, Blk.mk [V.sl 2000000000 0 n, V.mp 2000000011, vb off] false 3 none), (2000000011, Blk.mk (idsC K) true 0 (some (0, 0)))]) (by kernel_rfl) trivial ?_
      refine AWP.ret ?_
      refine ⟨Or.inr rfl, Eq.trans (b := some ([(2000000000, Blk.mk (rowsI L) true 0 (some (79, 3))), (2000000010, Blk.mk [V.sl 2000000000 0 n, V.mp 2000000011, vb off] false 3 none), (2000000011, Blk.mk (idsC K) true 0 (some (0, 0)))], i64 i)) (by kernel_rfl) ?_⟩
      first | rfl | (exfalso; omega)
  have hii : i = ((posI t L : Nat) : Int) := by omega
  have wb : decide (i < (n : Int)) = false := decide_eq_false hlt
  rw [← hii]
  refine AWP.seq ?_
  refine AWP.seq ?_
  refine AWP.regionT tcok hmix [(6, ⟨some (vb false), none⟩), (13, ⟨some (V.ptr 2000000000 (0 + Int.toNat i * 3)), none⟩), (15, ⟨some (u32 0), none⟩)] [0, 1, 4, 5, 24] [2000000000, 2000000010, 2000000011] (os := [vb (decide (i < (↑n : Int))) = vb false, false = true → ((0 : Int) ≤ i ∧ i < (↑n : Int)) ∧ V.ptr (2000000000 : Nat) ((0 : Nat) + Int.toNat i * (3 : Nat)) = V.ptr (2000000000 : Nat) ((0 : Nat) + Int.toNat i * (3 : Nat)) ∧ True, false = true → (0 : Nat) + Int.toNat i * (3 : Nat) + (0 : Nat) + (1 : Nat) ≤ List.length (rowsI L) ∧ part_ true (isRow (TypeDesc.int IntKind.u32)) (rowsI L) ((0 : Nat) + Int.toNat i * (3 : Nat) + (0 : Nat)) (1 : Nat) = u32 (0 : Int) ∧ True]) (s' := St.mk [(0, tp (V.ptr 2000000010 0)), (1, tp (u32 t)), (4, tp (i64 0)), (5, tp (i64 i)), (24, tp (vb false))] [(2000000000, Blk.mk (rowsI L) true 0 (some (79, 3))), (2000000010, Blk.mk [V.sl 2000000000 0 n, V.mp 2000000011, vb off] false 3 none), (2000000011, Blk.mk (idsC K) true 0 (some (0, 0)))]) (by kernel_rfl) ⟨(congrArg (fun b => V.val (Value.bool b)) wb), (by intro hc0; first | (cases hc0; done) | ((try simp only [Bool.or_false, Bool.false_or, Bool.true_and, Bool.and_true, decide_eq_true_eq, decide_eq_false_iff_not, Bool.and_eq_true, Bool.or_eq_true, Bool.or_eq_false_iff, Bool.not_eq_true', Bool.and_eq_false_iff, beq_iff_eq, bne_iff_ne, bne_eq_false_iff_eq, beq_eq_false_iff_ne, Bool.not_eq_false'] at hc0); exact ⟨(by first | omega | (simp [len_u8s]; omega) | (simp [len_u8s]; done)), rfl, trivial⟩)), (by intro hc0; first | (cases hc0; done) | ((try simp only [Bool.or_false, Bool.false_or, Bool.true_and, Bool.and_true, decide_eq_true_eq, decide_eq_false_iff_not, Bool.and_eq_true, Bool.or_eq_true, Bool.or_eq_false_iff, Bool.not_eq_true', Bool.and_eq_false_iff, beq_iff_eq, bne_iff_ne, bne_eq_false_iff_eq, beq_eq_false_iff_ne, Bool.not_eq_false'] at hc0); exact ⟨(by first | omega | (simp [len_u8s]; omega) | (simp [len_u8s]; done)), (by exfalso; omega), trivial⟩)), trivial⟩ ?_
  refine AWP.condF (by kernel_rfl) ?_
  refine AWP.exit ?_
  refine xe0 [4] [2000000000, 2000000010, 2000000011] (by kernel_rfl) ?_
  refine AWP.ret ?_
  refine ⟨Or.inr rfl, Eq.trans (b := some ([(2000000000, Blk.mk (rowsI L) true 0 (some (79, 3))), (2000000010, Blk.mk [V.sl 2000000000 0 n, V.mp 2000000011, vb off] false 3 none), (2000000011, Blk.mk (idsC K) true 0 (some (0, 0)))], i64 i)) (by kernel_rfl) ?_⟩
  first | rfl | (exfalso; omega)
end Go.Proofs.Ytlfjnkobnkfioaa
