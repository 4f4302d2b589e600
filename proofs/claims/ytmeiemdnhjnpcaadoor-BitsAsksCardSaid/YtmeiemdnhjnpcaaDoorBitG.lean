/- Chapter 04: the document's text of a list; two lists that are alike. -/
import Derived.Test.YtmeiemdnhjnpcaaDoorRg
import Derived.Test.YtmeiemdnhjnpcaaDoorBitT
namespace Go.Proofs.YtmeiemdnhjnpcaaDoor
open Go Go.Ab
set_option linter.unusedSimpArgs false
set_option linter.unusedVariables false
set_option maxHeartbeats 4000000
set_option maxRecDepth 100000
theorem con_dec (x : Fin 16) : Con Tryd.prog 32 [] [u64 ((x.val : Nat) : Int)] [] (.val (.string (dg x))) := by
  obtain ⟨v, h⟩ := x
  rcases (by omega : v = 0 ∨ v = 1 ∨ v = 2 ∨ v = 3 ∨ v = 4 ∨ v = 5 ∨ v = 6 ∨ v = 7 ∨ v = 8 ∨ v = 9 ∨ v = 10 ∨ v = 11 ∨ v = 12 ∨ v = 13 ∨ v = 14 ∨ v = 15) with rfl | rfl | rfl | rfl | rfl | rfl | rfl | rfl | rfl | rfl | rfl | rfl | rfl | rfl | rfl | rfl
  · exact run_con (r := .val (.string (dg 0))) tcok (by kernel_rfl) 400 8 (by kernel_rfl)
  · exact run_con (r := .val (.string (dg 1))) tcok (by kernel_rfl) 400 8 (by kernel_rfl)
  · exact run_con (r := .val (.string (dg 2))) tcok (by kernel_rfl) 400 8 (by kernel_rfl)
  · exact run_con (r := .val (.string (dg 3))) tcok (by kernel_rfl) 400 8 (by kernel_rfl)
  · exact run_con (r := .val (.string (dg 4))) tcok (by kernel_rfl) 400 8 (by kernel_rfl)
  · exact run_con (r := .val (.string (dg 5))) tcok (by kernel_rfl) 400 8 (by kernel_rfl)
  · exact run_con (r := .val (.string (dg 6))) tcok (by kernel_rfl) 400 8 (by kernel_rfl)
  · exact run_con (r := .val (.string (dg 7))) tcok (by kernel_rfl) 400 8 (by kernel_rfl)
  · exact run_con (r := .val (.string (dg 8))) tcok (by kernel_rfl) 400 8 (by kernel_rfl)
  · exact run_con (r := .val (.string (dg 9))) tcok (by kernel_rfl) 400 8 (by kernel_rfl)
  · exact run_con (r := .val (.string (dg 10))) tcok (by kernel_rfl) 400 8 (by kernel_rfl)
  · exact run_con (r := .val (.string (dg 11))) tcok (by kernel_rfl) 400 8 (by kernel_rfl)
  · exact run_con (r := .val (.string (dg 12))) tcok (by kernel_rfl) 400 8 (by kernel_rfl)
  · exact run_con (r := .val (.string (dg 13))) tcok (by kernel_rfl) 400 8 (by kernel_rfl)
  · exact run_con (r := .val (.string (dg 14))) tcok (by kernel_rfl) 400 8 (by kernel_rfl)
  · exact run_con (r := .val (.string (dg 15))) tcok (by kernel_rfl) 400 8 (by kernel_rfl)
def rT (xs : List (Fin 16)) : ByteArray := if xs = [] then ⟨#[]⟩ else joinT xs
theorem rT_one (x : Fin 16) : rT ([] ++ [x]) = ⟨#[]⟩ ++ dg x := by
  have e : rT ([] ++ [x]) = dg x := by
    unfold rT joinT
    simp [Lib.join, List.intercalate]
  rw [e]
  apply ByteArray.ext
  simp
theorem rT_more (xs : List (Fin 16)) (x : Fin 16) (h : xs ≠ []) : rT (xs ++ [x]) = (rT xs ++ ⟨#[32]⟩) ++ dg x := by
  obtain ⟨y, r, rfl⟩ : ∃ y r, xs = y :: r := by
    cases xs with
    | nil => exact absurd rfl h
    | cons y r => exact ⟨y, r, rfl⟩
  unfold rT
  rw [if_neg (by simp), if_neg (by simp)]
  unfold joinT
  apply ByteArray.ext
  simp [Lib.join_cons, Lib.joinTail]
theorem rT_end (xs : List (Fin 16)) : rT xs = ⟨#[]⟩ ↔ xs = [] := by
  unfold rT
  constructor
  · intro h
    by_cases e : xs = []
    · exact e
    · rw [if_neg e] at h
      obtain ⟨y, r, rfl⟩ : ∃ y r, xs = y :: r := by
        cases xs with
        | nil => exact absurd rfl e
        | cons y r => exact ⟨y, r, rfl⟩
      exfalso
      have h2 := congrArg (fun b => b.data.toList) h
      unfold joinT at h2
      simp [Lib.join_cons] at h2
      have : ∀ z : Fin 16, dgL z.val ≠ [] := by decide
      have := this y
      simp [dg] at h2
      exact this h2.1
  · rintro rfl
    rfl
theorem rT_size (xs : List (Fin 16)) (h : xs.length ≤ 16) : (rT xs).size ≤ 48 := by
  unfold rT
  split
  · decide
  · have := join_le xs
    have e : (joinT xs).size = (Lib.join ((xs.map dg).map (·.data.toList)) [32]).length := by
      unfold joinT
      show (Lib.join ((xs.map dg).map (·.data.toList)) [32]).toArray.size = _
      simp
    omega
theorem dg_size (x : Fin 16) : (dg x).size ≤ 2 := by
  revert x
  decide
theorem lst_upsF (s : Int) : lst s 16 = (upsF s 0).map fun (x : Fin 16) => i64 ((x.val : Nat) : Int) := by
  rw [lst_ups, ← upsF_val s 16 0 rfl, List.map_map]
  rfl
theorem upsF_at (s : Int) (p : Nat) (hp : p < (upsF s 0).length) : ∃ (x : Fin 16) (r : List V), (lst s 16).drop (p * 1) = i64 ((x.val : Nat) : Int) :: r ∧ (upsF s 0).take (p + 1) = (upsF s 0).take p ++ [x] ∧ (upsF s 0)[p]? = some x := by
  refine ⟨(upsF s 0)[p], (lst s 16).drop (p + 1), ?_, ?_, List.getElem?_eq_getElem hp⟩
  · have hl : p < (lst s 16).length := by rw [lst_upsF, List.length_map]; exact hp
    rw [Nat.mul_one, List.drop_eq_getElem_cons hl]
    congr 1
    simp only [lst_upsF, List.getElem_map]
  · rw [List.take_add_one, List.getElem?_eq_getElem hp]
    rfl
theorem con_rtext (s : Int) (A : List V) (k : Nat) (hA : lst s 16 = A) (hk : A.length = k) : Con Tryd.prog 19 [] [.vs A k] [] (.val (.string (txt (upsF s 0)))) := by
  have hl : (upsF s 0).length = k := by rw [← hk, ← hA, lst_upsF, List.length_map]
  have hk16 : k ≤ 16 := by rw [← hl]; exact upsF_len s
  refine Con.of (C := ⟨Tryd.prog, tc, Tryd.f19.ntmps⟩) [] tcok Tryd.func19 rfl rfl (by kernel_rfl) (by kernel_rfl) ?_
  refine xe0 [0, 2] [] (by kernel_rfl) ?_
  refine xe0 [0, 2, 3] [] (by kernel_rfl) ?_
  refine AWP.seq ?_
  refine xe0 [2, 3, 6, 7, 8] [] (by kernel_rfl) ?_
  refine AWP.block ?_
  refine AWP.loopI [2, 3, 6, 7, 8] [] (fun N st => ∃ (p : Int) (o : ByteArray), st = St.mk [(2, T.plain (V.val (Value.string (ByteArray.mk #[])))), (3, T.plain (V.val (Value.string o))), (6, T.plain (V.vs A k)), (7, T.plain (i64 (k : Int))), (8, T.plain (i64 p))] [] ∧ o = rT ((upsF s 0).take p.toNat) ∧ 0 ≤ p ∧ p ≤ k ∧ (N : Int) = k - p) k (s0 := St.mk [(2, T.plain (V.val (Value.string (ByteArray.mk #[])))), (3, T.plain (V.val (Value.string (ByteArray.mk #[])))), (6, T.plain (V.vs A k)), (7, T.plain (i64 (k : Int))), (8, T.plain (i64 0))] []) (by kernel_rfl) ?_ ?_
  · exact ⟨0, ByteArray.mk #[], rfl, rfl, by omega, by omega, by omega⟩
  rintro N st ⟨p, o, rfl, ho, hp, hp2, hN⟩
  have hos : o.size ≤ 48 := by rw [ho]; exact rT_size _ (by rw [List.length_take]; omega)
  by_cases hlt : p < k
  · obtain ⟨x, r, kx, hn, _⟩ := upsF_at s p.toNat (by omega)
    rw [hA] at kx
    have hx := x.isLt
    have c := con_dec x
    have hd := dg_size x
    have hs0 : ByteArray.size (ByteArray.mk #[32]) = 1 := rfl
    have hs1 : (o ++ ⟨#[32]⟩).size = o.size + 1 := by
      simp [ByteArray.size_append]
      rfl
    by_cases h0 : p = 0
    · subst h0
      have ho2 : o = ⟨#[]⟩ := ho
      subst ho2
      refine xe0 [2, 3, 6, 7, 8, 9] [] (by kernel_rfl) ?_
      refine AWP.seq ?_
      refine AWP.cond (b := decide (0 < (↑k : Int))) (by kernel_rfl) (fun hq0 => ?_) (fun hq0 => ?_)
      · simp only [decide_eq_true_eq] at hq0
        refine AWP.skip ?_
        refine AWP.seq ?_
        refine AWP.block ?_
        refine xe1 (os := [(0 : Int) ≤ (0 : Int) ∧ (0 : Int) < (↑k : Int), V.vp (List.drop (Int.toNat 0 * 1) A) = V.vp (i64 (↑(↑x : Nat) : Int) :: r)]) [(1, ⟨some (V.vp (i64 (↑(↑x : Nat) : Int) :: r)), none⟩)] [2, 3, 4, 5, 6, 7, 8] [] (by kernel_rfl) ⟨(by omega), (congrArg V.vp kx), trivial⟩ ?_
        refine AWP.seq ?_
        refine xe0 [2, 3, 5, 6, 7, 8, 14] [] (by kernel_rfl) ?_
        refine AWP.condF (by kernel_rfl) ?_
        refine AWP.skip ?_
        refine AWP.region tcok hmix [(2, ⟨some (u64 (↑(↑x : Nat) : Int)), none⟩), (3, ⟨none, some ⟨V.val (Value.string (dg x)), [], []⟩⟩), (4, ⟨some (V.val (Value.string (ByteArray.mk #[] ++ dg x))), none⟩)] (os := [u64 (IntKind.wrap IntKind.u64 (↑(↑x : Nat) : Int)) = u64 (↑(↑x : Nat) : Int), Con Tryd.prog 32 [] [u64 (↑(↑x : Nat) : Int)] [] (V.val (Value.string (dg x))), (↑(ByteArray.size (ByteArray.mk #[]) + ByteArray.size (dg x)) : Int) ≤ (9223372036854775807 : Int), V.val (Value.string (ByteArray.mk #[] ++ dg x)) = V.val (Value.string (ByteArray.mk #[] ++ dg x))]) (sf := St.mk [(2, tp (V.val (Value.string (ByteArray.mk #[])))), (3, tp (V.val (Value.string (ByteArray.mk #[] ++ dg x)))), (5, tp (i64 (↑(↑x : Nat) : Int))), (6, tp (V.vs A k)), (7, tp (i64 (↑k : Int))), (8, tp (i64 0)), (14, tp (vb false)), (17, tp (V.val (Value.string (ByteArray.mk #[])))), (18, tp (i64 (↑(↑x : Nat) : Int))), (19, tp (u64 (↑(↑x : Nat) : Int))), (20, tp (V.val (Value.string (dg x)))), (21, tp (V.val (Value.string (ByteArray.mk #[] ++ dg x))))] []) (by kernel_rfl) ⟨(wr_u64 (by omega) (by omega)), (c ), (by omega), rfl, trivial⟩ ?_
        refine AWP.keep' [2, 3, 6, 7, 8] [] (sf := St.mk [(2, tp (V.val (Value.string (ByteArray.mk #[])))), (3, tp (V.val (Value.string (ByteArray.mk #[] ++ dg x)))), (6, tp (V.vs A k)), (7, tp (i64 (↑k : Int))), (8, tp (i64 0))] []) (by kernel_rfl) ?_
        refine AWP.region tcok hmix [] (os := []) (sf := St.mk [(2, tp (V.val (Value.string (ByteArray.mk #[])))), (3, tp (V.val (Value.string (ByteArray.mk #[] ++ dg x)))), (6, tp (V.vs A k)), (7, tp (i64 (↑k : Int))), (8, tp (i64 1)), (22, tp (i64 1))] []) (by kernel_rfl) trivial ?_
        refine ⟨St.mk [(2, tp (V.val (Value.string (ByteArray.mk #[])))), (3, tp (V.val (Value.string (ByteArray.mk #[] ++ dg x)))), (6, tp (V.vs A k)), (7, tp (i64 (↑k : Int))), (8, tp (i64 1))] [], by kernel_rfl, ?_⟩
        (exact ⟨(k - 1 : Int).toNat, (by omega), 1, _, rfl, (by rw [show (1 : Int).toNat = Int.toNat 0 + 1 from rfl, hn]; exact (rT_one x).symm), (by omega), (by omega), (by omega)⟩)
      simp only [decide_eq_false_iff_not] at hq0
      (exfalso; omega)
    · have hne : (upsF s 0).take p.toNat ≠ [] := fun e => by
        have := congrArg List.length e
        rw [List.length_take, List.length_nil] at this
        omega
      refine xe0 [2, 3, 6, 7, 8, 9] [] (by kernel_rfl) ?_
      refine AWP.seq ?_
      refine AWP.cond (b := decide (p < (↑k : Int))) (by kernel_rfl) (fun hq2 => ?_) (fun hq2 => ?_)
      · simp only [decide_eq_true_eq] at hq2
        refine AWP.skip ?_
        refine AWP.seq ?_
        refine AWP.block ?_
        refine xe1 (os := [(0 : Int) ≤ p ∧ p < (↑k : Int), V.vp (List.drop (Int.toNat p * 1) A) = V.vp (i64 (↑(↑x : Nat) : Int) :: r)]) [(1, ⟨some (V.vp (i64 (↑(↑x : Nat) : Int) :: r)), none⟩)] [2, 3, 4, 5, 6, 7, 8] [] (by kernel_rfl) ⟨(by omega), (congrArg V.vp kx), trivial⟩ ?_
        refine AWP.seq ?_
        refine xe0 [2, 3, 5, 6, 7, 8, 14] [] (by kernel_rfl) ?_
        refine AWP.cond (b := decide (p > 0)) (by kernel_rfl) (fun hq3 => ?_) (fun hq3 => ?_)
        · simp only [decide_eq_true_eq] at hq3
          refine xg1 (os := [(↑(ByteArray.size o + ByteArray.size (ByteArray.mk #[(32 : UInt8)])) : Int) ≤ (9223372036854775807 : Int), V.val (Value.string (o ++ ByteArray.mk #[32])) = V.val (Value.string (o ++ ByteArray.mk #[32]))]) [(1, ⟨some (V.val (Value.string (o ++ ByteArray.mk #[32]))), none⟩)] [2, 3, 5, 6, 7, 8] [] (by kernel_rfl) ⟨(by omega), rfl, trivial⟩ ?_
          refine AWP.region tcok hmix [(2, ⟨some (u64 (↑(↑x : Nat) : Int)), none⟩), (3, ⟨none, some ⟨V.val (Value.string (dg x)), [], []⟩⟩), (4, ⟨some (V.val (Value.string (o ++ ByteArray.mk #[32] ++ dg x))), none⟩)] (os := [u64 (IntKind.wrap IntKind.u64 (↑(↑x : Nat) : Int)) = u64 (↑(↑x : Nat) : Int), Con Tryd.prog 32 [] [u64 (↑(↑x : Nat) : Int)] [] (V.val (Value.string (dg x))), (↑(ByteArray.size (o ++ ByteArray.mk #[(32 : UInt8)]) + ByteArray.size (dg x)) : Int) ≤ (9223372036854775807 : Int), V.val (Value.string (o ++ ByteArray.mk #[32] ++ dg x)) = V.val (Value.string (o ++ ByteArray.mk #[32] ++ dg x))]) (sf := St.mk [(2, tp (V.val (Value.string (ByteArray.mk #[])))), (3, tp (V.val (Value.string (o ++ ByteArray.mk #[32] ++ dg x)))), (5, tp (i64 (↑(↑x : Nat) : Int))), (6, tp (V.vs A k)), (7, tp (i64 (↑k : Int))), (8, tp (i64 p)), (17, tp (V.val (Value.string (o ++ ByteArray.mk #[32])))), (18, tp (i64 (↑(↑x : Nat) : Int))), (19, tp (u64 (↑(↑x : Nat) : Int))), (20, tp (V.val (Value.string (dg x)))), (21, tp (V.val (Value.string (o ++ ByteArray.mk #[32] ++ dg x))))] []) (by kernel_rfl) ⟨(wr_u64 (by omega) (by omega)), (c ), (by omega), rfl, trivial⟩ ?_
          refine AWP.keep' [2, 3, 6, 7, 8] [] (sf := St.mk [(2, tp (V.val (Value.string (ByteArray.mk #[])))), (3, tp (V.val (Value.string (o ++ ByteArray.mk #[32] ++ dg x)))), (6, tp (V.vs A k)), (7, tp (i64 (↑k : Int))), (8, tp (i64 p))] []) (by kernel_rfl) ?_
          refine AWP.region tcok hmix [(0, ⟨some (i64 (p + 1)), none⟩)] (os := [i64 (IntKind.wrap IntKind.i64 (p + 1)) = i64 (p + 1)]) (sf := St.mk [(2, tp (V.val (Value.string (ByteArray.mk #[])))), (3, tp (V.val (Value.string (o ++ ByteArray.mk #[32] ++ dg x)))), (6, tp (V.vs A k)), (7, tp (i64 (↑k : Int))), (8, tp (i64 (p + 1))), (22, tp (i64 (p + 1)))] []) (by kernel_rfl) ⟨(wr_i64 (by omega) (by omega)), trivial⟩ ?_
          refine ⟨St.mk [(2, tp (V.val (Value.string (ByteArray.mk #[])))), (3, tp (V.val (Value.string (o ++ ByteArray.mk #[32] ++ dg x)))), (6, tp (V.vs A k)), (7, tp (i64 (↑k : Int))), (8, tp (i64 (p + 1)))] [], by kernel_rfl, ?_⟩
          (exact ⟨(k - (p + 1)).toNat, (by omega), p + 1, _, rfl, (by rw [show (p + 1).toNat = p.toNat + 1 by omega, hn, rT_more _ x hne, ← ho]), (by omega), (by omega), (by omega)⟩)
        simp only [decide_eq_false_iff_not] at hq3
        (exfalso; omega)
      simp only [decide_eq_false_iff_not] at hq2
      (exfalso; omega)
  have hpk : p.toNat = k := by omega
  rw [hpk, List.take_of_length_le (by omega)] at ho
  by_cases hu : upsF s 0 = []
  · rw [hu] at ho ⊢
    have ho2 : o = ⟨#[]⟩ := ho
    subst ho2
    refine xe0 [2, 3, 6, 7, 8, 9] [] (by kernel_rfl) ?_
    refine AWP.seq ?_
    refine AWP.cond (b := decide (p < (↑k : Int))) (by kernel_rfl) (fun hq4 => ?_) (fun hq4 => ?_)
    · simp only [decide_eq_true_eq] at hq4
      (exfalso; omega)
    simp only [decide_eq_false_iff_not] at hq4
    refine AWP.exit ?_
    refine AWP.seq ?_
    refine xe0 [2, 3, 24] [] (by kernel_rfl) ?_
    refine AWP.condT (by kernel_rfl) ?_
    refine xe0 [2, 3] [] (by kernel_rfl) ?_
    refine AWP.ret ?_
    refine ⟨Or.inr rfl, Eq.trans (b := some ([], V.val (Value.string (ByteArray.mk #[45])))) (by kernel_rfl) ?_⟩
    rfl
  · have hne : o ≠ ⟨#[]⟩ := fun e => hu ((rT_end _).1 (ho.symm.trans e))
    have e2 : txt (upsF s 0) = o := by rw [ho]; unfold txt rT; rw [if_neg hu, if_neg hu]
    rw [e2]
    have hb : (o.data.toList == ([] : List UInt8)) = false := by
      rw [beq_eq_false_iff_ne]
      intro e
      exact hne (ByteArray.ext (Array.toList_inj.1 e))
    refine xe0 [2, 3, 6, 7, 8, 9] [] (by kernel_rfl) ?_
    refine AWP.seq ?_
    refine AWP.cond (b := decide (p < (↑k : Int))) (by kernel_rfl) (fun hq6 => ?_) (fun hq6 => ?_)
    · simp only [decide_eq_true_eq] at hq6
      (exfalso; omega)
    simp only [decide_eq_false_iff_not] at hq6
    refine AWP.exit ?_
    refine AWP.seq ?_
    refine xe0 [2, 3, 24] [] (by kernel_rfl) ?_
    refine AWP.cond (b := o.data.toList == (ByteArray.mk #[]).data.toList) (by kernel_rfl) (fun hq7 => ?_) (fun hq7 => ?_)
    · simp only [beq_iff_eq] at hq7
      refine xe0 [2, 3] [] (by kernel_rfl) ?_
      refine AWP.ret ?_
      refine ⟨Or.inr rfl, Eq.trans (b := some ([], V.val (Value.string (ByteArray.mk #[45])))) (by kernel_rfl) ?_⟩
      first | rfl | (exfalso; simp_all; done)
    simp only [beq_eq_false_iff_ne] at hq7
    refine AWP.skip ?_
    refine xe0 [2] [] (by kernel_rfl) ?_
    refine AWP.ret ?_
    refine ⟨Or.inr rfl, Eq.trans (b := some ([], V.val (Value.string o))) (by kernel_rfl) ?_⟩
    first | rfl | (exfalso; simp_all; done)
theorem con_same (A B : List V) (k : Nat) (hk : (k : Int) ≤ 100) (h : ∀ p : Nat, p < k → ∃ (u : Int) (r r' : List V), A.drop (p * 1) = i64 u :: r ∧ B.drop (p * 1) = i64 u :: r') : Con Tryd.prog 20 [] [.vs A k, .vs B k] [] (vb true) := by
  refine Con.of (C := ⟨Tryd.prog, tc, Tryd.f20.ntmps⟩) [] tcok Tryd.func20 rfl rfl (by kernel_rfl) (by kernel_rfl) ?_
  refine xe0 [0, 1, 4] [] (by kernel_rfl) ?_
  refine AWP.seq ?_
  refine xe0 [0, 1, 4, 10] [] (by kernel_rfl) ?_
  refine AWP.cond (b := (↑k : Int) != (↑k : Int)) (by kernel_rfl) (fun hq8 => ?_) (fun hq8 => ?_)
  · simp only [bne_iff_ne] at hq8
    (exfalso; omega)
  simp only [bne_eq_false_iff_eq] at hq8
  refine AWP.skip ?_
  refine AWP.seq ?_
  refine xe0 [0, 1, 4, 12, 13] [] (by kernel_rfl) ?_
  refine AWP.block ?_
  refine AWP.loopI [0, 1, 4, 12, 13] [] (fun N st => ∃ p : Int, st = St.mk [(0, T.plain (V.vs A k)), (1, T.plain (V.vs B k)), (4, T.plain (vb false)), (12, T.plain (i64 (k : Int))), (13, T.plain (i64 p))] [] ∧ 0 ≤ p ∧ p ≤ k ∧ (N : Int) = k - p) k (s0 := St.mk [(0, T.plain (V.vs A k)), (1, T.plain (V.vs B k)), (4, T.plain (vb false)), (12, T.plain (i64 (k : Int))), (13, T.plain (i64 0))] []) (by kernel_rfl) ?_ ?_
  · exact ⟨0, rfl, by omega, by omega, by omega⟩
  rintro N st ⟨p, rfl, hp, hp2, hN⟩
  by_cases hlt : p < k
  · obtain ⟨u, r, r', k1, k2⟩ := h p.toNat (by omega)
    refine xe0 [0, 1, 4, 12, 13, 14] [] (by kernel_rfl) ?_
    refine AWP.seq ?_
    refine AWP.cond (b := decide (p < (↑k : Int))) (by kernel_rfl) (fun hq9 => ?_) (fun hq9 => ?_)
    · simp only [decide_eq_true_eq] at hq9
      refine AWP.skip ?_
      refine AWP.seq ?_
      refine AWP.block ?_
      refine xe0 [0, 1, 4, 5, 12, 13] [] (by kernel_rfl) ?_
      refine xe1 (os := [(0 : Int) ≤ p ∧ p < (↑k : Int), V.vp (List.drop (Int.toNat p * 1) A) = V.vp (i64 u :: r), (0 : Int) ≤ p ∧ p < (↑k : Int), V.vp (List.drop (Int.toNat p * 1) B) = V.vp (i64 u :: r')]) [(2, ⟨some (V.vp (i64 u :: r)), none⟩), (6, ⟨some (V.vp (i64 u :: r')), none⟩)] [0, 1, 4, 12, 13, 24] [] (by kernel_rfl) ⟨(by omega), (congrArg V.vp k1), (by omega), (congrArg V.vp k2), trivial⟩ ?_
      refine AWP.cond (b := u != u) (by kernel_rfl) (fun hq10 => ?_) (fun hq10 => ?_)
      · simp only [bne_iff_ne] at hq10
        (exfalso; omega)
      simp only [bne_eq_false_iff_eq] at hq10
      refine AWP.skip ?_
      refine AWP.region tcok hmix [(0, ⟨some (i64 (p + 1)), none⟩)] (os := [i64 (IntKind.wrap IntKind.i64 (p + 1)) = i64 (p + 1)]) (sf := St.mk [(0, tp (V.vs A k)), (1, tp (V.vs B k)), (4, tp (vb false)), (12, tp (i64 (↑k : Int))), (13, tp (i64 (p + 1))), (24, tp (vb (u != u))), (25, tp (i64 (p + 1)))] []) (by kernel_rfl) ⟨(wr_i64 (by omega) (by omega)), trivial⟩ ?_
      refine ⟨St.mk [(0, tp (V.vs A k)), (1, tp (V.vs B k)), (4, tp (vb false)), (12, tp (i64 (↑k : Int))), (13, tp (i64 (p + 1)))] [], by kernel_rfl, ?_⟩
      first | (exact ⟨(k - (p + 1)).toNat, (by omega), p + 1, rfl, (by omega), (by omega), (by omega)⟩) | (exfalso; omega)
    simp only [decide_eq_false_iff_not] at hq9
    (exfalso; omega)
  refine xe0 [0, 1, 4, 12, 13, 14] [] (by kernel_rfl) ?_
  refine AWP.seq ?_
  refine AWP.cond (b := decide (p < (↑k : Int))) (by kernel_rfl) (fun hq11 => ?_) (fun hq11 => ?_)
  · simp only [decide_eq_true_eq] at hq11
    (exfalso; omega)
  simp only [decide_eq_false_iff_not] at hq11
  refine AWP.exit ?_
  refine xe0 [4] [] (by kernel_rfl) ?_
  refine AWP.ret ?_
  refine ⟨Or.inr rfl, Eq.trans (b := some ([], vb true)) (by kernel_rfl) ?_⟩
  first | rfl | (exfalso; omega)
end Go.Proofs.YtmeiemdnhjnpcaaDoor
