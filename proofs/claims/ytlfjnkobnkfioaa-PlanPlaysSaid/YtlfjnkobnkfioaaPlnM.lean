/- A plan: all items, those of some times; a new plan; nothing planned any more. -/
import Derived.Test.YtlfjnkobnkfioaaRg
import Derived.Test.YtlfjnkobnkfioaaPlnL
namespace Go.Proofs.Ytlfjnkobnkfioaa
open Go.Ab
set_option maxRecDepth 100000
set_option maxHeartbeats 8000000
set_option linter.unusedSimpArgs false
set_option linter.unusedVariables false
theorem con_copied (L : List It) (n : Nat) (hn : L.length = n) (hm : n ≤ 1000) (hL : ∀ a ∈ L, a.c.length = a.k ∧ a.k ≤ 1000) :
    Con Try.prog 52 [(2000000000, ⟨rowsI L, true, 0, some (79, 3)⟩)] [.sl 2000000000 0 n] [(3, ⟨rowsI L, true, 0, some (79, 3)⟩), (2000000000, ⟨rowsI L, true, 0, some (79, 3)⟩)] (.sl 3 0 n) := by
  have hrl := rowsI_len L
  refine Con.of (C := ⟨Try.prog, tc, Try.f52.ntmps⟩) [3, 2000000000] tcok Try.func52 rfl rfl (by kernel_rfl) (by kernel_rfl) ?_
  refine xe0 [0, 2] [2, 2000000000] (by kernel_rfl) ?_
  refine xe0 [0, 2, 3] [2, 3, 2000000000] (by kernel_rfl) ?_
  refine AWP.seq ?_
  refine xe0 [2, 3, 6, 7, 8] [2000000000, 2, 3] (by kernel_rfl) ?_
  refine AWP.block ?_
  refine AWP.loopI [8, 7, 6, 3, 2] [2, 3, 2000000000] (fun N s' => ∃ (i : Int) (k : Nat) (S : List It), s' = St.mk [(2, T.plain (V.sl 2 0 0)), (3, T.plain (V.sl 3 0 k)), (6, T.plain (V.sl 2000000000 0 n)), (7, T.plain (i64 (n : Int))), (8, T.plain (i64 i))] [(2, Blk.mk [] true 0 (some (79, 3))), (3, Blk.mk (rowsI S) true 0 (some (79, 3))), (2000000000, Blk.mk (rowsI L) true 0 (some (79, 3)))] ∧ 0 ≤ i ∧ i ≤ n ∧ k = i.toNat ∧ S = L.take k ∧ (N : Int) = n - i) n (s0 := St.mk [(2, T.plain (V.sl 2 0 0)), (3, T.plain (V.sl 3 0 0)), (6, T.plain (V.sl 2000000000 0 n)), (7, T.plain (i64 (n : Int))), (8, T.plain (i64 0))] [(2, Blk.mk [] true 0 (some (79, 3))), (3, Blk.mk [] true 0 (some (79, 3))), (2000000000, Blk.mk (rowsI L) true 0 (some (79, 3)))]) (by kernel_rfl) ?_ ?_
  · exact ⟨0, 0, [], rfl, by omega, by omega, rfl, by simp, by omega⟩
  rintro N s' ⟨i, k, S, rfl, hi, hin, hk, hS, hN⟩
  have hSl : S.length = k := by rw [hS, List.length_take]; omega
  have hsl := rowsI_len S
  by_cases hlt : i < n
  · obtain ⟨a, ha⟩ : ∃ a, L[i.toNat]? = some a := ⟨_, List.getElem?_eq_getElem (by omega)⟩
    have wr := rowsI_at ha
    have hac := hL a (List.mem_of_getElem? ha)
    have c2 := con_cln a.c a.k hac.1 (by omega)
    have e1 : rowsI S ++ It.row a = rowsI (L.take (k + 1)) := by
      rw [hS, List.take_add_one, hk, ha, rowsI_app]
      simp [rowsI]
    refine xe0 [2, 3, 6, 7, 8, 9] [2, 3, 2000000000] (by kernel_rfl) ?_
    refine AWP.seq ?_
    refine AWP.cond (b := decide (i < (↑n : Int))) (by kernel_rfl) (fun hq0 => ?_) (fun hq0 => ?_)
    · simp only [decide_eq_true_eq] at hq0
      refine AWP.skip ?_
      refine AWP.seq ?_
      refine AWP.block ?_
      refine xe1 (os := [(0 : Int) ≤ i ∧ i < (↑n : Int), V.ptr 2000000000 (0 + Int.toNat i * 3) = V.ptr 2000000000 (0 + Int.toNat i * 3), (0 : Nat) + Int.toNat i * (3 : Nat) + (3 : Nat) ≤ List.length (rowsI L), V.agg true (List.take 3 (List.drop (0 + Int.toNat i * 3) (rowsI L))) = V.agg true [u32 a.t, u16 a.id, V.vs (u8s a.c) a.k]]) [(0, ⟨some (V.ptr 2000000000 (0 + Int.toNat i * 3)), none⟩), (1, ⟨some (V.agg true (It.row a)), none⟩)] [2, 3, 5, 6, 7, 8] [2000000000, 2, 3, 5] (by kernel_rfl) ⟨(by omega), rfl, (by first | omega | (simp [len_u8s]; done) | (simp [len_u8s]; omega)), (congrArg (V.agg true) (wr )), trivial⟩ ?_
      refine xe1 (os := [Con Try.prog 47 [] [V.vs (u8s a.c) a.k] [] (V.vs (u8s a.c) a.k)]) [(2, ⟨none, some ⟨V.vs (u8s a.c) a.k, [], []⟩⟩)] [2, 3, 5, 6, 7, 8] [2000000000, 2, 3, 5] (by kernel_rfl) ⟨(c2 ), trivial⟩ ?_
      refine AWP.region tcok hmix [(3, ⟨some (V.tup [V.agg true (rowsI S ++ [u32 a.t, u16 a.id, V.vs (u8s a.c) a.k]), V.sl 0 0 (k + 1)]), none⟩)] (os := [(3 : Nat) ≤ (3 : Nat), k * (3 : Nat) = List.length (rowsI S), k + (1 : Nat) ≤ (9223372036854775807 : Nat), (k + (1 : Nat)) * (32 : Nat) ≤ (140737488355328 : Nat), rowsI S ++ List.take ((1 : Nat) * (3 : Nat)) (List.drop (0 : Nat) [u32 a.t, u16 a.id, V.vs (u8s a.c) a.k]) = rowsI S ++ [u32 a.t, u16 a.id, V.vs (u8s a.c) a.k], k + (1 : Nat) = k + (1 : Nat)]) (sf := St.mk [(2, tp (V.sl 2 0 0)), (3, tp (V.sl 3 0 (k + 1))), (5, tp (V.ptr 5 0)), (6, tp (V.sl 2000000000 0 n)), (7, tp (i64 (↑n : Int))), (8, tp (i64 i)), (16, tp V.top), (17, tp (V.agg true [u32 a.t, u16 a.id, V.vs (u8s a.c) a.k])), (18, tp (V.sl 18 0 1)), (19, tp (V.sl 3 0 (k + 1)))] [(2, Blk.mk [] true 0 (some (79, 3))), (3, Blk.mk (rowsI S ++ [u32 a.t, u16 a.id, V.vs (u8s a.c) a.k]) true 0 (some (79, 3))), (5, Blk.mk [u32 a.t, u16 a.id, V.vs (u8s a.c) a.k] true 3 none), (18, Blk.mk [u32 a.t, u16 a.id, V.vs (u8s a.c) a.k] true 0 (some (79, 3))), (2000000000, Blk.mk (rowsI L) true 0 (some (79, 3)))]) (by kernel_rfl) ⟨(by omega), (by first | omega | (simp [len_u8s]; done) | (simp [len_u8s]; omega)), (by omega), (by omega), (by first | rfl | (simp only [u8s_drop, u8s_take, List.drop_zero, Nat.mul_one, Nat.one_mul, u8s_app, List.take_length, List.nil_append, List.append_nil]; done) | (simp [u8s]; done) | (simp [u8s]; omega)), (by omega), trivial⟩ ?_
      refine AWP.keep' [2, 3, 6, 7, 8] [2000000000, 2, 3] (sf := St.mk [(2, tp (V.sl 2 0 0)), (3, tp (V.sl 3 0 (k + 1))), (6, tp (V.sl 2000000000 0 n)), (7, tp (i64 (↑n : Int))), (8, tp (i64 i))] [(2, Blk.mk [] true 0 (some (79, 3))), (3, Blk.mk (rowsI S ++ [u32 a.t, u16 a.id, V.vs (u8s a.c) a.k]) true 0 (some (79, 3))), (2000000000, Blk.mk (rowsI L) true 0 (some (79, 3)))]) (by kernel_rfl) ?_
      refine AWP.region tcok hmix [(0, ⟨some (i64 (i + 1)), none⟩)] (os := [i64 (IntKind.wrap IntKind.i64 (i + 1)) = i64 (i + 1)]) (sf := St.mk [(2, tp (V.sl 2 0 0)), (3, tp (V.sl 3 0 (k + 1))), (6, tp (V.sl 2000000000 0 n)), (7, tp (i64 (↑n : Int))), (8, tp (i64 (i + 1))), (20, tp (i64 (i + 1)))] [(2, Blk.mk [] true 0 (some (79, 3))), (3, Blk.mk (rowsI S ++ [u32 a.t, u16 a.id, V.vs (u8s a.c) a.k]) true 0 (some (79, 3))), (2000000000, Blk.mk (rowsI L) true 0 (some (79, 3)))]) (by kernel_rfl) ⟨(wr_i64 (by omega) (by omega)), trivial⟩ ?_
      refine ⟨St.mk [(2, tp (V.sl 2 0 0)), (3, tp (V.sl 3 0 (k + 1))), (6, tp (V.sl 2000000000 0 n)), (7, tp (i64 (↑n : Int))), (8, tp (i64 (i + 1)))] [(2, Blk.mk [] true 0 (some (79, 3))), (3, Blk.mk (rowsI S ++ [u32 a.t, u16 a.id, V.vs (u8s a.c) a.k]) true 0 (some (79, 3))), (2000000000, Blk.mk (rowsI L) true 0 (some (79, 3)))], by kernel_rfl, ?_⟩
      first | (exact ⟨(n - (i + 1)).toNat, (by omega), i + 1, k + 1, L.take (k + 1), (by rw [← e1]; rfl), (by omega), (by omega), (by omega), rfl, (by omega)⟩) | (exfalso; omega)
    simp only [decide_eq_false_iff_not] at hq0
    (exfalso; omega)
  have hin : i = n := by omega
  subst hin
  rw [Int.toNat_natCast] at hk
  subst hk
  rw [← hn, List.take_length] at hS
  subst hS
  refine xe0 [2, 3, 6, 7, 8, 9] [2, 3, 2000000000] (by kernel_rfl) ?_
  refine AWP.seq ?_
  refine AWP.cond (b := decide ((↑k : Int) < (↑k : Int))) (by kernel_rfl) (fun hq1 => ?_) (fun hq1 => ?_)
  · simp only [decide_eq_true_eq] at hq1
    (exfalso; omega)
  simp only [decide_eq_false_iff_not] at hq1
  refine AWP.exit ?_
  refine AWP.seq ?_
  refine AWP.keep' [3] [2000000000, 3] (sf := St.mk [(3, tp (V.sl 3 0 k))] [(3, Blk.mk (rowsI S) true 0 (some (79, 3))), (2000000000, Blk.mk (rowsI S) true 0 (some (79, 3)))]) (by kernel_rfl) ?_
  refine xg0 [2] [2000000000, 3] (by kernel_rfl) ?_
  refine AWP.ret ?_
  refine ⟨Or.inr rfl, Eq.trans (b := some ([(3, Blk.mk (rowsI S) true 0 (some (79, 3))), (2000000000, Blk.mk (rowsI S) true 0 (some (79, 3)))], V.sl 3 0 k)) (by kernel_rfl) ?_⟩
  first | rfl | (exfalso; omega)
theorem cell_nil {I I' : Nat → Prop} {w w' : World} {φ ψ : Phi} {B : Nat} {u : Value} (h : Rel I w φ (.val (.slice none 0 0)) u) (p : ψ B = .nil) : Rel I' w' ψ (.sl B 0 0) u := by
  obtain rfl := h.val_inv
  exact .slnil p
theorem cell_mp {I I' : Nat → Prop} {w w' : World} {φ ψ : Phi} {i : Nat} {u : Value} (h : Rel I w φ (.mp i) u) (p : ψ i = φ i) : Rel I' w' ψ (.mp i) u := by
  cases h with
  | mp hq => exact .mp (p.trans hq)
theorem cell_val {I I' : Nat → Prop} {w w' : World} {φ ψ : Phi} {v : Value} {u : Value} (h : Rel I w φ (.val v) u) : Rel I' w' ψ (.val v) u := by
  cases h with
  | val hs => exact .val hs
/-- A plan's list that is nil, told as an own one without items. -/
theorem Con.nilB {f : FuncId} {Hin : List (Nat × Blk)} {args : List V} {blk b1 : Blk} {off : Bool} {cs : List V} {v : Value} (h : Con Try.prog f Hin args [(1000000000, b1), (2000000010, ⟨[.val (.slice none 0 0), .mp 2000000011, vb off], false, 3, none⟩), (2000000011, ⟨cs, true, 0, some (0, 0)⟩)] (.val v))
    (hin : lk Hin 1000000000 = some blk) (hmv : mv blk = true) (hv : scalar v = true) :
    Con Try.prog f Hin args [(1000000000, ⟨[], true, 0, some (79, 3)⟩), (2000000010, ⟨[.sl 1000000000 0 0, .mp 2000000011, vb off], false, 3, none⟩), (2000000011, ⟨cs, true, 0, some (0, 0)⟩)] (.val v) := by
  refine ⟨h.1, fun X φ w us a b c d g => Calls.mono (h.2 X φ w us a b c d g) ?_⟩
  rintro e' w' ⟨u, φ', he, hf, hok, hown, hhr, hrel, hfix⟩
  have hns : ¬stayS 1000000000 (φ 1000000000) := by
    have hb := c 1000000000 blk hin
    simp only [mv, Bool.and_eq_true, Bool.not_eq_true'] at hmv
    cases hs : φ 1000000000 with
    | none => exact id
    | nil => exact fun h => absurd (show BIG2 ≤ 1000000000 from h) (by decide)
    | «at» bb cc =>
      rw [hs] at hb
      simp only [BlkRel, hmv.2] at hb
      obtain ⟨us, el, _, _, h3⟩ := hb
      rintro (h | h)
      · subst h
        cases hbl : blk.bld with
        | none => rw [hbl] at hmv; simp at hmv
        | some q =>
          rw [hbl] at h3
          obtain ⟨_, cap, n, h4, _⟩ := h3
          cases h4
      · exact absurd h (by decide)
  obtain ⟨ψ, hψ⟩ : ∃ ψ, ψ = φ'.upd 1000000000 .nil := ⟨_, rfl⟩
  have p1 : ψ 1000000000 = .nil := by simp [hψ, Phi.upd]
  have p2 : ∀ i, i ≠ 1000000000 → ψ i = φ' i := fun i hi => by simp [hψ, Phi.upd, hi]
  have p3 : ∀ i b c, ψ i = .at b c → φ' i = .at b c := fun i b c hi => by
    by_cases h : i = 1000000000
    · subst h; rw [p1] at hi; cases hi
    · rwa [p2 i h] at hi
  have him : ∀ x, Imm φ' X w' x → Imm ψ X w' x ∧ w'.heap[x]? = w'.heap[x]? := fun x hx => ⟨⟨hx.1, fun i c hi => hx.2.1 i c (p3 i x c hi), hx.2.2⟩, rfl⟩
  refine ⟨u, ψ, he, hf, ⟨fun i j b c c' e1 e2 => hok.inj i j b c c' (p3 _ _ _ e1) (p3 _ _ _ e2), fun i b c e => hok.lt i b c (p3 _ _ _ e), fun i b c e => hok.free i b c (p3 _ _ _ e), fun i hi => ?_⟩, fun i b c e => hown i b c (p3 _ _ _ e), fun i bl hi => ?_, ?_, fun i hi hs => ?_⟩
  · have hne : i ≠ 1000000000 := fun h => by subst h; simp [lk] at hi
    rw [p2 i hne]
    refine hok.dom i ?_
    simp only [lk] at hi ⊢
    split at hi
    · cases hi
    · rename_i q1
      rw [if_neg q1]
      split at hi
      · cases hi
      · rename_i q2
        rw [if_neg q2]
        split at hi
        · cases hi
        · rename_i q3
          rw [if_neg q3]
  · simp only [lk] at hi
    split at hi
    · rename_i q1
      have q1' : i = 1000000000 := by simpa using q1
      subst q1'
      cases hi
      rw [p1]
      exact ⟨rfl, rfl⟩
    · split at hi
      · rename_i q1 q2
        have q2' : i = 2000000010 := by simpa using q2
        subst q2'
        cases hi
        rw [p2 _ (by decide)]
        have h0 := hhr 2000000010 _ rfl
        cases hs : φ' 2000000010 with
        | none => trivial
        | nil =>
          rw [hs] at h0
          exact absurd h0.1 (by simp)
        | «at» bb cc =>
          rw [hs] at h0
          obtain ⟨us, el, h1, h2, h3⟩ := h0
          refine CRel.blk ⟨us, el, h1, ?_, h3⟩ rfl
          refine ⟨h2.1, fun k hk => ?_, h2.2.2⟩
          have hr := h2.2.1 k hk
          have hk3 : k < 3 := hk
          rcases (by omega : k = 0 ∨ k = 1 ∨ k = 2) with rfl | rfl | rfl
          · exact cell_nil hr p1
          · exact cell_mp hr (p2 _ (by decide))
          · exact cell_val hr
      · split at hi
        · rename_i q1 q2 q3
          have q3' : i = 2000000011 := by simpa using q3
          subst q3'
          cases hi
          rw [p2 _ (by decide)]
          have h0 := hhr 2000000011 _ rfl
          cases hs : φ' 2000000011 with
          | none => trivial
          | nil =>
            rw [hs] at h0
            exact absurd h0.2 (by simp [mv, isMp])
          | «at» bb cc =>
            rw [hs] at h0
            obtain ⟨h1, es, ck, h2, h3⟩ := h0
            exact ⟨h1, es, ck, h2, h3.mono him (fun _ _ _ h => by cases h) (fun _ h => by cases h)⟩
        · cases hi
  · have := hrel.val_inv
    rw [this]
    exact .val hv
  · by_cases hne : i = 1000000000
    · subst hne
      exact (hns hs).elim
    · rw [p2 i hne]
      refine (hfix i hi hs).imp id fun h => ?_
      simp only [lk] at h ⊢
      split at h
      · cases h
      · rename_i q1
        rw [if_neg q1]
        split at h
        · cases h
        · rename_i q2
          rw [if_neg q2]
          split at h
          · cases h
          · rename_i q3
            rw [if_neg q3]
theorem con_pclr (L : List It) (n : Nat) (hn : 0 < n) (K : List Int) (off : Bool) :
    Con Try.prog 29 [(1000000000, ⟨rowsI L, true, 0, some (79, 3)⟩), (2000000010, ⟨[.sl 1000000000 0 n, .mp 2000000011, vb off], false, 3, none⟩), (2000000011, ⟨idsC K, true, 0, some (0, 0)⟩)] [.ptr 2000000010 0]
      [(1000000000, ⟨[], true, 0, some (79, 3)⟩), (2000000010, ⟨[.sl 1000000000 0 0, .mp 2000000011, vb off], false, 3, none⟩), (2000000011, ⟨[], true, 0, some (0, 0)⟩)] (i64 (n : Int)) := by
  have c := con_plen L n K off
  refine Con.nilB (b1 := ⟨rowsI L, true, 0, some (79, 3)⟩) ?_ rfl rfl rfl
  refine Con.of (C := ⟨Try.prog, tc, Try.f29.ntmps⟩) [1000000000, 2000000010, 2000000011] tcok Try.func29 rfl rfl (by kernel_rfl) (by kernel_rfl) ?_
  refine xe0 [0, 2] [1000000000, 2000000010, 2000000011] (by kernel_rfl) ?_
  refine xe1 (os := [Con Try.prog 26 [(2000000000, Blk.mk (rowsI L) true 0 (some (79, 3))), (2000000010, Blk.mk [V.sl 2000000000 0 n, V.mp 2000000011, vb off] false 3 none), (2000000011, Blk.mk (idsC K) true 0 (some (0, 0)))] [V.ptr 2000000010 0] [(2000000000, Blk.mk (rowsI L) true 0 (some (79, 3))), (2000000010, Blk.mk [V.sl 2000000000 0 n, V.mp 2000000011, vb off] false 3 none), (2000000011, Blk.mk (idsC K) true 0 (some (0, 0)))] (i64 (↑n : Int))]) [(1, ⟨some (V.tup [V.sl 2000000000 1000000000 0, V.sl 2000000010 2000000010 0, V.sl 2000000011 2000000011 0]), some ⟨i64 (↑n : Int), [(2000000000, Blk.mk (rowsI L) true 0 (some (79, 3))), (2000000010, Blk.mk [V.sl 2000000000 0 n, V.mp 2000000011, vb off] false 3 none), (2000000011, Blk.mk (idsC K) true 0 (some (0, 0)))], []⟩⟩)] [0, 2, 3] [1000000000, 2000000010, 2000000011] (by kernel_rfl) ⟨(c ), trivial⟩ ?_
  refine AWP.seq ?_
  refine xe0 [0, 2, 3, 7] [1000000000, 2000000010, 2000000011] (by kernel_rfl) ?_
  refine AWP.cond (b := decide ((↑n : Int) > 0)) (by kernel_rfl) (fun hq2 => ?_) (fun hq2 => ?_)
  · simp only [decide_eq_true_eq] at hq2
    refine xe0 [0, 2, 3] [1000000000, 2000000010, 2000000011] (by kernel_rfl) ?_
    refine xg0 [2, 3] [1000000000, 2000000010, 2000000011] (by kernel_rfl) ?_
    refine xe0 [2] [1000000000, 2000000010, 2000000011] (by kernel_rfl) ?_
    refine AWP.ret ?_
    refine ⟨Or.inr rfl, Eq.trans (b := some ([(1000000000, Blk.mk (rowsI L) true 0 (some (79, 3))), (2000000010, Blk.mk [V.val (Value.slice none 0 0), V.mp 2000000011, vb off] false 3 none), (2000000011, Blk.mk [] true 0 (some (0, 0)))], i64 (↑n : Int))) (by kernel_rfl) ?_⟩
    first | rfl | (exfalso; omega)
  simp only [decide_eq_false_iff_not] at hq2
  (exfalso; omega)
theorem con_pclr0 (L : List It) (K : List Int) (off : Bool) :
    Con Try.prog 29 [(1000000000, ⟨rowsI L, true, 0, some (79, 3)⟩), (2000000010, ⟨[.sl 1000000000 0 0, .mp 2000000011, vb off], false, 3, none⟩), (2000000011, ⟨idsC K, true, 0, some (0, 0)⟩)] [.ptr 2000000010 0]
      [(1000000000, ⟨rowsI L, true, 0, some (79, 3)⟩), (2000000010, ⟨[.sl 1000000000 0 0, .mp 2000000011, vb off], false, 3, none⟩), (2000000011, ⟨idsC K, true, 0, some (0, 0)⟩)] (i64 0) := by
  have c := con_plen L 0 K off
  refine Con.of (C := ⟨Try.prog, tc, Try.f29.ntmps⟩) [1000000000, 2000000010, 2000000011] tcok Try.func29 rfl rfl (by kernel_rfl) (by kernel_rfl) ?_
  refine xe0 [0, 2] [1000000000, 2000000010, 2000000011] (by kernel_rfl) ?_
  refine xe1 (os := [Con Try.prog 26 [(2000000000, Blk.mk (rowsI L) true 0 (some (79, 3))), (2000000010, Blk.mk [V.sl 2000000000 0 0, V.mp 2000000011, vb off] false 3 none), (2000000011, Blk.mk (idsC K) true 0 (some (0, 0)))] [V.ptr 2000000010 0] [(2000000000, Blk.mk (rowsI L) true 0 (some (79, 3))), (2000000010, Blk.mk [V.sl 2000000000 0 0, V.mp 2000000011, vb off] false 3 none), (2000000011, Blk.mk (idsC K) true 0 (some (0, 0)))] (i64 0)]) [(1, ⟨some (V.tup [V.sl 2000000000 1000000000 0, V.sl 2000000010 2000000010 0, V.sl 2000000011 2000000011 0]), some ⟨i64 (↑0 : Int), [(2000000000, Blk.mk (rowsI L) true 0 (some (79, 3))), (2000000010, Blk.mk [V.sl 2000000000 0 0, V.mp 2000000011, vb off] false 3 none), (2000000011, Blk.mk (idsC K) true 0 (some (0, 0)))], []⟩⟩)] [0, 2, 3] [1000000000, 2000000010, 2000000011] (by kernel_rfl) ⟨(c ), trivial⟩ ?_
  refine AWP.seq ?_
  refine xe0 [0, 2, 3, 7] [1000000000, 2000000010, 2000000011] (by kernel_rfl) ?_
  refine AWP.condF (by kernel_rfl) ?_
  refine AWP.skip ?_
  refine xe0 [2] [1000000000, 2000000010, 2000000011] (by kernel_rfl) ?_
  refine AWP.ret ?_
  refine ⟨Or.inr rfl, Eq.trans (b := some ([(1000000000, Blk.mk (rowsI L) true 0 (some (79, 3))), (2000000010, Blk.mk [V.sl 1000000000 0 0, V.mp 2000000011, vb off] false 3 none), (2000000011, Blk.mk (idsC K) true 0 (some (0, 0)))], i64 0)) (by kernel_rfl) ?_⟩
  first | rfl | (exfalso; omega)
theorem con_pnew : Con Try.prog 23 [] [] [(1, ⟨[], true, 0, some (0, 0)⟩), (2, ⟨[], true, 0, some (79, 3)⟩), (3, ⟨[.sl 2 0 0, .mp 1, vb false], false, 3, none⟩)] (.ptr 3 0) := by
  refine Con.of (C := ⟨Try.prog, tc, Try.f23.ntmps⟩) [1, 2, 3] tcok Try.func23 rfl rfl (by kernel_rfl) (by kernel_rfl) ?_
  refine xe0 [0] [] (by kernel_rfl) ?_
  refine xe0 [0] [3, 1] (by kernel_rfl) ?_
  refine AWP.nb 3 0 2 79 3 (s' := St.mk [(0, T.plain (V.ptr 3 0))] [(1, Blk.mk [] true 0 (some (0, 0))), (2, Blk.mk [] true 0 (some (79, 3))), (3, Blk.mk [V.sl 2 0 0, V.mp 1, vb false] false 3 none)]) (by kernel_rfl) ?_
  refine AWP.ret ?_
  refine ⟨Or.inr rfl, Eq.trans (b := some ([(1, Blk.mk [] true 0 (some (0, 0))), (2, Blk.mk [] true 0 (some (79, 3))), (3, Blk.mk [V.sl 2 0 0, V.mp 1, vb false] false 3 none)], V.ptr 3 0)) (by kernel_rfl) ?_⟩
  first | rfl | (exfalso; omega)
end Go.Proofs.Ytlfjnkobnkfioaa
