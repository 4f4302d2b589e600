/- PlanFull. -/
import Derived.Test.YtlfjnkobnkfioaaRg
import Derived.Test.YtlfjnkobnkfioaaPlnR
namespace Go.Proofs.Ytlfjnkobnkfioaa
open Go.Ab
set_option maxRecDepth 100000
set_option maxHeartbeats 8000000
set_option linter.unusedSimpArgs false
set_option linter.unusedVariables false
theorem Con.nil4 {P : Program} {f : FuncId} {Hin Hout : List (Nat × Blk)} {x y z r : V} (h : Con P f Hin [x, y, z, .vs (u8s []) 0] Hout r) : Con P f Hin [x, y, z, .val (.slice none 0 0)] Hout r :=
  Con.rels (fun I w φ us hu => by
    cases hu with
    | cons h1 hu => cases hu with
      | cons h2 hu => cases hu with
        | cons h3 hu => cases hu with
          | cons h4 hu => exact .cons h1 (.cons h2 (.cons h3 (.cons (rel_nil h4) hu)))) h
def fullL (t id : Int) (i : Nat) : List It := (List.range i).map fun j : Nat => ⟨t, (id + (j : Int)) % 65536, [], 0⟩
def fullK (id : Int) (i : Nat) : List Int := (List.range i).map fun j : Nat => (id + (j : Int)) % 65536
theorem posI_all {t : Int} : ∀ {L : List It}, (∀ a ∈ L, a.t ≤ t) → posI t L = L.length
  | [], _ => rfl
  | a :: r, h => by
    simp only [posI, if_pos (h a (List.mem_cons_self ..)), List.length_cons]
    rw [posI_all fun b hb => h b (List.mem_cons_of_mem _ hb)]
theorem fullL_next (t id : Int) (i : Nat) : insI ⟨t, (id + (i : Int)) % 65536, [], 0⟩ (fullL t id i) = fullL t id (i + 1) := by
  unfold insI
  have h : posI t (fullL t id i) = (fullL t id i).length := posI_all fun a ha => by
    obtain ⟨j, _, rfl⟩ := List.mem_map.1 ha
    exact Int.le_refl _
  rw [h, List.take_length, List.drop_length, List.append_nil]
  unfold fullL
  rw [List.range_succ, List.map_append]
  rfl
theorem fullK_next (id : Int) (i : Nat) : fullK id i ++ [(id + (i : Int)) % 65536] = fullK id (i + 1) := by
  unfold fullK
  rw [List.range_succ, List.map_append]
  rfl
theorem fullK_new (id : Int) (i : Nat) (hi : i ≤ 1000) : (id + (i : Int)) % 65536 ∉ fullK id i := fun h => by
  obtain ⟨j, hj, e⟩ := List.mem_map.1 h
  have := List.mem_range.1 hj
  omega
theorem fullL_sort (t id : Int) (i : Nat) : SortI (fullL t id i) := by
  unfold SortI fullL
  rw [List.pairwise_map]
  exact List.Pairwise.imp (fun _ => Int.le_refl _) (List.pairwise_lt_range (n := i))
theorem fullL_len (t id : Int) (i : Nat) : (fullL t id i).length = i := by simp [fullL]
theorem fullK_nodup (id : Int) (i : Nat) (hi : i ≤ 1000) : (fullK id i).Nodup := by
  unfold fullK
  refine List.pairwise_map.2 ?_
  have h : (List.range i).Pairwise (fun a b => a < b ∧ b < 1000) := by
    refine List.Pairwise.imp_of_mem (fun ha hb hab => ⟨hab, by have := List.mem_range.1 hb; omega⟩) (List.pairwise_lt_range (n := i))
  exact h.imp fun hab e => by omega
theorem full_keep (t id : Int) : (keepP (pId ((id + 3) % 65536)) (fullL t id 32)).length = 31 := by
  unfold keepP fullL
  rw [List.filter_map, List.length_map]
  rw [List.filter_congr (q := fun j => j != 3) (fun j hj => by
    have := List.mem_range.1 hj
    simp only [Function.comp, pId]
    by_cases h : j = 3
    · subst h; simp
    · have : ¬ (id + (j : Int)) % 65536 = (id + 3) % 65536 := by omega
      rw [beq_false_of_ne this, show (j != 3) = true from bne_iff_ne.2 h]
      rfl)]
  decide
theorem fullK_has (id : Int) : (id + 3) % 65536 ∈ fullK id 32 := List.mem_map.2 ⟨3, by simp, rfl⟩
theorem fullK_100 (id : Int) : (id + 100) % 65536 ∉ fullK id 32 := fun h => by
  obtain ⟨j, hj, e⟩ := List.mem_map.1 h
  have := List.mem_range.1 hj
  omega
theorem law_full (t id : Int) (ht : 0 ≤ t ∧ t < 256) (hid : 0 ≤ id ∧ id < 65536) (X : List Int) (m : Nat) (hm : X.length = m) (hmm : m ≤ 9223372036854775807) : Con Try.prog 7 [] [u8 t, u16 id, .vs (u8s X) m] [] (vb true) := by
  refine Con.of (C := ⟨Try.prog, tc, Try.f7.ntmps⟩) [] tcok Try.func7 rfl rfl (by kernel_rfl) (by kernel_rfl) ?_
  refine AWP.seq ?_
  refine AWP.regionT tcok hmix [] [0, 1, 2, 6] [] (os := []) (s' := St.mk [(0, tp (u8 t)), (1, tp (u16 id)), (2, tp (V.vs (u8s X) m)), (6, tp (vb false))] []) (by kernel_rfl) trivial ?_
  refine AWP.seq ?_
  refine xe1 [(0, ⟨none, some ⟨vb true, [], []⟩⟩)] [0, 1, 2, 6, 15] [] (by kernel_rfl) (AllP.c (con_awake27 ) AllP.n) ?_
  refine AWP.condF (by kernel_rfl) ?_
  refine AWP.skip ?_
  refine xe1 [(0, ⟨none, some ⟨V.ptr 3 0, [(1, Blk.mk [] true 0 (some (0, 0))), (2, Blk.mk [] true 0 (some (79, 3))), (3, Blk.mk [V.sl 2 0 0, V.mp 1, vb false] false 3 none)], []⟩⟩)] [0, 1, 2, 6, 7] [170003, 170002, 170001] (by kernel_rfl) (AllP.c (con_pnew ) AllP.n) ?_
  refine AWP.seq ?_
  refine xe0 [0, 1, 2, 6, 7, 17] [170001, 170002, 170003] (by kernel_rfl) ?_
  refine AWP.block ?_
  refine AWP.loopI [17, 7, 0, 1, 2, 6] [170001, 170002, 170003] (fun N s' => ∃ (i : Int) (k : Nat) (L : List It) (K : List Int), s' = St.mk [(0, Go.Ab.T.plain (u8 t)), (1, Go.Ab.T.plain (u16 id)), (2, Go.Ab.T.plain (V.vs (u8s X) m)), (6, Go.Ab.T.plain (vb false)), (7, Go.Ab.T.plain (V.ptr 170003 0)), (17, Go.Ab.T.plain (i64 i))] [(170001, Blk.mk (idsC K) true 0 (some (0, 0))), (170002, Blk.mk (rowsI L) true 0 (some (79, 3))), (170003, Blk.mk [V.sl 170002 0 k, V.mp 170001, vb false] false 3 none)] ∧ 0 ≤ i ∧ i ≤ 32 ∧ k = i.toNat ∧ L = fullL t id k ∧ K = fullK id k ∧ (N : Int) = 32 - i) 32 (s0 := St.mk [(0, Go.Ab.T.plain (u8 t)), (1, Go.Ab.T.plain (u16 id)), (2, Go.Ab.T.plain (V.vs (u8s X) m)), (6, Go.Ab.T.plain (vb false)), (7, Go.Ab.T.plain (V.ptr 170003 0)), (17, Go.Ab.T.plain (i64 0))] [(170001, Blk.mk [] true 0 (some (0, 0))), (170002, Blk.mk [] true 0 (some (79, 3))), (170003, Blk.mk [V.sl 170002 0 0, V.mp 170001, vb false] false 3 none)]) (by kernel_rfl) ?_ ?_
  · exact ⟨0, 0, [], [], rfl, by omega, by omega, rfl, rfl, rfl, by omega⟩
  rintro N s' ⟨i, k, L, K, rfl, hi, hi2, hk, hL, hK, hN⟩
  have hLl : L.length = k := by rw [hL, fullL_len]
  by_cases hlt : i < 32
  · have ek : (id + i) % 65536 = (id + (k : Int)) % 65536 := by omega
    obtain ⟨L', hL'⟩ : ∃ L', insI ⟨t, (id + i) % 65536, [], 0⟩ L = L' := ⟨_, rfl⟩
    obtain ⟨K', hK'⟩ : ∃ K', K ++ [(id + i) % 65536] = K' := ⟨_, rfl⟩
    have c1 := Con.nil4 (con_pins L k hLl (by omega) (by rw [hL]; exact fullL_sort t id k) K false t ((id + i) % 65536) [] 0 rfl (by omega) (by rw [hK, ek]; exact fullK_new id k (by omega)) L' hL' K' hK')
    have c2 := Con.nil4 (con_pins_has L' (k + 1) K' false 9 ((id + i) % 65536) [] 0 (by omega) (by rw [← hK']; simp))
    rw [hL, ek, fullL_next] at hL'
    rw [hK, ek, fullK_next] at hK'
    refine AWP.seq ?_
    refine AWP.regionT tcok hmix [] [0, 1, 2, 6, 7, 17, 18] [170001, 170002, 170003] (os := []) (s' := St.mk [(0, tp (u8 t)), (1, tp (u16 id)), (2, tp (V.vs (u8s X) m)), (6, tp (vb false)), (7, tp (V.ptr 170003 0)), (17, tp (i64 i)), (18, tp (vb (decide (i < 32))))] [(170001, Blk.mk (idsC K) true 0 (some (0, 0))), (170002, Blk.mk (rowsI L) true 0 (some (79, 3))), (170003, Blk.mk [V.sl 170002 0 k, V.mp 170001, vb false] false 3 none)]) (by kernel_rfl) trivial ?_
    refine AWP.seq ?_
    refine AWP.cond (b := decide (i < 32)) (by kernel_rfl) (fun hq1 => ?_) (fun hq1 => ?_)
    · simp only [decide_eq_true_eq] at hq1
      refine AWP.skip ?_
      refine AWP.seq ?_
      refine AWP.block ?_
      refine AWP.seq ?_
      refine AWP.regionT tcok hmix [] [0, 1, 2, 6, 7, 8, 17] [170003, 170002, 170001] (os := []) (s' := St.mk [(0, tp (u8 t)), (1, tp (u16 id)), (2, tp (V.vs (u8s X) m)), (6, tp (vb false)), (7, tp (V.ptr 170003 0)), (8, tp (i64 i)), (17, tp (i64 i))] [(170001, Blk.mk (idsC K) true 0 (some (0, 0))), (170002, Blk.mk (rowsI L) true 0 (some (79, 3))), (170003, Blk.mk [V.sl 170002 0 k, V.mp 170001, vb false] false 3 none)]) (by kernel_rfl) trivial ?_
      refine xe1 (os := [u32 (IntKind.wrap IntKind.u32 t) = u32 t, u16 (IntKind.wrap IntKind.u16 i) = u16 i, u16 (IntKind.wrap IntKind.u16 (id + i)) = u16 ((id + i) % 65536), Con Try.prog 24 [(1000000000, Blk.mk (rowsI L) true 0 (some (79, 3))), (2000000010, Blk.mk [V.sl 1000000000 0 k, V.mp 2000000011, vb false] false 3 none), (2000000011, Blk.mk (idsC K) true 0 (some (0, 0)))] [V.ptr 2000000010 0, u32 t, u16 ((id + i) % 65536), V.val (Value.slice none 0 0)] [(1000000000, Blk.mk (rowsI L') true 0 (some (79, 3))), (2000000010, Blk.mk [V.sl 1000000000 0 (k + 1), V.mp 2000000011, vb false] false 3 none), (2000000011, Blk.mk (idsC K') true 0 (some (0, 0)))] (i64 0), false = false → u16 (IntKind.wrap IntKind.u16 i) = u16 i ∧ True, false = false → u16 (IntKind.wrap IntKind.u16 (id + i)) = u16 ((id + i) % (65536 : Int)) ∧ True, Con Try.prog 24 [(1000000000, Blk.mk (rowsI L') true 0 (some (79, 3))), (2000000010, Blk.mk [V.sl 1000000000 0 (k + 1), V.mp 2000000011, vb false] false 3 none), (2000000011, Blk.mk (idsC K') true 0 (some (0, 0)))] [V.ptr 2000000010 0, u32 9, u16 ((id + i) % 65536), V.val (Value.slice none 0 0)] [(1000000000, Blk.mk (rowsI L') true 0 (some (79, 3))), (2000000010, Blk.mk [V.sl 1000000000 0 (k + 1), V.mp 2000000011, vb false] false 3 none), (2000000011, Blk.mk (idsC K') true 0 (some (0, 0)))] (i64 8)]) [(2, ⟨some (u32 t), none⟩), (5, ⟨some (u16 i), none⟩), (6, ⟨some (u16 ((id + i) % 65536)), none⟩), (7, ⟨some (V.tup [V.sl 1000000000 170002 0, V.sl 2000000010 170003 0, V.sl 2000000011 170001 0]), some ⟨i64 0, [(1000000000, Blk.mk (rowsI L') true 0 (some (79, 3))), (2000000010, Blk.mk [V.sl 1000000000 0 (k + 1), V.mp 2000000011, vb false] false 3 none), (2000000011, Blk.mk (idsC K') true 0 (some (0, 0)))], []⟩⟩), (13, ⟨some (u16 i), none⟩), (14, ⟨some (u16 ((id + i) % 65536)), none⟩), (15, ⟨some (V.tup [V.sl 1000000000 170002 0, V.sl 2000000010 170003 0, V.sl 2000000011 170001 0]), some ⟨i64 8, [(1000000000, Blk.mk (rowsI L') true 0 (some (79, 3))), (2000000010, Blk.mk [V.sl 1000000000 0 (k + 1), V.mp 2000000011, vb false] false 3 none), (2000000011, Blk.mk (idsC K') true 0 (some (0, 0)))], []⟩⟩)] [0, 1, 2, 6, 7, 17, 37] [170003, 170002, 170001] (by kernel_rfl) ⟨(wr_u32 (by omega) (by omega)), (wr_u16 (by omega) (by omega)), wm_u16, (c1 ), (by intro hc0; first | (cases hc0; done) | ((try simp only [Bool.or_false, Bool.false_or, Bool.true_and, Bool.and_true, decide_eq_true_eq, decide_eq_false_iff_not, Bool.and_eq_true, Bool.or_eq_true, Bool.or_eq_false_iff, Bool.not_eq_true', Bool.and_eq_false_iff, beq_iff_eq, bne_iff_ne, bne_eq_false_iff_eq, beq_eq_false_iff_ne, Bool.not_eq_false'] at hc0); exact ⟨(wr_u16 (by omega) (by omega)), trivial⟩)), (fun _ => ⟨wm_u16, trivial⟩), (c2 ), trivial⟩ ?_
      refine AWP.condF (by kernel_rfl) ?_
      refine AWP.skip ?_
      refine AWP.region tcok hmix [(0, ⟨some (i64 (i + 1)), none⟩)] (os := [i64 (IntKind.wrap IntKind.i64 (i + 1)) = i64 (i + 1)]) (sf := St.mk [(0, tp (u8 t)), (1, tp (u16 id)), (2, tp (V.vs (u8s X) m)), (6, tp (vb false)), (7, tp (V.ptr 170003 0)), (17, tp (i64 (i + 1))), (37, tp (vb false)), (38, tp (i64 (i + 1)))] [(170001, Blk.mk (idsC K') true 0 (some (0, 0))), (170002, Blk.mk (rowsI L') true 0 (some (79, 3))), (170003, Blk.mk [V.sl 170002 0 (k + 1), V.mp 170001, vb false] false 3 none)]) (by kernel_rfl) ⟨(wr_i64 (by omega) (by omega)), trivial⟩ ?_
      refine ⟨St.mk [(0, tp (u8 t)), (1, tp (u16 id)), (2, tp (V.vs (u8s X) m)), (6, tp (vb false)), (7, tp (V.ptr 170003 0)), (17, tp (i64 (i + 1)))] [(170001, Blk.mk (idsC K') true 0 (some (0, 0))), (170002, Blk.mk (rowsI L') true 0 (some (79, 3))), (170003, Blk.mk [V.sl 170002 0 (k + 1), V.mp 170001, vb false] false 3 none)], by kernel_rfl, ?_⟩
      first | (exact ⟨(32 - (i + 1)).toNat, (by omega), i + 1, k + 1, L', K', rfl, (by omega), (by omega), (by omega), hL'.symm, hK'.symm, (by omega)⟩) | (exfalso; omega)
    simp only [decide_eq_false_iff_not] at hq1
    (exfalso; omega)
  have h32 : i = 32 := by omega
  subst h32
  have hk : k = 32 := hk
  subst hk
  obtain ⟨C, hC⟩ : ∃ C, X.take 20 = C := ⟨_, rfl⟩
  obtain ⟨r, hr⟩ : ∃ r, C.length = r := ⟨_, rfl⟩
  have hr2 : r ≤ 20 := by rw [← hr, ← hC, List.length_take]; omega
  have cc := con_cutF X C m r hm 20 (by omega) (by omega) hmm hC hr
  have n100 : (id + 100) % 65536 ∉ K := by rw [hK]; exact fullK_100 id
  have c1 := con_pins_full L K false 1 ((id + 100) % 65536) C r (by omega) n100
  have c2 := fun c => con_pins_longS L 32 K false 1 id c 209 (by omega)
  obtain ⟨L3, hL3⟩ : ∃ L3, keepP (pId ((id + 3) % 65536)) L = L3 := ⟨_, rfl⟩
  obtain ⟨K3, hK3⟩ : ∃ K3, K.erase ((id + 3) % 65536) = K3 := ⟨_, rfl⟩
  have h31 : L3.length = 31 := by rw [← hL3, hL]; exact full_keep t id
  have c3 := con_pdel L 32 hLl (by omega) K false ((id + 3) % 65536) (by rw [hK]; exact fullK_has id) L3 hL3 31 h31 K3 hK3
  have nd : K.Nodup := by rw [hK]; exact fullK_nodup id 32 (by omega)
  have c4 := con_pdel_no L3 31 K3 false ((id + 3) % 65536) (by rw [← hK3]; exact nd.not_mem_erase)
  obtain ⟨L5, hL5⟩ : ∃ L5, insI ⟨1, (id + 100) % 65536, C, r⟩ L3 = L5 := ⟨_, rfl⟩
  obtain ⟨K5, hK5⟩ : ∃ K5, K3 ++ [(id + 100) % 65536] = K5 := ⟨_, rfl⟩
  have c5 := con_pins L3 31 h31 (by omega) (by rw [← hL3, hL]; exact (fullL_sort t id 32).filter _) K3 false 1 ((id + 100) % 65536) C r hr (by omega) (by rw [← hK3]; exact fun h => n100 (List.mem_of_mem_erase h)) L5 hL5 K5 hK5
  have c6 := con_pclr L5 32 (by omega) K5 false
  have c7 := con_pclr0 [] [] false
  obtain ⟨L8, hL8⟩ : ∃ L8, insI ⟨1, id, [], 0⟩ [] = L8 := ⟨_, rfl⟩
  obtain ⟨K8, hK8⟩ : ∃ K8, [] ++ [id] = K8 := ⟨_, rfl⟩
  have c8 := Con.nil4 (con_pins [] 0 rfl (by omega) List.Pairwise.nil [] false 1 id [] 0 rfl (by omega) (by simp) L8 hL8 K8 hK8)
  refine AWP.seq ?_
  refine AWP.regionT tcok hmix [] [0, 1, 2, 6, 7, 17, 18] [170001, 170002, 170003] (os := []) (s' := St.mk [(0, tp (u8 t)), (1, tp (u16 id)), (2, tp (V.vs (u8s X) m)), (6, tp (vb false)), (7, tp (V.ptr 170003 0)), (17, tp (i64 32)), (18, tp (vb false))] [(170001, Blk.mk (idsC K) true 0 (some (0, 0))), (170002, Blk.mk (rowsI L) true 0 (some (79, 3))), (170003, Blk.mk [V.sl 170002 0 32, V.mp 170001, vb false] false 3 none)]) (by kernel_rfl) trivial ?_
  refine AWP.seq ?_
  refine AWP.condF (by kernel_rfl) ?_
  refine AWP.exit ?_
  refine xe1 (os := [u16 (IntKind.wrap IntKind.u16 (id + 100)) = u16 ((id + 100) % 65536), Con Try.prog 27 [] [V.vs (u8s X) m, i64 20] [] (V.vs (u8s C) r), Con Try.prog 24 [(1000000000, Blk.mk (rowsI L) true 0 (some (79, 3))), (2000000010, Blk.mk [V.sl 1000000000 0 32, V.mp 2000000011, vb false] false 3 none), (2000000011, Blk.mk (idsC K) true 0 (some (0, 0)))] [V.ptr 2000000010 0, u32 1, u16 ((id + 100) % 65536), V.vs (u8s C) r] [(1000000000, Blk.mk (rowsI L) true 0 (some (79, 3))), (2000000010, Blk.mk [V.sl 1000000000 0 32, V.mp 2000000011, vb false] false 3 none), (2000000011, Blk.mk (idsC K) true 0 (some (0, 0)))] (i64 6)]) [(2, ⟨some (u16 ((id + 100) % 65536)), none⟩), (4, ⟨none, some ⟨V.vs (u8s C) r, [], []⟩⟩), (5, ⟨some (V.tup [V.sl 1000000000 170002 0, V.sl 2000000010 170003 0, V.sl 2000000011 170001 0]), some ⟨i64 6, [(1000000000, Blk.mk (rowsI L) true 0 (some (79, 3))), (2000000010, Blk.mk [V.sl 1000000000 0 32, V.mp 2000000011, vb false] false 3 none), (2000000011, Blk.mk (idsC K) true 0 (some (0, 0)))], []⟩⟩)] [1, 2, 6, 7, 9] [170003, 170002, 170001] (by kernel_rfl) ⟨wm_u16, (cc ), (c1 ), trivial⟩ ?_
  refine xe1 (os := [Con Try.prog 24 [(1000000000, Blk.mk (rowsI L) true 0 (some (79, 3))), (2000000010, Blk.mk [V.sl 1000000000 0 32, V.mp 2000000011, vb false] false 3 none), (2000000011, Blk.mk (idsC K) true 0 (some (0, 0))), (2000000020, Blk.mk [u8 0, u8 0, u8 0, u8 0, u8 0, u8 0, u8 0, u8 0, u8 0, u8 0, u8 0, u8 0, u8 0, u8 0, u8 0, u8 0, u8 0, u8 0, u8 0, u8 0, u8 0, u8 0, u8 0, u8 0, u8 0, u8 0, u8 0, u8 0, u8 0, u8 0, u8 0, u8 0, u8 0, u8 0, u8 0, u8 0, u8 0, u8 0, u8 0, u8 0, u8 0, u8 0, u8 0, u8 0, u8 0, u8 0, u8 0, u8 0, u8 0, u8 0, u8 0, u8 0, u8 0, u8 0, u8 0, u8 0, u8 0, u8 0, u8 0, u8 0, u8 0, u8 0, u8 0, u8 0, u8 0, u8 0, u8 0, u8 0, u8 0, u8 0, u8 0, u8 0, u8 0, u8 0, u8 0, u8 0, u8 0, u8 0, u8 0, u8 0, u8 0, u8 0, u8 0, u8 0, u8 0, u8 0, u8 0, u8 0, u8 0, u8 0, u8 0, u8 0, u8 0, u8 0, u8 0, u8 0, u8 0, u8 0, u8 0, u8 0, u8 0, u8 0, u8 0, u8 0, u8 0, u8 0, u8 0, u8 0, u8 0, u8 0, u8 0, u8 0, u8 0, u8 0, u8 0, u8 0, u8 0, u8 0, u8 0, u8 0, u8 0, u8 0, u8 0, u8 0, u8 0, u8 0, u8 0, u8 0, u8 0, u8 0, u8 0, u8 0, u8 0, u8 0, u8 0, u8 0, u8 0, u8 0, u8 0, u8 0, u8 0, u8 0, u8 0, u8 0, u8 0, u8 0, u8 0, u8 0, u8 0, u8 0, u8 0, u8 0, u8 0, u8 0, u8 0, u8 0, u8 0, u8 0, u8 0, u8 0, u8 0, u8 0, u8 0, u8 0, u8 0, u8 0, u8 0, u8 0, u8 0, u8 0, u8 0, u8 0, u8 0, u8 0, u8 0, u8 0, u8 0, u8 0, u8 0, u8 0, u8 0, u8 0, u8 0, u8 0, u8 0, u8 0, u8 0, u8 0, u8 0, u8 0, u8 0, u8 0, u8 0, u8 0, u8 0, u8 0, u8 0, u8 0, u8 0, u8 0, u8 0, u8 0, u8 0, u8 0, u8 0, u8 0, u8 0, u8 0, u8 0] true 0 (some (5, 1)))] [V.ptr 2000000010 0, u32 1, u16 id, V.sl 2000000020 0 209] [(1000000000, Blk.mk (rowsI L) true 0 (some (79, 3))), (2000000010, Blk.mk [V.sl 1000000000 0 32, V.mp 2000000011, vb false] false 3 none), (2000000011, Blk.mk (idsC K) true 0 (some (0, 0))), (2000000020, Blk.mk [u8 0, u8 0, u8 0, u8 0, u8 0, u8 0, u8 0, u8 0, u8 0, u8 0, u8 0, u8 0, u8 0, u8 0, u8 0, u8 0, u8 0, u8 0, u8 0, u8 0, u8 0, u8 0, u8 0, u8 0, u8 0, u8 0, u8 0, u8 0, u8 0, u8 0, u8 0, u8 0, u8 0, u8 0, u8 0, u8 0, u8 0, u8 0, u8 0, u8 0, u8 0, u8 0, u8 0, u8 0, u8 0, u8 0, u8 0, u8 0, u8 0, u8 0, u8 0, u8 0, u8 0, u8 0, u8 0, u8 0, u8 0, u8 0, u8 0, u8 0, u8 0, u8 0, u8 0, u8 0, u8 0, u8 0, u8 0, u8 0, u8 0, u8 0, u8 0, u8 0, u8 0, u8 0, u8 0, u8 0, u8 0, u8 0, u8 0, u8 0, u8 0, u8 0, u8 0, u8 0, u8 0, u8 0, u8 0, u8 0, u8 0, u8 0, u8 0, u8 0, u8 0, u8 0, u8 0, u8 0, u8 0, u8 0, u8 0, u8 0, u8 0, u8 0, u8 0, u8 0, u8 0, u8 0, u8 0, u8 0, u8 0, u8 0, u8 0, u8 0, u8 0, u8 0, u8 0, u8 0, u8 0, u8 0, u8 0, u8 0, u8 0, u8 0, u8 0, u8 0, u8 0, u8 0, u8 0, u8 0, u8 0, u8 0, u8 0, u8 0, u8 0, u8 0, u8 0, u8 0, u8 0, u8 0, u8 0, u8 0, u8 0, u8 0, u8 0, u8 0, u8 0, u8 0, u8 0, u8 0, u8 0, u8 0, u8 0, u8 0, u8 0, u8 0, u8 0, u8 0, u8 0, u8 0, u8 0, u8 0, u8 0, u8 0, u8 0, u8 0, u8 0, u8 0, u8 0, u8 0, u8 0, u8 0, u8 0, u8 0, u8 0, u8 0, u8 0, u8 0, u8 0, u8 0, u8 0, u8 0, u8 0, u8 0, u8 0, u8 0, u8 0, u8 0, u8 0, u8 0, u8 0, u8 0, u8 0, u8 0, u8 0, u8 0, u8 0, u8 0, u8 0, u8 0, u8 0, u8 0, u8 0, u8 0, u8 0, u8 0, u8 0, u8 0, u8 0, u8 0, u8 0] true 0 (some (5, 1)))] (i64 4)]) [(3, ⟨some (V.tup [V.sl 1000000000 170002 0, V.sl 2000000010 170003 0, V.sl 2000000011 170001 0, V.sl 2000000020 47 0]), some ⟨i64 4, [(1000000000, Blk.mk (rowsI L) true 0 (some (79, 3))), (2000000010, Blk.mk [V.sl 1000000000 0 32, V.mp 2000000011, vb false] false 3 none), (2000000011, Blk.mk (idsC K) true 0 (some (0, 0))), (2000000020, Blk.mk [u8 0, u8 0, u8 0, u8 0, u8 0, u8 0, u8 0, u8 0, u8 0, u8 0, u8 0, u8 0, u8 0, u8 0, u8 0, u8 0, u8 0, u8 0, u8 0, u8 0, u8 0, u8 0, u8 0, u8 0, u8 0, u8 0, u8 0, u8 0, u8 0, u8 0, u8 0, u8 0, u8 0, u8 0, u8 0, u8 0, u8 0, u8 0, u8 0, u8 0, u8 0, u8 0, u8 0, u8 0, u8 0, u8 0, u8 0, u8 0, u8 0, u8 0, u8 0, u8 0, u8 0, u8 0, u8 0, u8 0, u8 0, u8 0, u8 0, u8 0, u8 0, u8 0, u8 0, u8 0, u8 0, u8 0, u8 0, u8 0, u8 0, u8 0, u8 0, u8 0, u8 0, u8 0, u8 0, u8 0, u8 0, u8 0, u8 0, u8 0, u8 0, u8 0, u8 0, u8 0, u8 0, u8 0, u8 0, u8 0, u8 0, u8 0, u8 0, u8 0, u8 0, u8 0, u8 0, u8 0, u8 0, u8 0, u8 0, u8 0, u8 0, u8 0, u8 0, u8 0, u8 0, u8 0, u8 0, u8 0, u8 0, u8 0, u8 0, u8 0, u8 0, u8 0, u8 0, u8 0, u8 0, u8 0, u8 0, u8 0, u8 0, u8 0, u8 0, u8 0, u8 0, u8 0, u8 0, u8 0, u8 0, u8 0, u8 0, u8 0, u8 0, u8 0, u8 0, u8 0, u8 0, u8 0, u8 0, u8 0, u8 0, u8 0, u8 0, u8 0, u8 0, u8 0, u8 0, u8 0, u8 0, u8 0, u8 0, u8 0, u8 0, u8 0, u8 0, u8 0, u8 0, u8 0, u8 0, u8 0, u8 0, u8 0, u8 0, u8 0, u8 0, u8 0, u8 0, u8 0, u8 0, u8 0, u8 0, u8 0, u8 0, u8 0, u8 0, u8 0, u8 0, u8 0, u8 0, u8 0, u8 0, u8 0, u8 0, u8 0, u8 0, u8 0, u8 0, u8 0, u8 0, u8 0, u8 0, u8 0, u8 0, u8 0, u8 0, u8 0, u8 0, u8 0, u8 0, u8 0, u8 0, u8 0, u8 0, u8 0, u8 0, u8 0, u8 0, u8 0, u8 0] true 0 (some (5, 1)))], []⟩⟩)] [1, 2, 6, 7, 9, 10] [170003, 170002, 170001] (by kernel_rfl) ⟨(c2 ([u8 0, u8 0, u8 0, u8 0, u8 0, u8 0, u8 0, u8 0, u8 0, u8 0, u8 0, u8 0, u8 0, u8 0, u8 0, u8 0, u8 0, u8 0, u8 0, u8 0, u8 0, u8 0, u8 0, u8 0, u8 0, u8 0, u8 0, u8 0, u8 0, u8 0, u8 0, u8 0, u8 0, u8 0, u8 0, u8 0, u8 0, u8 0, u8 0, u8 0, u8 0, u8 0, u8 0, u8 0, u8 0, u8 0, u8 0, u8 0, u8 0, u8 0, u8 0, u8 0, u8 0, u8 0, u8 0, u8 0, u8 0, u8 0, u8 0, u8 0, u8 0, u8 0, u8 0, u8 0, u8 0, u8 0, u8 0, u8 0, u8 0, u8 0, u8 0, u8 0, u8 0, u8 0, u8 0, u8 0, u8 0, u8 0, u8 0, u8 0, u8 0, u8 0, u8 0, u8 0, u8 0, u8 0, u8 0, u8 0, u8 0, u8 0, u8 0, u8 0, u8 0, u8 0, u8 0, u8 0, u8 0, u8 0, u8 0, u8 0, u8 0, u8 0, u8 0, u8 0, u8 0, u8 0, u8 0, u8 0, u8 0, u8 0, u8 0, u8 0, u8 0, u8 0, u8 0, u8 0, u8 0, u8 0, u8 0, u8 0, u8 0, u8 0, u8 0, u8 0, u8 0, u8 0, u8 0, u8 0, u8 0, u8 0, u8 0, u8 0, u8 0, u8 0, u8 0, u8 0, u8 0, u8 0, u8 0, u8 0, u8 0, u8 0, u8 0, u8 0, u8 0, u8 0, u8 0, u8 0, u8 0, u8 0, u8 0, u8 0, u8 0, u8 0, u8 0, u8 0, u8 0, u8 0, u8 0, u8 0, u8 0, u8 0, u8 0, u8 0, u8 0, u8 0, u8 0, u8 0, u8 0, u8 0, u8 0, u8 0, u8 0, u8 0, u8 0, u8 0, u8 0, u8 0, u8 0, u8 0, u8 0, u8 0, u8 0, u8 0, u8 0, u8 0, u8 0, u8 0, u8 0, u8 0, u8 0, u8 0, u8 0, u8 0, u8 0, u8 0, u8 0, u8 0, u8 0, u8 0, u8 0, u8 0, u8 0, u8 0, u8 0, u8 0, u8 0, u8 0, u8 0])), trivial⟩ ?_
  refine xe1 (os := [u16 (IntKind.wrap IntKind.u16 (id + 3)) = u16 ((id + 3) % 65536), Con Try.prog 28 [(1000000000, Blk.mk (rowsI L) true 0 (some (79, 3))), (2000000010, Blk.mk [V.sl 1000000000 0 32, V.mp 2000000011, vb false] false 3 none), (2000000011, Blk.mk (idsC K) true 0 (some (0, 0)))] [V.ptr 2000000010 0, u16 ((id + 3) % 65536)] [(1000000000, Blk.mk (rowsI L3) true 0 (some (79, 3))), (2000000010, Blk.mk [V.sl 1000000000 0 31, V.mp 2000000011, vb false] false 3 none), (2000000011, Blk.mk (idsC K3) true 0 (some (0, 0)))] (i64 0)]) [(2, ⟨some (u16 ((id + 3) % 65536)), none⟩), (3, ⟨some (V.tup [V.sl 1000000000 170002 0, V.sl 2000000010 170003 0, V.sl 2000000011 170001 0]), some ⟨i64 0, [(1000000000, Blk.mk (rowsI L3) true 0 (some (79, 3))), (2000000010, Blk.mk [V.sl 1000000000 0 31, V.mp 2000000011, vb false] false 3 none), (2000000011, Blk.mk (idsC K3) true 0 (some (0, 0)))], []⟩⟩)] [1, 2, 6, 7, 9, 10, 11] [170003, 170002, 170001] (by kernel_rfl) ⟨wm_u16, (c3 ), trivial⟩ ?_
  refine xe1 (os := [u16 (IntKind.wrap IntKind.u16 (id + 3)) = u16 ((id + 3) % 65536), Con Try.prog 28 [(1000000000, Blk.mk (rowsI L3) true 0 (some (79, 3))), (2000000010, Blk.mk [V.sl 1000000000 0 31, V.mp 2000000011, vb false] false 3 none), (2000000011, Blk.mk (idsC K3) true 0 (some (0, 0)))] [V.ptr 2000000010 0, u16 ((id + 3) % 65536)] [(1000000000, Blk.mk (rowsI L3) true 0 (some (79, 3))), (2000000010, Blk.mk [V.sl 1000000000 0 31, V.mp 2000000011, vb false] false 3 none), (2000000011, Blk.mk (idsC K3) true 0 (some (0, 0)))] (i64 3)]) [(2, ⟨some (u16 ((id + 3) % 65536)), none⟩), (3, ⟨some (V.tup [V.sl 1000000000 170002 0, V.sl 2000000010 170003 0, V.sl 2000000011 170001 0]), some ⟨i64 3, [(1000000000, Blk.mk (rowsI L3) true 0 (some (79, 3))), (2000000010, Blk.mk [V.sl 1000000000 0 31, V.mp 2000000011, vb false] false 3 none), (2000000011, Blk.mk (idsC K3) true 0 (some (0, 0)))], []⟩⟩)] [1, 2, 6, 7, 9, 10, 11, 12] [170003, 170002, 170001] (by kernel_rfl) ⟨wm_u16, (c4 ), trivial⟩ ?_
  refine xe1 (os := [u16 (IntKind.wrap IntKind.u16 (id + 100)) = u16 ((id + 100) % 65536), Con Try.prog 27 [] [V.vs (u8s X) m, i64 20] [] (V.vs (u8s C) r), Con Try.prog 24 [(1000000000, Blk.mk (rowsI L3) true 0 (some (79, 3))), (2000000010, Blk.mk [V.sl 1000000000 0 31, V.mp 2000000011, vb false] false 3 none), (2000000011, Blk.mk (idsC K3) true 0 (some (0, 0)))] [V.ptr 2000000010 0, u32 1, u16 ((id + 100) % 65536), V.vs (u8s C) r] [(1000000000, Blk.mk (rowsI L5) true 0 (some (79, 3))), (2000000010, Blk.mk [V.sl 1000000000 0 32, V.mp 2000000011, vb false] false 3 none), (2000000011, Blk.mk (idsC K5) true 0 (some (0, 0)))] (i64 0)]) [(2, ⟨some (u16 ((id + 100) % 65536)), none⟩), (4, ⟨none, some ⟨V.vs (u8s C) r, [], []⟩⟩), (5, ⟨some (V.tup [V.sl 1000000000 170002 0, V.sl 2000000010 170003 0, V.sl 2000000011 170001 0]), some ⟨i64 0, [(1000000000, Blk.mk (rowsI L5) true 0 (some (79, 3))), (2000000010, Blk.mk [V.sl 1000000000 0 (31 + 1), V.mp 2000000011, vb false] false 3 none), (2000000011, Blk.mk (idsC K5) true 0 (some (0, 0)))], []⟩⟩)] [1, 6, 7, 9, 10, 11, 12, 13] [170003, 170002, 170001] (by kernel_rfl) ⟨wm_u16, (cc ), (c5 ), trivial⟩ ?_
  refine xe1 (os := [Con Try.prog 29 [(1000000000, Blk.mk (rowsI L5) true 0 (some (79, 3))), (2000000010, Blk.mk [V.sl 1000000000 0 32, V.mp 2000000011, vb false] false 3 none), (2000000011, Blk.mk (idsC K5) true 0 (some (0, 0)))] [V.ptr 2000000010 0] [(1000000000, Blk.mk [] true 0 (some (79, 3))), (2000000010, Blk.mk [V.sl 1000000000 0 0, V.mp 2000000011, vb false] false 3 none), (2000000011, Blk.mk [] true 0 (some (0, 0)))] (i64 32), Con Try.prog 29 [(1000000000, Blk.mk [] true 0 (some (79, 3))), (2000000010, Blk.mk [V.sl 1000000000 0 0, V.mp 2000000011, vb false] false 3 none), (2000000011, Blk.mk [] true 0 (some (0, 0)))] [V.ptr 2000000010 0] [(1000000000, Blk.mk [] true 0 (some (79, 3))), (2000000010, Blk.mk [V.sl 1000000000 0 0, V.mp 2000000011, vb false] false 3 none), (2000000011, Blk.mk [] true 0 (some (0, 0)))] (i64 0), Con Try.prog 24 [(1000000000, Blk.mk [] true 0 (some (79, 3))), (2000000010, Blk.mk [V.sl 1000000000 0 0, V.mp 2000000011, vb false] false 3 none), (2000000011, Blk.mk [] true 0 (some (0, 0)))] [V.ptr 2000000010 0, u32 1, u16 id, V.val (Value.slice none 0 0)] [(1000000000, Blk.mk (rowsI L8) true 0 (some (79, 3))), (2000000010, Blk.mk [V.sl 1000000000 0 1, V.mp 2000000011, vb false] false 3 none), (2000000011, Blk.mk (idsC K8) true 0 (some (0, 0)))] (i64 0)]) [(20, ⟨some (V.tup [V.sl 1000000000 170002 0, V.sl 2000000010 170003 0, V.sl 2000000011 170001 0]), some ⟨i64 (↑32 : Int), [(1000000000, Blk.mk [] true 0 (some (79, 3))), (2000000010, Blk.mk [V.sl 1000000000 0 0, V.mp 2000000011, vb false] false 3 none), (2000000011, Blk.mk [] true 0 (some (0, 0)))], []⟩⟩), (25, ⟨some (V.tup [V.sl 1000000000 170002 0, V.sl 2000000010 170003 0, V.sl 2000000011 170001 0]), some ⟨i64 0, [(1000000000, Blk.mk (rowsI []) true 0 (some (79, 3))), (2000000010, Blk.mk [V.sl 1000000000 0 0, V.mp 2000000011, vb false] false 3 none), (2000000011, Blk.mk (idsC []) true 0 (some (0, 0)))], []⟩⟩), (31, ⟨some (V.tup [V.sl 1000000000 170002 0, V.sl 2000000010 170003 0, V.sl 2000000011 170001 0]), some ⟨i64 0, [(1000000000, Blk.mk (rowsI L8) true 0 (some (79, 3))), (2000000010, Blk.mk [V.sl 1000000000 0 (0 + 1), V.mp 2000000011, vb false] false 3 none), (2000000011, Blk.mk (idsC K8) true 0 (some (0, 0)))], []⟩⟩)] [6] [] (by kernel_rfl) ⟨(c6 ), (c7 ), (c8 ), trivial⟩ ?_
  refine AWP.ret ?_
  refine ⟨Or.inr rfl, Eq.trans (b := some ([], vb true)) (by kernel_rfl) ?_⟩
  first | rfl | (exfalso; omega)
theorem bytes_of {raw : V} (hr : TyV tc 9 61 raw) : ∃ l : List Int, raw = .vs (u8s l) l.length ∧ BL l ∧ l.length ≤ 9223372036854775807 := by
  obtain ⟨cs, n, e1, hn, hr1⟩ := hr
  obtain ⟨l, rfl, rfl, hl⟩ := bytes_rows (fun r hr => by obtain ⟨z, rfl, z1, z2⟩ := hr; exact ⟨z, rfl, z1, Int.lt_add_one_of_le z2⟩) hr1
  cases e1
  exact ⟨l, rfl, hl, hn⟩
theorem law_PlanFull (x y z : V) (hx : TyV tc 9 5 x) (hy : TyV tc 9 65 y) (hz : TyV tc 9 61 z) : Con Try.prog 7 [] [x, y, z] [] (vb true) := by
  obtain ⟨t, e, p1, p2⟩ := hx
  cases e
  obtain ⟨id, e2, q1, q2⟩ := hy
  cases e2
  obtain ⟨l, rfl, hl, hll⟩ := bytes_of hz
  exact law_full t id ⟨p1, Int.lt_add_one_of_le p2⟩ ⟨q1, Int.lt_add_one_of_le q2⟩ l l.length rfl hll
end Go.Proofs.Ytlfjnkobnkfioaa
