/- A call of each machine, in one word. -/
import Derived.Test.YtlfjnkobnkfioaaPlnYd
namespace Go.Proofs.Ytlfjnkobnkfioaa
open Go.Ab
set_option linter.unusedSimpArgs false
set_option linter.unusedVariables false
abbrev hP (L : List It) (n : Nat) (off : Bool) (K : List Int) : List (Nat × Blk) := [(1000000000, ⟨rowsI L, true, 0, some (79, 3)⟩), (2000000010, ⟨[.sl 1000000000 0 n, .mp 2000000011, vb off], false, 3, none⟩), (2000000011, ⟨idsC K, true, 0, some (0, 0)⟩)]
abbrev hR (L : List It) (n : Nat) (off : Bool) : List (Nat × Blk) := [(1000000000, ⟨rowsI L, true, 0, some (96, 3)⟩), (2000000030, ⟨[.sl 1000000000 0 n, vb off], false, 2, none⟩)]
theorem con_dop (L : List It) (hL : PlOk L) (off : Bool) (K : List Int) (hK : KOk K L) (a : Ac) (ha : AcOk a) : ∃ K', KOk K' (nx L off a).L ∧
    Con Try.prog 34 (hP L L.length off K) [.ptr 2000000010 0, a.v] (hP (nx L off a).L (nx L off a).L.length (nx L off a).off K') (.tup [i64 (nx L off a).code, .vs (tcC (nx L off a).out) (nx L off a).out.length]) := by
  obtain ⟨d, t, id, c, k, b, on⟩ := a
  obtain ⟨hd, ht, hb, hc, hk⟩ := ha
  have hd : 0 ≤ d ∧ d < 256 := hd
  have ht : 0 ≤ t ∧ t ≤ 4294967295 := ht
  have hb : -2147483648 ≤ b ∧ b ≤ 2147483647 := hb
  have hc : c.length = k := hc
  have hn := hL.n
  have hme := hK.mem id
  by_cases h3 : d % 8 = 3
  · by_cases hid : id ∈ L.map It.id
    · have e : nx L off ⟨d, t, id, c, k, b, on⟩ = ⟨keepP (pId id) L, off, 0, []⟩ := by unfold nx; rw [if_pos h3, if_pos hid]
      rw [e]
      exact ⟨_, hK.del hL.id id, con_dop_del L _ rfl (by omega) K off d t id b hd c k on h3 (hme.2 hid) _ rfl _ rfl _ rfl⟩
    · have e : nx L off ⟨d, t, id, c, k, b, on⟩ = ⟨L, off, 3, []⟩ := by unfold nx; rw [if_pos h3, if_neg hid]
      rw [e]
      exact ⟨_, hK, con_dop_delno L _ rfl (by omega) K off d t id b hd c k on h3 (fun h => hid (hme.1 h))⟩
  by_cases h4 : d % 8 = 4
  · cases off with
    | true =>
      have e : nx L true ⟨d, t, id, c, k, b, on⟩ = ⟨L, true, 0, []⟩ := by unfold nx; rw [if_neg h3, if_pos h4]; rfl
      rw [e]
      exact ⟨_, hK, con_dop_dueoff L _ rfl (by omega) K true d t id b hd c k on h4 rfl⟩
    | false =>
      have e : nx L false ⟨d, t, id, c, k, b, on⟩ = ⟨L.drop (posI t L), false, 0, L.take (posI t L)⟩ := by unfold nx; rw [if_neg h3, if_pos h4]; rfl
      rw [e]
      have hp := posI_le t L
      have e1 : (L.take (posI t L)).length = posI t L := by rw [List.length_take]; omega
      have e2 : (L.drop (posI t L)).length = L.length - posI t L := List.length_drop ..
      refine ⟨_, hK.due (posI t L), ?_⟩
      show Con _ _ _ _ (hP _ (L.drop (posI t L)).length false _) (.tup [i64 0, .vs (tcC (L.take (posI t L))) (L.take (posI t L)).length])
      rw [e1, e2]
      exact con_dop_due L _ rfl (by omega) K false d t id b hd c k on h4 rfl _ rfl _ rfl _ rfl _ rfl
  by_cases h5 : d % 8 = 5
  · have e : nx L off ⟨d, t, id, c, k, b, on⟩ = ⟨L.map (shI b), off, L.length, []⟩ := by unfold nx; rw [if_neg h3, if_neg h4, if_pos h5]
    rw [e]
    refine ⟨K, ?_, ?_⟩
    · show K.Perm ((L.map (shI b)).map It.id)
      rw [List.map_map]
      exact hK
    · show Con _ _ _ _ (hP _ (L.map (shI b)).length off _) _
      rw [List.length_map]
      exact con_dop_shift L _ rfl (by omega) K off d t id b hd c k on h5 hL.t hb _ rfl
  by_cases h6 : d % 8 = 6
  · have e : nx L off ⟨d, t, id, c, k, b, on⟩ = ⟨L, !on, 0, []⟩ := by unfold nx; rw [if_neg h3, if_neg h4, if_neg h5, if_pos h6]
    rw [e]
    exact ⟨_, hK, con_dop_en L _ rfl (by omega) K off d t id b hd c k on h6 _ rfl⟩
  by_cases h7 : d % 8 = 7
  · have e : nx L off ⟨d, t, id, c, k, b, on⟩ = ⟨[], off, L.length, []⟩ := by unfold nx; rw [if_neg h3, if_neg h4, if_neg h5, if_neg h6, if_pos h7]
    rw [e]
    by_cases h0 : 0 < L.length
    · exact ⟨[], List.Perm.nil, con_dop_clr L _ rfl (by omega) K off d t id b hd c k on h7 h0⟩
    · have hl0 : L = [] := List.eq_nil_of_length_eq_zero (by omega)
      subst hl0
      exact ⟨K, hK, con_dop_clr0 [] 0 rfl (by omega) K off d t id b hd c k on h7 rfl⟩
  have h8 : d % 8 < 3 := by omega
  by_cases h208 : 208 < k
  · have e : nx L off ⟨d, t, id, c, k, b, on⟩ = ⟨L, off, 4, []⟩ := by unfold nx; rw [if_neg h3, if_neg h4, if_neg h5, if_neg h6, if_neg h7, if_pos h208]
    rw [e]
    exact ⟨_, hK, con_dop_long L _ rfl (by omega) K off d t id b hd c k on h8 h208⟩
  by_cases hid : id ∈ L.map It.id
  · have e : nx L off ⟨d, t, id, c, k, b, on⟩ = ⟨L, off, 8, []⟩ := by unfold nx; rw [if_neg h3, if_neg h4, if_neg h5, if_neg h6, if_neg h7, if_neg h208, if_pos hid]
    rw [e]
    exact ⟨_, hK, con_dop_has L _ rfl (by omega) K off d t id b hd c k on h8 (by omega) (hme.2 hid)⟩
  by_cases h32 : L.length = 32
  · have e : nx L off ⟨d, t, id, c, k, b, on⟩ = ⟨L, off, 6, []⟩ := by unfold nx; rw [if_neg h3, if_neg h4, if_neg h5, if_neg h6, if_neg h7, if_neg h208, if_neg hid, if_pos h32]
    rw [e]
    exact ⟨_, hK, con_dop_full L _ rfl (by omega) K off d t id b hd c k on h8 (by omega) (fun h => hid (hme.1 h)) h32⟩
  · have e : nx L off ⟨d, t, id, c, k, b, on⟩ = ⟨insI ⟨t, id, c, k⟩ L, off, 0, []⟩ := by unfold nx; rw [if_neg h3, if_neg h4, if_neg h5, if_neg h6, if_neg h7, if_neg h208, if_neg hid, if_neg h32]
    rw [e]
    refine ⟨_, hK.ins ⟨t, id, c, k⟩, ?_⟩
    show Con _ _ _ _ (hP _ (insI ⟨t, id, c, k⟩ L).length off _) _
    rw [insI_len]
    exact con_dop_ins L _ rfl (by omega) K off d t id b hd c k on h8 (by omega) hL.s hc (by omega) (fun h => hid (hme.1 h)) _ rfl _ rfl
theorem con_dor (L : List It) (hL : PlOk L) (off : Bool) (a : Ac) (ha : AcOk a) :
    Con Try.prog 33 (hR L L.length off) [.ptr 2000000030 0, a.v] (hR (nx L off a).L (nx L off a).L.length (nx L off a).off) (.tup [i64 (nx L off a).code, .vs (tcC (nx L off a).out) (nx L off a).out.length]) := by
  obtain ⟨d, t, id, c, k, b, on⟩ := a
  obtain ⟨hd, ht, hb, hc, hk⟩ := ha
  have hd : 0 ≤ d ∧ d < 256 := hd
  have ht : 0 ≤ t ∧ t ≤ 4294967295 := ht
  have hb : -2147483648 ≤ b ∧ b ≤ 2147483647 := hb
  have hc : c.length = k := hc
  have hn := hL.n
  have hno : id ∉ L.map It.id → atP id L L.length = -1 := fun h => atP_none (fun x hx e => h (List.mem_map.2 ⟨x, hx, e⟩)) _
  by_cases h3 : d % 8 = 3
  · by_cases hid : id ∈ L.map It.id
    · have e : nx L off ⟨d, t, id, c, k, b, on⟩ = ⟨keepP (pId id) L, off, 0, []⟩ := by unfold nx; rw [if_pos h3, if_pos hid]
      rw [e]
      obtain ⟨k0, q1, q2, q3⟩ := atP_in hL.id hid
      have q4 : (keepP (pId id) L).length = L.length - 1 := by
        rw [← q3, List.length_append, List.length_take, List.length_drop]
        omega
      show Con _ _ _ _ (hR _ (keepP (pId id) L).length off) _
      rw [q4]
      exact con_do_del L _ rfl (by omega) off d t id b hd c k on h3 k0 q1 q2 _ q3
    · have e : nx L off ⟨d, t, id, c, k, b, on⟩ = ⟨L, off, 3, []⟩ := by unfold nx; rw [if_pos h3, if_neg hid]
      rw [e]
      exact con_do_delno L _ rfl (by omega) off d t id b hd c k on h3 (hno hid)
  by_cases h4 : d % 8 = 4
  · cases off with
    | true =>
      have e : nx L true ⟨d, t, id, c, k, b, on⟩ = ⟨L, true, 0, []⟩ := by unfold nx; rw [if_neg h3, if_pos h4]; rfl
      rw [e]
      exact con_do_dueoff L _ rfl (by omega) true d t id b hd c k on h4 rfl
    | false =>
      have e : nx L false ⟨d, t, id, c, k, b, on⟩ = ⟨L.drop (posI t L), false, 0, L.take (posI t L)⟩ := by unfold nx; rw [if_neg h3, if_pos h4]; rfl
      rw [e]
      have hp := posI_le t L
      have e1 : (L.take (posI t L)).length = posI t L := by rw [List.length_take]; omega
      have e2 : (L.drop (posI t L)).length = L.length - posI t L := List.length_drop ..
      show Con _ _ _ _ (hR _ (L.drop (posI t L)).length false) (.tup [i64 0, .vs (tcC (L.take (posI t L))) (L.take (posI t L)).length])
      rw [e1, e2]
      exact con_do_due L _ rfl (by omega) false d t id b hd c k on h4 rfl hL.s _ rfl _ rfl _ rfl
  by_cases h5 : d % 8 = 5
  · have e : nx L off ⟨d, t, id, c, k, b, on⟩ = ⟨L.map (shI b), off, L.length, []⟩ := by unfold nx; rw [if_neg h3, if_neg h4, if_pos h5]
    rw [e]
    show Con _ _ _ _ (hR _ (L.map (shI b)).length off) _
    rw [List.length_map]
    exact con_do_shift L _ rfl (by omega) off d t id b hd c k on h5 hL.t hb _ rfl
  by_cases h6 : d % 8 = 6
  · have e : nx L off ⟨d, t, id, c, k, b, on⟩ = ⟨L, !on, 0, []⟩ := by unfold nx; rw [if_neg h3, if_neg h4, if_neg h5, if_pos h6]
    rw [e]
    exact con_do_en L _ rfl (by omega) off d t id b hd c k on h6 _ rfl
  by_cases h7 : d % 8 = 7
  · have e : nx L off ⟨d, t, id, c, k, b, on⟩ = ⟨[], off, L.length, []⟩ := by unfold nx; rw [if_neg h3, if_neg h4, if_neg h5, if_neg h6, if_pos h7]
    rw [e]
    exact con_do_clr L _ rfl (by omega) off d t id b hd c k on h7
  have h8 : d % 8 < 3 := by omega
  by_cases h208 : 208 < k
  · have e : nx L off ⟨d, t, id, c, k, b, on⟩ = ⟨L, off, 4, []⟩ := by unfold nx; rw [if_neg h3, if_neg h4, if_neg h5, if_neg h6, if_neg h7, if_pos h208]
    rw [e]
    exact con_do_long L _ rfl (by omega) off d t id b hd c k on h8 h208
  by_cases hid : id ∈ L.map It.id
  · have e : nx L off ⟨d, t, id, c, k, b, on⟩ = ⟨L, off, 8, []⟩ := by unfold nx; rw [if_neg h3, if_neg h4, if_neg h5, if_neg h6, if_neg h7, if_neg h208, if_pos hid]
    rw [e]
    obtain ⟨k0, q1, q2, q3⟩ := atP_in hL.id hid
    exact con_do_has L _ rfl (by omega) off d t id b hd c k on h8 (by omega) (by omega)
  by_cases h32 : L.length = 32
  · have e : nx L off ⟨d, t, id, c, k, b, on⟩ = ⟨L, off, 6, []⟩ := by unfold nx; rw [if_neg h3, if_neg h4, if_neg h5, if_neg h6, if_neg h7, if_neg h208, if_neg hid, if_pos h32]
    rw [e]
    exact con_do_full L _ rfl (by omega) off d t id b hd c k on h8 (by omega) (hno hid) h32
  · have e : nx L off ⟨d, t, id, c, k, b, on⟩ = ⟨insI ⟨t, id, c, k⟩ L, off, 0, []⟩ := by unfold nx; rw [if_neg h3, if_neg h4, if_neg h5, if_neg h6, if_neg h7, if_neg h208, if_neg hid, if_neg h32]
    rw [e]
    show Con _ _ _ _ (hR _ (insI ⟨t, id, c, k⟩ L).length off) _
    rw [insI_len]
    exact con_do_ins L _ rfl (by omega) off d t id b hd c k on h8 (by omega) (hno hid) (by omega) hL.s _ rfl
end Go.Proofs.Ytlfjnkobnkfioaa
