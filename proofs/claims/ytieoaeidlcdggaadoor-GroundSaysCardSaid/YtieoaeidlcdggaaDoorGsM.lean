/- A command's phrase. -/
import Derived.Test.YtieoaeidlcdggaaDoorRg
import Derived.Test.YtieoaeidlcdggaaDoorGsL
namespace Go.Proofs.YtieoaeidlcdggaaDoor
open Go Go.Ab
set_option linter.unusedSimpArgs false
set_option linter.unusedVariables false
set_option maxRecDepth 100000
def isK (a b : Int) (w : Wd) : Bool := (a == w.a) && (b == w.b)
theorem evEq_kind (a b c d : Int) : evEq tc 4 52 (.agg true [u8 a, u8 b]) (.agg true [u8 c, u8 d]) = some ((a == c) && ((b == d) && true)) := rfl
theorem evEq_wd (a b : Int) (w : Wd) : evEq tc 4 52 (.agg true [u8 a, u8 b]) (wkv w).1 = some (isK a b w) := by
  show evEq tc 4 52 (.agg true [u8 a, u8 b]) (.agg true [u8 w.a, u8 w.b]) = _
  rw [evEq_kind]
  simp [isK]
theorem kinds_nodup : (wds.map fun w => (w.a, w.b)).Nodup := by decide +kernel
def wz : V := .agg true [strV ⟨#[]⟩, i64 0]
theorem mget_none (a b : Int) (h : wds.find? (isK a b) = none) : mget tc 52 wz true mcells (.agg true [u8 a, u8 b]) = some (.tup [wz, vb false]) := by
  unfold mget
  have : mfind tc 52 (.agg true [u8 a, u8 b]) (flatP kvs) 0 = some none := mfind_none.2 fun p hp => by
    obtain ⟨w, hw, rfl⟩ := List.mem_map.1 hp
    have := List.find?_eq_none.1 h w hw
    rw [evEq_wd]
    simpa using this
  rw [show mcells = flatP kvs from rfl, this]
  rfl
theorem mget_some (a b : Int) (w : Wd) (h : wds.find? (isK a b) = some w) : mget tc 52 wz true mcells (.agg true [u8 a, u8 b]) = some (.tup [.agg true [strV w.nm, i64 w.n], vb true]) := by
  unfold mget
  obtain ⟨h1, xa, bs, h2, h3⟩ := List.find?_eq_some_iff_append.1 h
  have hk : kvs = xa.map wkv ++ wkv w :: bs.map wkv := by rw [kvs, h2, List.map_append, List.map_cons]
  have hn := kinds_nodup
  rw [h2, List.map_append, List.map_cons] at hn
  have hf : mfind tc 52 (.agg true [u8 a, u8 b]) (flatP kvs) 0 = some (some xa.length) := mfind_some.2 ⟨xa.map wkv, wkv w, bs.map wkv, hk, by simp, by rw [evEq_wd, h1], fun p hp => by
    obtain ⟨w', hw', rfl⟩ := List.mem_map.1 hp
    rw [evEq_wd]
    simpa using h3 w' hw', fun p hp => by
    obtain ⟨w', hw', rfl⟩ := List.mem_map.1 hp
    rw [evEq_wd]
    cases hb : isK a b w' with
    | false => rfl
    | true =>
      exfalso
      have h4 := (List.nodup_cons.1 (List.nodup_append.1 hn).2.1).1
      refine h4 (List.mem_map.2 ⟨w', hw', ?_⟩)
      simp only [isK, Bool.and_eq_true, beq_iff_eq] at hb h1
      rw [← hb.1, ← hb.2, ← h1.1, ← h1.2]⟩
  rw [show mcells = flatP kvs from rfl, hf]
  have e := gI_flatP (xa.map wkv) (bs.map wkv) (wkv w)
  rw [List.length_map] at e
  show some (lkV wz true (some (gI (flatP kvs) (2 * xa.length + 1)))) = _
  rw [hk, e.2]
  rfl
/-- A command. -/
def cV (ac sv sb sr : Int) (d : List Int) : V := .agg true [u8 ac, u8 sv, u8 sb, u16 sr, .vs (u8s d) d.length]
/-- A kind's word, with so many numbers. -/
def phO (a b : Int) (n : Nat) : Option Wd := match wds.find? (isK a b) with
  | some w => if w.n = n then some w else none
  | none => none
theorem wds_nm : ∀ i : Fin 18, (wds.getD i.val ⟨⟨#[]⟩, 0, 0, 0⟩).nm.size ≤ 10 := by decide +kernel
theorem wds_size {w : Wd} (h : w ∈ wds) : w.nm.size ≤ 10 := by
  obtain ⟨i, hi, rfl⟩ := List.getElem_of_mem h
  have := wds_nm ⟨i, hi⟩
  rwa [List.getD_eq_getElem?_getD, List.getElem?_eq_getElem hi] at this
theorem con_phrase (ac sv sb sr : Int) (d : List Int) (hd : ∀ x ∈ d, 0 ≤ x ∧ x < 256) (hl : d.length ≤ 20) (w : Wd) (h : phO sv sb d.length = some w) :
    Con Tryd.prog 10 [] [cV ac sv sb sr d] [] (.tup [strV (spd w.nm d), vb true]) := by
  have c1 := con_words
  unfold phO at h
  split at h
  case h_2 => cases h
  rename_i w1 hf
  split at h
  case isFalse => cases h
  rename_i hn
  cases h
  have wmg := mget_some sv sb w hf
  have c2 := con_spaced w.nm d hd (by have := wds_size (List.mem_of_find?_eq_some hf); omega) (by omega)
  generalize mcells = M at c1 wmg
  refine Con.of (C := ⟨Tryd.prog, tc, Tryd.f10.ntmps⟩) [] tcok Tryd.func10 rfl rfl (by kernel_rfl) (by kernel_rfl) ?_
  refine AWP.seq ?_
  refine AWP.regionT tcok hmix [] [1, 2, 3] [1] (os := []) (s' := St.mk [(1, tp (V.ptr 1 0)), (2, tp (V.val (Value.string (ByteArray.mk #[])))), (3, tp (vb false))] [(1, Blk.mk [u8 ac, u8 sv, u8 sb, u16 sr, B8 d] true 5 none)]) (by kernel_rfl) trivial ?_
  refine xe1 (os := [Con Tryd.prog 16 [] [] [(1, Blk.mk M true 0 (some (0, 0)))] (V.mp 1), mget (Cx.mk Tryd.prog tc Tryd.f10.ntmps).tc (52 : TypeId) (vals1 ti_54.zero (isRow ti_54.desc)) true (Blk.mk M true (0 : Nat) (some ((0 : Nat), (0 : Nat)))).cells (V.agg true [u8 sv, u8 sb]) = some (V.tup [V.agg true [strV w.nm, i64 w.n], vb true])]) [(0, ⟨none, some ⟨V.mp 1, [(1, Blk.mk M true 0 (some (0, 0)))], []⟩⟩), (6, ⟨some (V.tup [V.agg true [strV w.nm, i64 w.n], vb true]), none⟩)] [1, 2, 3, 4, 5] [1, 4] (by kernel_rfl) ⟨(c1 ), (wmg ), trivial⟩ ?_
  refine AWP.seq ?_
  refine xe0 [1, 2, 3, 4, 25] [1, 4] (by kernel_rfl) ?_
  refine AWP.cond (b := false || w.n != (↑(List.length d) : Int)) (by kernel_rfl) (fun hq0 => ?_) (fun hq0 => ?_)
  · simp only [Bool.false_or, bne_iff_ne] at hq0
    (exfalso; omega)
  simp only [Bool.false_or, bne_eq_false_iff_eq] at hq0
  refine AWP.skip ?_
  refine AWP.seq ?_
  refine AWP.regionT tcok hmix [(4, ⟨none, some ⟨strV (spd w.nm d), [], []⟩⟩)] [2, 3] [] (os := [Con Tryd.prog 20 [] [V.val (Value.string w.nm), B8 d] [] (V.val (Value.string (spd w.nm d)))]) (s' := St.mk [(2, tp (V.val (Value.string (spd w.nm d)))), (3, tp (vb true))] []) (by kernel_rfl) ⟨(c2 ), trivial⟩ ?_
  refine AWP.ret ?_
  refine ⟨Or.inr rfl, Eq.trans (b := some ([], V.tup [V.val (Value.string (spd w.nm d)), vb true])) (by kernel_rfl) ?_⟩
  rfl
theorem con_phrase_no (ac sv sb sr : Int) (d : List Int) (hl : d.length ≤ 20) (h : phO sv sb d.length = none) :
    Con Tryd.prog 10 [] [cV ac sv sb sr d] [] (.tup [strV ⟨#[]⟩, vb false]) := by
  have c1 := con_words
  unfold phO at h
  split at h
  · rename_i w1 hf
    split at h
    case isTrue => cases h
    rename_i hn
    have wmg := mget_some sv sb w1 hf
    generalize mcells = M at c1 wmg
    refine Con.of (C := ⟨Tryd.prog, tc, Tryd.f10.ntmps⟩) [] tcok Tryd.func10 rfl rfl (by kernel_rfl) (by kernel_rfl) ?_
    refine AWP.seq ?_
    refine AWP.regionT tcok hmix [] [1, 2, 3] [1] (os := []) (s' := St.mk [(1, tp (V.ptr 1 0)), (2, tp (V.val (Value.string (ByteArray.mk #[])))), (3, tp (vb false))] [(1, Blk.mk [u8 ac, u8 sv, u8 sb, u16 sr, B8 d] true 5 none)]) (by kernel_rfl) trivial ?_
    refine xe1 (os := [Con Tryd.prog 16 [] [] [(1, Blk.mk M true 0 (some (0, 0)))] (V.mp 1), mget (Cx.mk Tryd.prog tc Tryd.f10.ntmps).tc (52 : TypeId) (vals1 ti_54.zero (isRow ti_54.desc)) true (Blk.mk M true (0 : Nat) (some ((0 : Nat), (0 : Nat)))).cells (V.agg true [u8 sv, u8 sb]) = some (V.tup [V.agg true [strV w1.nm, i64 w1.n], vb true])]) [(0, ⟨none, some ⟨V.mp 1, [(1, Blk.mk M true 0 (some (0, 0)))], []⟩⟩), (6, ⟨some (V.tup [V.agg true [strV w1.nm, i64 w1.n], vb true]), none⟩)] [1, 2, 3, 4, 5] [1, 4] (by kernel_rfl) ⟨(c1 ), (wmg ), trivial⟩ ?_
    refine AWP.seq ?_
    refine xe0 [1, 2, 3, 4, 25] [1, 4] (by kernel_rfl) ?_
    refine AWP.cond (b := false || w1.n != (↑(List.length d) : Int)) (by kernel_rfl) (fun hq1 => ?_) (fun hq1 => ?_)
    · simp only [Bool.false_or, bne_iff_ne] at hq1
      refine AWP.seq ?_
      refine AWP.regionT tcok hmix [] [1, 2, 3, 4] [1, 4] (os := []) (s' := St.mk [(1, tp (V.ptr 1 0)), (2, tp (V.val (Value.string (ByteArray.mk #[])))), (3, tp (vb false)), (4, tp (V.ptr 4 0))] [(1, Blk.mk [u8 ac, u8 sv, u8 sb, u16 sr, B8 d] true 5 none), (4, Blk.mk [V.val (Value.string w1.nm), i64 w1.n] true 2 none)]) (by kernel_rfl) trivial ?_
      refine AWP.ret ?_
      refine ⟨Or.inr rfl, Eq.trans (b := some ([], V.tup [V.val (Value.string (ByteArray.mk #[])), vb false])) (by kernel_rfl) ?_⟩
      rfl
    simp only [Bool.false_or, bne_eq_false_iff_eq] at hq1
    (exfalso; omega)
  · rename_i hf
    have wmg := mget_none sv sb hf
    unfold wz at wmg
    generalize mcells = M at c1 wmg
    refine Con.of (C := ⟨Tryd.prog, tc, Tryd.f10.ntmps⟩) [] tcok Tryd.func10 rfl rfl (by kernel_rfl) (by kernel_rfl) ?_
    refine AWP.seq ?_
    refine AWP.regionT tcok hmix [] [1, 2, 3] [1] (os := []) (s' := St.mk [(1, tp (V.ptr 1 0)), (2, tp (V.val (Value.string (ByteArray.mk #[])))), (3, tp (vb false))] [(1, Blk.mk [u8 ac, u8 sv, u8 sb, u16 sr, B8 d] true 5 none)]) (by kernel_rfl) trivial ?_
    refine xe1 (os := [Con Tryd.prog 16 [] [] [(1, Blk.mk M true 0 (some (0, 0)))] (V.mp 1), mget (Cx.mk Tryd.prog tc Tryd.f10.ntmps).tc (52 : TypeId) (vals1 ti_54.zero (isRow ti_54.desc)) true (Blk.mk M true (0 : Nat) (some ((0 : Nat), (0 : Nat)))).cells (V.agg true [u8 sv, u8 sb]) = some (V.tup [V.agg true [strV (ByteArray.mk #[]), i64 (0 : Int)], vb false])]) [(0, ⟨none, some ⟨V.mp 1, [(1, Blk.mk M true 0 (some (0, 0)))], []⟩⟩), (6, ⟨some (V.tup [V.agg true [strV (ByteArray.mk #[]), i64 0], vb false]), none⟩)] [1, 2, 3, 4, 5] [1, 4] (by kernel_rfl) ⟨(c1 ), (wmg ), trivial⟩ ?_
    refine AWP.seq ?_
    refine xe0 [1, 2, 3, 4, 25] [1, 4] (by kernel_rfl) ?_
    refine AWP.condT (by kernel_rfl) ?_
    refine xe0 [1, 2, 3, 4] [1, 4] (by kernel_rfl) ?_
    refine AWP.ret ?_
    refine ⟨Or.inr rfl, Eq.trans (b := some ([], V.tup [V.val (Value.string (ByteArray.mk #[])), vb false])) (by kernel_rfl) ?_⟩
    rfl
theorem kinds_fin : ∀ i j : Fin 18, (wds.getD i.val ⟨⟨#[]⟩, 0, 0, 0⟩).a = (wds.getD j.val ⟨⟨#[]⟩, 0, 0, 0⟩).a → (wds.getD i.val ⟨⟨#[]⟩, 0, 0, 0⟩).b = (wds.getD j.val ⟨⟨#[]⟩, 0, 0, 0⟩).b → i = j := by decide +kernel
theorem kinds_uniq {a b : Int} {w w' : Wd} (h : w ∈ wds) (h' : w' ∈ wds) (hk : isK a b w = true) (hk' : isK a b w' = true) : w = w' := by
  obtain ⟨i, hi, rfl⟩ := List.getElem_of_mem h
  obtain ⟨j, hj, rfl⟩ := List.getElem_of_mem h'
  simp only [isK, Bool.and_eq_true, beq_iff_eq] at hk hk'
  have := kinds_fin ⟨i, hi⟩ ⟨j, hj⟩
  simp only [List.getD_eq_getElem?_getD, List.getElem?_eq_getElem hi, List.getElem?_eq_getElem hj, Option.getD_some] at this
  have e : i = j := congrArg Fin.val (this (hk.1.symm.trans hk'.1) (hk.2.symm.trans hk'.2))
  subst e
  rfl
theorem phO_iff {a b : Int} {n : Nat} {w : Wd} : phO a b n = some w ↔ w ∈ wds ∧ isK a b w = true ∧ w.n = n := by
  unfold phO
  constructor
  · intro h
    split at h
    · rename_i w1 hf
      split at h
      · cases h
        exact ⟨List.mem_of_find?_eq_some hf, List.find?_some hf, ‹_›⟩
      · cases h
    · cases h
  · rintro ⟨h1, h2, h3⟩
    cases hf : wds.find? (isK a b) with
    | none => exact absurd h2 (List.find?_eq_none.1 hf w h1)
    | some w1 =>
      obtain rfl := kinds_uniq h1 (List.mem_of_find?_eq_some hf) h2 (List.find?_some hf)
      simp [h3]
/-- What the document says of a kind. -/
def rph (a b : Int) (d : List Int) : ByteArray := match phO a b d.length with | some w => spd w.nm d | none => ⟨#[]⟩
theorem con_rphrase (ac sv sb sr : Int) (d : List Int) (hd : ∀ x ∈ d, 0 ≤ x ∧ x < 256) (hl : d.length ≤ 20) : Con Tryd.prog 11 [] [cV ac sv sb sr d] [] (strV (rph sv sb d)) := by
  have c2 := con_rwords
  generalize hW : wcells = Wc at c2
  refine Con.of (C := ⟨Tryd.prog, tc, Tryd.f11.ntmps⟩) [] tcok Tryd.func11 rfl rfl (by kernel_rfl) (by kernel_rfl) ?_
  refine AWP.seq ?_
  refine AWP.regionT tcok hmix [] [1, 2] [1] (os := []) (s' := St.mk [(1, tp (V.ptr 1 0)), (2, tp (V.val (Value.string (ByteArray.mk #[]))))] [(1, Blk.mk [u8 ac, u8 sv, u8 sb, u16 sr, B8 d] true 5 none)]) (by kernel_rfl) trivial ?_
  refine AWP.seq ?_
  refine xe1 (os := [Con Tryd.prog 18 [] [] [(19, Blk.mk Wc true 0 (some (59, 4)))] (V.sl 19 0 18)]) [(0, ⟨none, some ⟨V.sl 19 0 18, [(19, Blk.mk Wc true 0 (some (59, 4)))], []⟩⟩)] [1, 2, 5, 6, 7] [1, 60019] (by kernel_rfl) ⟨(c2 ), trivial⟩ ?_
  refine AWP.block ?_
  refine AWP.frz 60019 (s' := St.mk [(1, T.plain (V.ptr 1 0)), (2, T.plain (strV ⟨#[]⟩)), (5, T.plain (V.vs Wc 18)), (6, T.plain (i64 18)), (7, T.plain (i64 0))] [(1, Blk.mk [u8 ac, u8 sv, u8 sb, u16 sr, .vs (u8s d) d.length] true 5 none)]) (by kernel_rfl) ?_
  refine AWP.loopI [1, 2, 5, 6, 7] [1] (fun N st => ∃ (i : Int), st = St.mk [(1, T.plain (V.ptr 1 0)), (2, T.plain (strV ⟨#[]⟩)), (5, T.plain (V.vs Wc 18)), (6, T.plain (i64 18)), (7, T.plain (i64 i))] [(1, Blk.mk [u8 ac, u8 sv, u8 sb, u16 sr, .vs (u8s d) d.length] true 5 none)]
      ∧ (∀ (j : Nat) w, j < i.toNat → wds[j]? = some w → phO sv sb d.length ≠ some w) ∧ 0 ≤ i ∧ i ≤ 18 ∧ (N : Int) = 18 - i) 18 (s0 := St.mk [(1, T.plain (V.ptr 1 0)), (2, T.plain (strV ⟨#[]⟩)), (5, T.plain (V.vs Wc 18)), (6, T.plain (i64 18)), (7, T.plain (i64 0))] [(1, Blk.mk [u8 ac, u8 sv, u8 sb, u16 sr, .vs (u8s d) d.length] true 5 none)]) (by kernel_rfl) ?_ ?_
  · exact ⟨0, rfl, fun j w hj => by simp at hj, by omega, by omega, by omega⟩
  rintro N st ⟨i, rfl, hj, hi, hi2, hN⟩
  by_cases hlt : i < 18
  case neg =>
    have hno : phO sv sb d.length = none := by
      cases hp : phO sv sb d.length with
      | none => rfl
      | some w =>
        obtain ⟨jw, hjw⟩ := List.mem_iff_getElem?.1 (phO_iff.1 hp).1
        have : jw < 18 := (List.getElem?_eq_some_iff.1 hjw).1
        exact absurd hp (hj jw w (by omega) hjw)
    refine AWP.seq ?_
    refine AWP.regionT tcok hmix [] [1, 2, 5, 6, 7, 8] [1] (os := []) (s' := St.mk [(1, tp (V.ptr 1 0)), (2, tp (V.val (Value.string (ByteArray.mk #[])))), (5, tp (V.vs Wc 18)), (6, tp (i64 18)), (7, tp (i64 i)), (8, tp (vb (decide (i < 18))))] [(1, Blk.mk [u8 ac, u8 sv, u8 sb, u16 sr, B8 d] true 5 none)]) (by kernel_rfl) trivial ?_
    refine AWP.seq ?_
    refine AWP.cond (b := decide (i < 18)) (by kernel_rfl) (fun hq3 => ?_) (fun hq3 => ?_)
    · simp only [decide_eq_true_eq] at hq3
      (exfalso; omega)
    simp only [decide_eq_false_iff_not] at hq3
    refine AWP.exit ?_
    refine AWP.seq ?_
    refine AWP.regionT tcok hmix [] [2] [] (os := []) (s' := St.mk [(2, tp (V.val (Value.string (ByteArray.mk #[]))))] []) (by kernel_rfl) trivial ?_
    refine AWP.ret ?_
    refine ⟨Or.inr rfl, Eq.trans (b := some ([], V.val (Value.string (ByteArray.mk #[])))) (by kernel_rfl) ?_⟩
    (unfold rph; rw [hno])
  have hi18 : i.toNat < wds.length := by show _ < 18; omega
  obtain ⟨w1, hw1⟩ : ∃ w1, wds[i.toNat]? = some w1 := ⟨_, List.getElem?_eq_getElem hi18⟩
  have hw1m := List.mem_of_getElem? hw1
  have hdr : List.drop (i.toNat * 4) Wc = strV w1.nm :: u8 w1.a :: u8 w1.b :: i64 w1.n :: List.drop ((i.toNat + 1) * 4) Wc := by rw [← hW]; exact wcells_drop hw1
  have c3 := con_numbers w1.nm d hd (by have := wds_size hw1m; omega) (by omega)
  refine AWP.seq ?_
  refine AWP.regionT tcok hmix [] [1, 2, 5, 6, 7, 8] [1] (os := []) (s' := St.mk [(1, tp (V.ptr 1 0)), (2, tp (V.val (Value.string (ByteArray.mk #[])))), (5, tp (V.vs Wc 18)), (6, tp (i64 18)), (7, tp (i64 i)), (8, tp (vb (decide (i < 18))))] [(1, Blk.mk [u8 ac, u8 sv, u8 sb, u16 sr, B8 d] true 5 none)]) (by kernel_rfl) trivial ?_
  refine AWP.seq ?_
  refine AWP.cond (b := decide (i < 18)) (by kernel_rfl) (fun hq4 => ?_) (fun hq4 => ?_)
  · simp only [decide_eq_true_eq] at hq4
    refine AWP.skip ?_
    refine AWP.seq ?_
    refine AWP.block ?_
    refine AWP.seq ?_
    refine AWP.regionT tcok hmix [(0, ⟨some (V.vp (strV w1.nm :: u8 w1.a :: u8 w1.b :: i64 w1.n :: List.drop ((Int.toNat i + 1) * 4) Wc)), none⟩)] [1, 2, 4, 5, 6, 7] [1, 4] (os := [(0 : Int) ≤ i ∧ i < (↑(18 : Nat) : Int), V.vp (List.drop (Int.toNat i * 4) Wc) = V.vp (V.val (Value.string w1.nm) :: u8 w1.a :: u8 w1.b :: i64 w1.n :: List.drop ((Int.toNat i + 1) * 4) Wc)]) (s' := St.mk [(1, tp (V.ptr 1 0)), (2, tp (V.val (Value.string (ByteArray.mk #[])))), (4, tp (V.ptr 4 0)), (5, tp (V.vs Wc 18)), (6, tp (i64 18)), (7, tp (i64 i))] [(1, Blk.mk [u8 ac, u8 sv, u8 sb, u16 sr, B8 d] true 5 none), (4, Blk.mk [V.val (Value.string w1.nm), u8 w1.a, u8 w1.b, i64 w1.n] true 4 none)]) (by kernel_rfl) ⟨(by omega), (congrArg V.vp hdr), trivial⟩ ?_
    refine xe0 [1, 2, 4, 5, 6, 7, 30] [1, 4] (by kernel_rfl) ?_
    refine AWP.cond (b := w1.a == sv && w1.b == sb && w1.n == (↑(List.length d) : Int)) (by kernel_rfl) (fun hq5 => ?_) (fun hq5 => ?_)
    · simp only [Bool.and_eq_true, beq_iff_eq] at hq5
      refine AWP.seq ?_
      refine AWP.regionT tcok hmix [(4, ⟨none, some ⟨strV (spd w1.nm d), [], []⟩⟩)] [1, 2, 5, 6, 7] [1] (os := [Con Tryd.prog 21 [] [V.val (Value.string w1.nm), B8 d] [] (V.val (Value.string (spd w1.nm d)))]) (s' := St.mk [(1, tp (V.ptr 1 0)), (2, tp (V.val (Value.string (spd w1.nm d)))), (5, tp (V.vs Wc 18)), (6, tp (i64 18)), (7, tp (i64 i))] [(1, Blk.mk [u8 ac, u8 sv, u8 sb, u16 sr, B8 d] true 5 none)]) (by kernel_rfl) ⟨(c3 ), trivial⟩ ?_
      refine AWP.ret ?_
      refine ⟨Or.inr rfl, Eq.trans (b := some ([], V.val (Value.string (spd w1.nm d)))) (by kernel_rfl) ?_⟩
      first | (have e : phO sv sb d.length = some w1 := phO_iff.2 ⟨hw1m, by simp [isK, hq5.1.1, hq5.1.2], hq5.2⟩; unfold rph; rw [e]; done) | (exact ⟨(18 - (i + 1)).toNat, (by omega), i + 1, rfl, (fun j w hj1 hj2 hp => by by_cases e : j = i.toNat; (subst e; rw [hw1] at hj2; cases hj2; have q := phO_iff.1 hp; have q2 := q.2.1; simp [isK] at q2; rcases hq5 with (z | z) | z; exact z q2.1.symm; exact z q2.2.symm; exact z q.2.2); exact hj j w (by omega) hj2 hp), (by omega), (by omega), (by omega)⟩)
    simp only [Bool.and_eq_false_iff, beq_eq_false_iff_ne] at hq5
    refine AWP.skip ?_
    refine AWP.region tcok hmix [(0, ⟨some (i64 (i + 1)), none⟩)] (os := [i64 (IntKind.wrap IntKind.i64 (i + 1)) = i64 (i + 1)]) (sf := St.mk [(1, tp (V.ptr 1 0)), (2, tp (V.val (Value.string (ByteArray.mk #[])))), (4, tp (V.ptr 4 0)), (5, tp (V.vs Wc 18)), (6, tp (i64 18)), (7, tp (i64 (i + 1))), (30, tp (vb (w1.a == sv && w1.b == sb && w1.n == (↑(List.length d) : Int)))), (36, tp (i64 (i + 1)))] [(1, Blk.mk [u8 ac, u8 sv, u8 sb, u16 sr, B8 d] true 5 none), (4, Blk.mk [V.val (Value.string w1.nm), u8 w1.a, u8 w1.b, i64 w1.n] true 4 none)]) (by kernel_rfl) ⟨(wr_i64 (by omega) (by omega)), trivial⟩ ?_
    refine ⟨St.mk [(1, tp (V.ptr 1 0)), (2, tp (V.val (Value.string (ByteArray.mk #[])))), (5, tp (V.vs Wc 18)), (6, tp (i64 18)), (7, tp (i64 (i + 1)))] [(1, Blk.mk [u8 ac, u8 sv, u8 sb, u16 sr, B8 d] true 5 none)], by kernel_rfl, ?_⟩
    first | (have e : phO sv sb d.length = some w1 := phO_iff.2 ⟨hw1m, by simp [isK, hq5.1.1, hq5.1.2], hq5.2⟩; unfold rph; rw [e]; done) | (exact ⟨(18 - (i + 1)).toNat, (by omega), i + 1, rfl, (fun j w hj1 hj2 hp => by by_cases e : j = i.toNat; (subst e; rw [hw1] at hj2; cases hj2; have q := phO_iff.1 hp; have q2 := q.2.1; simp [isK] at q2; rcases hq5 with (z | z) | z; exact z q2.1.symm; exact z q2.2.symm; exact z q.2.2); exact hj j w (by omega) hj2 hp), (by omega), (by omega), (by omega)⟩)
  simp only [decide_eq_false_iff_not] at hq4
  (exfalso; omega)
end Go.Proofs.YtieoaeidlcdggaaDoor
