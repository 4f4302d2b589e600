/- bytes.Join at this program, of four parts without a separator. -/
import Derived.Test.YtieoaeidlcdggaaGreatDoorCrC
import Derived.Test.YtieoaeidlcdggaaGreatDoorAb29
import Derived.Shelf.Bytes.SlJoin
namespace Go.Proofs.YtieoaeidlcdggaaGreatDoor
open Go Go.Ab Go.RowKit Go.Shelf
set_option linter.unusedSimpArgs false
set_option linter.unusedVariables false
set_option maxRecDepth 100000
def layJoin_ren : Go.Shelf.Ren := ⟨fun | 14 => 61 | 15 => 83 | n => n, fun | 0 => 0 | 3 => 3 | 4 => 4 | 9 => 9 | 20 => 20 | 22 => 26 | 26 => 31 | 5 => 5 | n => n, fun n => n⟩
theorem layJoin : SlLaysJ.n14 Tryz.prog layJoin_ren where
  mixed := by kernel_rfl
  f14 := Tryz.func61.trans (congrArg some (by kernel_rfl))
  f15 := Tryz.func83.trans (congrArg some (by kernel_rfl))
  t0 := Tryz.underlying0
  a0 := Tryz.isAgg0
  z0 := Tryz.sizeOf0
  v0 := Tryz.zeroValue0
  t3 := Tryz.underlying3
  a3 := Tryz.isAgg3
  z3 := Tryz.sizeOf3
  v3 := Tryz.zeroValue3
  t4 := Tryz.underlying4
  a4 := Tryz.isAgg4
  z4 := Tryz.sizeOf4
  v4 := Tryz.zeroValue4
  t9 := Tryz.underlying9
  a9 := Tryz.isAgg9
  z9 := Tryz.sizeOf9
  v9 := Tryz.zeroValue9
  t20 := Tryz.underlying20
  a20 := Tryz.isAgg20
  z20 := Tryz.sizeOf20
  v20 := Tryz.zeroValue20
  t22 := Tryz.underlying26
  a22 := Tryz.isAgg26
  z22 := Tryz.sizeOf26
  v22 := Tryz.zeroValue26
  t26 := Tryz.underlying31
  a26 := Tryz.isAgg31
  z26 := Tryz.sizeOf31
  v26 := Tryz.zeroValue31
  t5 := Tryz.underlying5
  z5 := Tryz.sizeOf5
  i5 := by kernel_rfl
/-- Bytes that stand as whole numbers. -/
theorem bytesOf_inj {a b : List Int} (ha : BL a) (hb : BL b) (h : Lib.bytesOf a = Lib.bytesOf b) : a = b := by
  have hl : a.length = b.length := by
    have := congrArg List.length h
    simpa [Lib.bytesOf] using this
  refine List.ext_getElem hl fun i h1 h2 => ?_
  have e := congrArg (·[i]?) h
  simp only [Lib.bytesOf, List.getElem?_map, List.getElem?_eq_getElem h1, List.getElem?_eq_getElem h2, Option.map_some, Option.some.injEq] at e
  have ha1 := ha _ (List.getElem_mem h1)
  have hb1 := hb _ (List.getElem_mem h2)
  have e2 := congrArg UInt8.toNat e
  rw [UInt8.toNat_ofNat_of_lt' (by show _ < 256; omega), UInt8.toNat_ofNat_of_lt' (by show _ < 256; omega)] at e2
  omega
theorem holds_of_vs {I : Nat → Prop} {w : World} {φ : Phi} {l : List Int} {v : Value} (hl : BL l) (h : Rel I w φ (.vs (u8s l) l.length) v) : Lib.HoldsBytes w v (Lib.bytesOf l) := by
  cases h with
  | @vs _ _ us _ cap A h1 h2 h3 h4 h5 h6 h7 =>
    have hus : us.length = l.length := by rw [h1]; simp [u8s]
    refine ⟨A, cap, by simp [Lib.bytesOf], fun e => ?_, fun a e i x hx => ?_⟩
    · have : l.length = 0 := by have := h5 e; omega
      rw [List.length_eq_zero_iff.1 this]
      rfl
    · have hi : i < l.length := by
        have := (List.getElem?_eq_some_iff.1 hx).1
        simpa [Lib.bytesOf] using this
      have hx' : x = UInt8.ofNat (l[i]).toNat := by
        simp only [Lib.bytesOf, List.getElem?_map, List.getElem?_eq_getElem hi, Option.map_some, Option.some.injEq] at hx
        exact hx.symm
      obtain ⟨b, o, e2, _, hc⟩ := h4 i us[i] (List.getElem?_eq_getElem (by omega))
      rw [e] at e2
      cases e2
      rw [Lib.add_plain2, hc]
      have hr := h2 i (by simp [u8s]; exact hi)
      have ev : us.getD i undef = us[i] := by simp [List.getD_eq_getElem?_getD, List.getElem?_eq_getElem (show i < us.length by omega)]
      rw [ev] at hr
      have eu : (u8s l)[i]'(by simp [u8s]; exact hi) = u8 l[i] := by simp [u8s]
      rw [eu] at hr
      revert hr
      generalize us[i] = u
      intro hr
      cases hr with
      | val _ =>
        have hb := hl _ (List.getElem_mem hi)
        rw [hx', UInt8.toNat_ofNat_of_lt' (by show _ < 256; omega), show (((l[i]).toNat : Nat) : Int) = l[i] by omega]
/-- A result in memory of its own, which nobody writes. -/
theorem ConN.of_belowX {P : Program} {f : FuncId} {args : List V} {r : V} (hf : FnOk P f)
    (h : ∀ (w : World) (us : List Value), Rels (OldB w) w Phi.emp args us → GOk (OldB w) w → Calls P f us.toArray w fun e w' => ∃ v, e = .returned v ∧ Below w.heap.size w w' ∧ Rel (fun b => w.heap.size ≤ b ∧ b < w'.heap.size) w' Phi.emp r v) : ConN P f args r := by
  refine ⟨hf, fun X w us hX hu hg => ?_⟩
  refine (h w us (hu.im (fun b hb => hb.1) fun _ => rfl) (hg.mono fun b hb => ⟨hb.1, rfl⟩)).mono ?_
  rintro e w' ⟨v, rfl, hb, hr⟩
  exact ⟨v, rfl, ⟨hb.os, hb.tape, hb.output, hb.size, fun b hb' _ => hb.block b hb'⟩, hr⟩
theorem ConN.con {P : Program} {f : FuncId} {args : List V} {r : V} (h : ConN P f args r) : Con P f [] args [] r := by
  refine ⟨h.1, fun X φ w us hφ hX hH hu hg => ?_⟩
  have hn : ∀ i, φ i = .none := fun i => hφ.dom i rfl
  have e0 : ∀ b, Imm φ X w b → Imm Phi.emp X w b := fun b hb => ⟨hb.1, (fun _ _ h => by cases h), hb.2.2⟩
  refine (h.2 X w us hX (hu.im e0 hn) (hg.mono fun b hb => ⟨e0 b hb, rfl⟩)).mono ?_
  rintro e w' ⟨v, rfl, hb, hr⟩
  refine ⟨v, φ, rfl, ⟨hb.os, hb.tape, hb.output, hb.size, fun b hb' _ => hb.block b hb' (fun _ _ h => by cases h)⟩, ⟨fun i j b c c' e _ => (by rw [hn] at e; cases e), fun i b c e => (by rw [hn] at e; cases e), fun i b c e => (by rw [hn] at e; cases e), fun i _ => hn i⟩,
    fun id b c e => (by rw [hn] at e; cases e), fun id blk e => (by cases e), ?_, fun id _ _ => .inl rfl⟩
  exact hr.mono (fun b ⟨h1, h2⟩ => ⟨⟨h2, fun i c e => (by rw [hn] at e; cases e), fun hx => by have := hX b hx; omega⟩, rfl⟩) _ (fun _ _ _ e => by cases e) (fun i e => by cases e)
theorem con_join4 (a b c d : List Int) (na nb nc nd : Nat) (ea : a.length = na) (eb : b.length = nb) (ec : c.length = nc) (ed : d.length = nd) (ha : BL a) (hb : BL b) (hc : BL c) (hd : BL d) (hn : na + nb + nc + nd ≤ 1000000) :
    ConN Tryz.prog 61 [.vs [.vs (u8s a) na, .vs (u8s b) nb, .vs (u8s c) nc, .vs (u8s d) nd] 4, .val (.slice none 0 0)] (.vs (u8s (a ++ b ++ c ++ d)) (na + nb + nc + nd)) := by
  subst ea eb ec ed
  refine ConN.of_belowX ⟨_, Tryz.func61, by kernel_rfl, by kernel_rfl⟩ fun w us hu hg => ?_
  cases hu with
  | cons h1 h2 =>
    cases h2 with
    | cons h3 h4 =>
      cases h4
      cases h3 with
      | val _ =>
        cases h1 with
        | @vs _ _ vs _ cap A k1 k2 k3 k4 k5 k6 k7 =>
          have hvl : vs.length = 4 := k1
          obtain ⟨bb, o, rfl, _, _⟩ := k4 0 vs[0] (List.getElem?_eq_getElem (by omega))
          have hg : ∀ i (hi : i < 4), vs.getD i undef = vs[i]'(by omega) := fun i hi => by simp [List.getD_eq_getElem?_getD, List.getElem?_eq_getElem (show i < vs.length by omega)]
          have hp : Lib.PartsAt w ⟨bb, o, none⟩ vs [Lib.bytesOf a, Lib.bytesOf b, Lib.bytesOf c, Lib.bytesOf d] := by
            refine ⟨hvl, fun i v hv => ?_, fun i v l hv hl => ?_⟩
            · obtain ⟨b', o', e, _, hc'⟩ := k4 i v hv
              cases e
              rw [Lib.add_plain2]
              exact hc'
            · obtain ⟨hi, rfl⟩ := List.getElem?_eq_some_iff.1 hv
              have hi4 : i < 4 := by omega
              have hr := k2 i (by simpa using hi4)
              rw [hg i hi4] at hr
              match i, hi4, hl, hr with
              | 0, _, hl, hr => cases hl; exact holds_of_vs ha hr
              | 1, _, hl, hr => cases hl; exact holds_of_vs hb hr
              | 2, _, hl, hr => cases hl; exact holds_of_vs hc hr
              | 3, _, hl, hr => cases hl; exact holds_of_vs hd hr
          have hlens : Lib.lens [Lib.bytesOf a, Lib.bytesOf b, Lib.bytesOf c, Lib.bytesOf d] = a.length + b.length + c.length + d.length := by
            simp [Lib.lens, Lib.bytesOf]
            omega
          refine (Any.bytes_Join_many layJoin bb o 4 cap vs [Lib.bytesOf a, Lib.bytesOf b, Lib.bytesOf c, Lib.bytesOf d] (.slice none 0 0) [] w rfl (by decide) hp k6 ⟨none, 0, rfl, fun _ => rfl, fun _ e => by cases e⟩ (by decide) (by rw [hlens]; simp; omega)).mono ?_
          rintro e w' ⟨v', rfl, ⟨g, cap', zs, rfl, q1, q2, q3, q4, q5, q6, q7, q8⟩, hbl⟩
          have hj : Lib.join [Lib.bytesOf a, Lib.bytesOf b, Lib.bytesOf c, Lib.bytesOf d] [] = Lib.bytesOf (a ++ b ++ c ++ d) := by
            simp [Lib.join, List.intercalate, List.intersperse, Lib.bytesOf]
          have hjl : (Lib.join [Lib.bytesOf a, Lib.bytesOf b, Lib.bytesOf c, Lib.bytesOf d] []).length = a.length + b.length + c.length + d.length := by
            rw [hj]
            simp [Lib.bytesOf]
            omega
          rw [hjl] at q2 q6
          rw [hjl]
          rw [hj] at q6
          have hzs : zs.take (a.length + b.length + c.length + d.length) = a ++ b ++ c ++ d :=
            bytesOf_inj (fun x hx => q5 x (List.mem_of_mem_take hx)) (((ha.app hb).app hc).app hd) q6
          refine ⟨_, rfl, hbl, ?_⟩
          have hzl : (a ++ b ++ c ++ d).length = a.length + b.length + c.length + d.length := by simp; omega
          generalize hL : a ++ b ++ c ++ d = l at *
          rw [← hzl] at hzs q2 ⊢
          have hgs : ∀ j (hj : j < l.length), zs.getD j 0 = l[j] := fun j hj => by
            have e := congrArg (fun x : List Int => x[j]?) hzs
            simp only [List.getElem?_take, if_pos hj, List.getElem?_eq_getElem hj] at e
            rw [List.getD_eq_getElem?_getD, e]
            rfl
          have hblk : ∀ j, j < l.length → g < w'.heap.size := fun j hj => by
            have := q7 j (by omega)
            simp only [World.cell?] at this
            cases hh : w'.heap[g]? with
            | none => simp [hh] at this
            | some ob => exact (Array.getElem?_eq_some_iff.1 hh).1
          refine .vs (us := l.map fun z => .int .u8 z) (by simp [u8s]) (fun i hi => ?_) (fun u hu => ?_) (fun j u hu => ?_) (fun e => by cases e) q2 (Nat.le_trans q3 (by decide))
          · have hi' : i < l.length := by simpa [u8s] using hi
            have e : (l.map fun z => Value.int .u8 z).getD i undef = .int .u8 l[i] := by simp [List.getD_eq_getElem?_getD, hi']
            rw [e]
            have e2 : (u8s l)[i] = u8 l[i] := by simp [u8s]
            rw [e2]
            exact .val rfl
          · obtain ⟨z, _, rfl⟩ := List.mem_map.1 hu
            rfl
          · obtain ⟨hj, e⟩ := List.getElem?_eq_some_iff.1 hu
            have hj' : j < l.length := by simpa using hj
            refine ⟨g, 0, rfl, ⟨q1, hblk j hj'⟩, ?_⟩
            rw [Nat.zero_add, q7 j (by omega), hgs j hj', ← e]
            simp
end Go.Proofs.YtieoaeidlcdggaaGreatDoor
