/- Calls whose contracts are known: a run need not run them again. -/
import Derived.Test.YtcekfepgdfcinaaGreatDoorCrC
import Derived.Test.YtcekfepgdfcinaaGreatDoorAb29
import Derived.Shelf.Bytes.SlJoin
import Derived.Test.YtcekfepgdfcinaaGreatDoorRg
import Derived.Test.YtcekfepgdfcinaaGreatDoorAb38
namespace Go.Proofs.YtcekfepgdfcinaaGreatDoor
open Go Go.Ab Go.RowKit Go.Shelf
set_option linter.unusedSimpArgs false
set_option linter.unusedVariables false
set_option maxRecDepth 100000
def layJoin_ren : Go.Shelf.Ren := ⟨fun | 14 => 224 | 15 => 281 | n => n, fun | 0 => 0 | 3 => 3 | 4 => 4 | 9 => 9 | 20 => 20 | 22 => 61 | 26 => 48 | 5 => 5 | n => n, fun n => n⟩
theorem layJoin : SlLaysJ.n14 Tryz.prog layJoin_ren where
  mixed := by kernel_rfl
  f14 := Tryz.func224.trans (congrArg some (by kernel_rfl))
  f15 := Tryz.func281.trans (congrArg some (by kernel_rfl))
  t0 := Tryz.underlying0
  a0 := Tryz.isAgg0
  z0 := Tryz.sizeOf0
  v0 := Tryz.zeroValue0
  t3 := Tryz.underlying3
  a3 := Tryz.isAgg3
  z3 := Tryz.sizeOf3
  v3 := Tryz.zeroValue3
  t4 := Tryz.underlying4
  a4 := Tryz.isAgg4
  z4 := Tryz.sizeOf4
  v4 := Tryz.zeroValue4
  t9 := Tryz.underlying9
  a9 := Tryz.isAgg9
  z9 := Tryz.sizeOf9
  v9 := Tryz.zeroValue9
  t20 := Tryz.underlying20
  a20 := Tryz.isAgg20
  z20 := Tryz.sizeOf20
  v20 := Tryz.zeroValue20
  t22 := Tryz.underlying61
  a22 := Tryz.isAgg61
  z22 := Tryz.sizeOf61
  v22 := Tryz.zeroValue61
  t26 := Tryz.underlying48
  a26 := Tryz.isAgg48
  z26 := Tryz.sizeOf48
  v26 := Tryz.zeroValue48
  t5 := Tryz.underlying5
  z5 := Tryz.sizeOf5
  i5 := by kernel_rfl
/-- Bytes that stand as whole numbers. -/
theorem bytesOf_inj {a b : List Int} (ha : BL a) (hb : BL b) (h : Lib.bytesOf a = Lib.bytesOf b) : a = b := by
  have hl : a.length = b.length := by
    have := congrArg List.length h
    simpa [Lib.bytesOf] using this
  refine List.ext_getElem hl fun i h1 h2 => ?_
  have e := congrArg (·[i]?) h
  simp only [Lib.bytesOf, List.getElem?_map, List.getElem?_eq_getElem h1, List.getElem?_eq_getElem h2, Option.map_some, Option.some.injEq] at e
  have ha1 := ha _ (List.getElem_mem h1)
  have hb1 := hb _ (List.getElem_mem h2)
  have e2 := congrArg UInt8.toNat e
  rw [UInt8.toNat_ofNat_of_lt' (by show _ < 256; omega), UInt8.toNat_ofNat_of_lt' (by show _ < 256; omega)] at e2
  omega
theorem holds_of_vs {I : Nat → Prop} {w : World} {φ : Phi} {l : List Int} {v : Value} (hl : BL l) (h : Rel I w φ (.vs (u8s l) l.length) v) : Lib.HoldsBytes w v (Lib.bytesOf l) := by
  cases h with
  | @vs _ _ us _ cap A h1 h2 h3 h4 h5 h6 h7 =>
    have hus : us.length = l.length := by rw [h1]; simp [u8s]
    refine ⟨A, cap, by simp [Lib.bytesOf], fun e => ?_, fun a e i x hx => ?_⟩
    · have : l.length = 0 := by have := h5 e; omega
      rw [List.length_eq_zero_iff.1 this]
      rfl
    · have hi : i < l.length := by
        have := (List.getElem?_eq_some_iff.1 hx).1
        simpa [Lib.bytesOf] using this
      have hx' : x = UInt8.ofNat (l[i]).toNat := by
        simp only [Lib.bytesOf, List.getElem?_map, List.getElem?_eq_getElem hi, Option.map_some, Option.some.injEq] at hx
        exact hx.symm
      obtain ⟨b, o, e2, _, hc⟩ := h4 i us[i] (List.getElem?_eq_getElem (by omega))
      rw [e] at e2
      cases e2
      rw [Lib.add_plain2, hc]
      have hr := h2 i (by simp [u8s]; exact hi)
      have ev : us.getD i undef = us[i] := by simp [List.getD_eq_getElem?_getD, List.getElem?_eq_getElem (show i < us.length by omega)]
      rw [ev] at hr
      have eu : (u8s l)[i]'(by simp [u8s]; exact hi) = u8 l[i] := by simp [u8s]
      rw [eu] at hr
      revert hr
      generalize us[i] = u
      intro hr
      cases hr with
      | val _ =>
        have hb := hl _ (List.getElem_mem hi)
        rw [hx', UInt8.toNat_ofNat_of_lt' (by show _ < 256; omega), show (((l[i]).toNat : Nat) : Int) = l[i] by omega]
/-- A result in memory of its own, which nobody writes. -/
theorem ConN.of_belowX {P : Program} {f : FuncId} {args : List V} {r : V} (hf : FnOk P f)
    (h : ∀ (w : World) (us : List Value), Rels (OldB w) w Phi.emp args us → GOk (OldB w) w → Calls P f us.toArray w fun e w' => ∃ v, e = .returned v ∧ Below w.heap.size w w' ∧ Rel (fun b => w.heap.size ≤ b ∧ b < w'.heap.size) w' Phi.emp r v) : ConN P f args r := by
  refine ⟨hf, fun X w us hX hu hg => ?_⟩
  refine (h w us (hu.im (fun b hb => hb.1) fun _ => rfl) (hg.mono fun b hb => ⟨hb.1, rfl⟩)).mono ?_
  rintro e w' ⟨v, rfl, hb, hr⟩
  exact ⟨v, rfl, ⟨hb.os, hb.tape, hb.output, hb.size, fun b hb' _ => hb.block b hb'⟩, hr⟩
theorem ConN.con {P : Program} {f : FuncId} {args : List V} {r : V} (h : ConN P f args r) : Con P f [] args [] r := by
  refine ⟨h.1, fun X φ w us hφ hX hH hu hg => ?_⟩
  have hn : ∀ i, φ i = .none := fun i => hφ.dom i rfl
  have e0 : ∀ b, Imm φ X w b → Imm Phi.emp X w b := fun b hb => ⟨hb.1, (fun _ _ h => by cases h), hb.2.2⟩
  refine (h.2 X w us hX (hu.im e0 hn) (hg.mono fun b hb => ⟨e0 b hb, rfl⟩)).mono ?_
  rintro e w' ⟨v, rfl, hb, hr⟩
  refine ⟨v, φ, rfl, ⟨hb.os, hb.tape, hb.output, hb.size, fun b hb' _ => hb.block b hb' (fun _ _ h => by cases h)⟩, ⟨fun i j b c c' e _ => (by rw [hn] at e; cases e), fun i b c e => (by rw [hn] at e; cases e), fun i b c e => (by rw [hn] at e; cases e), fun i _ => hn i⟩,
    fun id b c e => (by rw [hn] at e; cases e), fun id blk e => (by cases e), ?_, fun id _ _ => .inl rfl⟩
  exact hr.mono (fun b ⟨h1, h2⟩ => ⟨⟨h2, fun i c e => (by rw [hn] at e; cases e), fun hx => by have := hX b hx; omega⟩, rfl⟩) _ (fun _ _ _ e => by cases e) (fun i e => by cases e)
theorem con_join4 (a b c d : List Int) (na nb nc nd : Nat) (ea : a.length = na) (eb : b.length = nb) (ec : c.length = nc) (ed : d.length = nd) (ha : BL a) (hb : BL b) (hc : BL c) (hd : BL d) (hn : na + nb + nc + nd ≤ 1000000) :
    ConN Tryz.prog 224 [.vs [.vs (u8s a) na, .vs (u8s b) nb, .vs (u8s c) nc, .vs (u8s d) nd] 4, .val (.slice none 0 0)] (.vs (u8s (a ++ b ++ c ++ d)) (na + nb + nc + nd)) := by
  subst ea eb ec ed
  refine ConN.of_belowX ⟨_, Tryz.func224, by kernel_rfl, by kernel_rfl⟩ fun w us hu hg => ?_
  cases hu with
  | cons h1 h2 =>
    cases h2 with
    | cons h3 h4 =>
      cases h4
      cases h3 with
      | val _ =>
        cases h1 with
        | @vs _ _ vs _ cap A k1 k2 k3 k4 k5 k6 k7 =>
          have hvl : vs.length = 4 := k1
          obtain ⟨bb, o, rfl, _, _⟩ := k4 0 vs[0] (List.getElem?_eq_getElem (by omega))
          have hg : ∀ i (hi : i < 4), vs.getD i undef = vs[i]'(by omega) := fun i hi => by simp [List.getD_eq_getElem?_getD, List.getElem?_eq_getElem (show i < vs.length by omega)]
          have hp : Lib.PartsAt w ⟨bb, o, none⟩ vs [Lib.bytesOf a, Lib.bytesOf b, Lib.bytesOf c, Lib.bytesOf d] := by
            refine ⟨hvl, fun i v hv => ?_, fun i v l hv hl => ?_⟩
            · obtain ⟨b', o', e, _, hc'⟩ := k4 i v hv
              cases e
              rw [Lib.add_plain2]
              exact hc'
            · obtain ⟨hi, rfl⟩ := List.getElem?_eq_some_iff.1 hv
              have hi4 : i < 4 := by omega
              have hr := k2 i (by simpa using hi4)
              rw [hg i hi4] at hr
              match i, hi4, hl, hr with
              | 0, _, hl, hr => cases hl; exact holds_of_vs ha hr
              | 1, _, hl, hr => cases hl; exact holds_of_vs hb hr
              | 2, _, hl, hr => cases hl; exact holds_of_vs hc hr
              | 3, _, hl, hr => cases hl; exact holds_of_vs hd hr
          have hlens : Lib.lens [Lib.bytesOf a, Lib.bytesOf b, Lib.bytesOf c, Lib.bytesOf d] = a.length + b.length + c.length + d.length := by
            simp [Lib.lens, Lib.bytesOf]
            omega
          refine (Any.bytes_Join_many layJoin bb o 4 cap vs [Lib.bytesOf a, Lib.bytesOf b, Lib.bytesOf c, Lib.bytesOf d] (.slice none 0 0) [] w rfl (by decide) hp k6 ⟨none, 0, rfl, fun _ => rfl, fun _ e => by cases e⟩ (by decide) (by rw [hlens]; simp; omega)).mono ?_
          rintro e w' ⟨v', rfl, ⟨g, cap', zs, rfl, q1, q2, q3, q4, q5, q6, q7, q8⟩, hbl⟩
          have hj : Lib.join [Lib.bytesOf a, Lib.bytesOf b, Lib.bytesOf c, Lib.bytesOf d] [] = Lib.bytesOf (a ++ b ++ c ++ d) := by
            simp [Lib.join, List.intercalate, List.intersperse, Lib.bytesOf]
          have hjl : (Lib.join [Lib.bytesOf a, Lib.bytesOf b, Lib.bytesOf c, Lib.bytesOf d] []).length = a.length + b.length + c.length + d.length := by
            rw [hj]
            simp [Lib.bytesOf]
            omega
          rw [hjl] at q2 q6
          rw [hjl]
          rw [hj] at q6
          have hzs : zs.take (a.length + b.length + c.length + d.length) = a ++ b ++ c ++ d :=
            bytesOf_inj (fun x hx => q5 x (List.mem_of_mem_take hx)) (((ha.app hb).app hc).app hd) q6
          refine ⟨_, rfl, hbl, ?_⟩
          have hzl : (a ++ b ++ c ++ d).length = a.length + b.length + c.length + d.length := by simp; omega
          generalize hL : a ++ b ++ c ++ d = l at *
          rw [← hzl] at hzs q2 ⊢
          have hgs : ∀ j (hj : j < l.length), zs.getD j 0 = l[j] := fun j hj => by
            have e := congrArg (fun x : List Int => x[j]?) hzs
            simp only [List.getElem?_take, if_pos hj, List.getElem?_eq_getElem hj] at e
            rw [List.getD_eq_getElem?_getD, e]
            rfl
          have hblk : ∀ j, j < l.length → g < w'.heap.size := fun j hj => by
            have := q7 j (by omega)
            simp only [World.cell?] at this
            cases hh : w'.heap[g]? with
            | none => simp [hh] at this
            | some ob => exact (Array.getElem?_eq_some_iff.1 hh).1
          refine .vs (us := l.map fun z => .int .u8 z) (by simp [u8s]) (fun i hi => ?_) (fun u hu => ?_) (fun j u hu => ?_) (fun e => by cases e) q2 (Nat.le_trans q3 (by decide))
          · have hi' : i < l.length := by simpa [u8s] using hi
            have e : (l.map fun z => Value.int .u8 z).getD i undef = .int .u8 l[i] := by simp [List.getD_eq_getElem?_getD, hi']
            rw [e]
            have e2 : (u8s l)[i] = u8 l[i] := by simp [u8s]
            rw [e2]
            exact .val rfl
          · obtain ⟨z, _, rfl⟩ := List.mem_map.1 hu
            rfl
          · obtain ⟨hj, e⟩ := List.getElem?_eq_some_iff.1 hu
            have hj' : j < l.length := by simpa using hj
            refine ⟨g, 0, rfl, ⟨q1, hblk j hj'⟩, ?_⟩
            rw [Nat.zero_add, q7 j (by omega), hgs j hj', ← e]
            simp
end Go.Proofs.YtcekfepgdfcinaaGreatDoor

namespace Go.Proofs.YtcekfepgdfcinaaGreatDoor
open Go Go.Ab
set_option linter.unusedSimpArgs false
set_option linter.unusedVariables false
set_option maxRecDepth 100000
theorem con_two (n : Int) (h : 0 ≤ n ∧ n < 65536) : Con Tryz.prog 225 [] [u16 n] [(8, ⟨u8s [n / 256, n % 256], true, 0, some (5, 1)⟩)] (.sl 8 0 2) := by
  refine Con.of (C := ⟨Tryz.prog, tc, Tryz.f225.ntmps⟩) [8] tcok Tryz.func225 rfl rfl (by kernel_rfl) (by kernel_rfl) ?_
  refine xe0 [0, 2] [2] (by kernel_rfl) ?_
  refine AWP.seq ?_
  refine AWP.keep' [0] [] (sf := St.mk [(0, tp (u16 n))] []) (by kernel_rfl) ?_
  refine xg1 (os := [(0 : Int) ≤ (8 : Int), u16 (ishr IntKind.u16 n 8) = u16 (n / 256), u8 (IntKind.wrap IntKind.u8 (n / 256)) = u8 (n / 256), u8 (IntKind.wrap IntKind.u8 n) = u8 (n % 256)]) [(1, ⟨some (u16 (n / 256)), none⟩), (2, ⟨some (u8 (n / 256)), none⟩), (4, ⟨some (u8 (n % 256)), none⟩)] [2] [8] (by kernel_rfl) ⟨(by omega), (shr_eq rfl (by decide)), (wr_u8 (by omega) (by omega)), wm_u8, trivial⟩ ?_
  refine AWP.ret ?_
  refine ⟨Or.inr rfl, Eq.trans (b := some ([(8, Blk.mk [u8 (n / 256), u8 (n % 256)] true 0 (some (5, 1)))], V.sl 8 0 2)) (by kernel_rfl) ?_⟩
  rfl
theorem wrap16 (x : BitVec 16) : IntKind.wrap .u16 (x.toNat : Int) = (x.toNat : Int) := by
  have hb := x.isLt
  show (x.toNat : Int) % 65536 = _
  omega
theorem ior16 (a b : Int) : ior .u16 a b = ((BitVec.ofInt 16 a ||| BitVec.ofInt 16 b).toNat : Int) := wrap16 _
theorem ior_hi {a : Int} (n j q : Nat) (m : Int) (ha : 0 ≤ a ∧ a < m) (hm : m = ((2 ^ n : Nat) : Int)) (hq : q = 2 ^ n * j) (hq2 : q < 65536) (h16 : m ≤ 65536) : ior .u16 a (q : Int) = a + (q : Int) := by
  obtain ⟨k, rfl⟩ : ∃ k : Nat, a = k := ⟨a.toNat, by omega⟩
  subst hm
  have hk : k < 2 ^ n := by have := ha.2; omega
  rw [ior16, BitVec.toNat_or, BitVec.toNat_ofInt, BitVec.toNat_ofInt]
  have e1 : ((k : Int) % ((2 ^ 16 : Nat) : Int)).toNat = k := by
    rw [show ((2 ^ 16 : Nat) : Int) = 65536 from rfl]
    omega
  have e2 : ((q : Int) % ((2 ^ 16 : Nat) : Int)).toNat = q := by
    rw [show ((2 ^ 16 : Nat) : Int) = 65536 from rfl]
    omega
  rw [e1, e2, Nat.or_comm, hq, ← Nat.two_pow_add_eq_or_of_lt hk]
  omega
theorem ior_a {ap : Int} (h : 0 ≤ ap ∧ ap < 2048) : ior .u16 (ior .u16 ap 2048) 4096 = ap + 6144 := by
  have e1 : ior .u16 ap 2048 = ap + 2048 := ior_hi 11 1 2048 2048 h rfl rfl (by decide) (by decide)
  have e2 : ior .u16 (ap + 2048) 4096 = ap + 2048 + 4096 := ior_hi 12 1 4096 4096 ⟨by omega, by omega⟩ rfl rfl (by decide) (by decide)
  rw [e1, e2]
  omega
theorem ior_c {c : Int} (h : 0 ≤ c ∧ c < 16384) : ior .u16 c 49152 = c + 49152 := ior_hi 14 3 49152 16384 h rfl rfl (by decide) (by decide)
/-- A packet's bytes, ahead of the sum. -/
def pkX (ap c : Int) (l : List Int) : List Int := [(ap + 6144) / 256, (ap + 6144) % 256] ++ [(c + 49152) / 256, (c + 49152) % 256] ++ [((l.length : Int) + 1) / 256, ((l.length : Int) + 1) % 256] ++ l
def pkB (ap c : Int) (l : List Int) : List Int := pkX ap c l ++ sumB (pkX ap c l)
theorem pkX_len (ap c : Int) (l : List Int) : (pkX ap c l).length = 2 + 2 + 2 + l.length := by simp [pkX]; omega
theorem pkX_bl {ap c : Int} (hap : 0 ≤ ap ∧ ap < 2048) (hc : 0 ≤ c ∧ c < 16384) {l : List Int} (hb : BL l) (hl : l.length ≤ 200) : BL (pkX ap c l) := by
  have two : ∀ n : Int, 0 ≤ n → n < 65536 → BL [n / 256, n % 256] := fun n h1 h2 => BL.cons ⟨by omega, by omega⟩ (BL.cons ⟨by omega, by omega⟩ BL.nil)
  exact (((two _ (by omega) (by omega)).app (two _ (by omega) (by omega))).app (two _ (by omega) (by omega))).app hb
theorem con_pbytes (ap c : Int) (hap : 0 ≤ ap ∧ ap < 2048) (hc : 0 ≤ c ∧ c < 16384) (l : List Int) (hb : BL l) (m : Nat) (hm : l.length = m) (hl : m ≤ 200) : Con Tryz.prog 148 [] [.agg true [vb true, u16 ap, u16 c, .vs (u8s l) m]] [(590005, ⟨u8s (pkB ap c l), true, 0, some (5, 1)⟩)] (.tup [.sl 590005 0 (m + 8), i64 0]) := by
  subst hm
  obtain ⟨tv, htv, cmk⟩ := con_make
  have wf1 := ior_a hap
  have wf2 := ior_c hc
  have hjn : ConN Tryz.prog 224 [.vs [.vs (u8s [(ap + 6144) / 256, (ap + 6144) % 256]) 2, .vs (u8s [(c + 49152) / 256, (c + 49152) % 256]) 2, .vs (u8s [((l.length : Int) + 2 - 1) / 256, ((l.length : Int) + 2 - 1) % 256]) 2, .vs (u8s l) l.length] 4, .val (.slice none 0 0)] (.vs (u8s (pkX ap c l)) (2 + 2 + 2 + l.length)) := by
    rw [show (l.length : Int) + 2 - 1 = l.length + 1 by omega]
    exact con_join4 [(ap + 6144) / 256, (ap + 6144) % 256] [(c + 49152) / 256, (c + 49152) % 256] [((l.length : Int) + 1) / 256, ((l.length : Int) + 1) % 256] l 2 2 2 l.length rfl rfl rfl rfl
      (BL.cons ⟨by omega, by omega⟩ (BL.cons ⟨by omega, by omega⟩ BL.nil)) (BL.cons ⟨by omega, by omega⟩ (BL.cons ⟨by omega, by omega⟩ BL.nil)) (BL.cons ⟨by omega, by omega⟩ (BL.cons ⟨by omega, by omega⟩ BL.nil)) hb (by omega)
  have hj := ConN.con hjn
  have ca := con_append tv htv (pkX ap c l) (2 + 2 + 2 + l.length) (pkX_len ap c l) (pkX_bl hap hc hb hl) (by omega)
  have hl0 := htv.1
  refine Con.of (C := ⟨Tryz.prog, tc, Tryz.f148.ntmps⟩) [590005] tcok Tryz.func148 rfl rfl (by kernel_rfl) (by kernel_rfl) ?_
  refine xe0 [1, 2, 3] [1, 2] (by kernel_rfl) ?_
  refine AWP.seq ?_
  refine AWP.block ?_
  refine xe0 [1, 2, 3, 6] [1, 2] (by kernel_rfl) ?_
  refine AWP.cond (b := decide (ap > 2047) || decide (c > 16383)) (by kernel_rfl) (fun hq2 => ?_) (fun hq2 => ?_)
  · simp only [decide_eq_true_eq, Bool.or_eq_true] at hq2
    (exfalso; omega)
  simp only [decide_eq_false_iff_not, Bool.or_eq_false_iff] at hq2
  refine xe0 [1, 2, 3, 15] [1, 2] (by kernel_rfl) ?_
  refine AWP.cond (b := decide ((↑(List.length l) : Int) > 200)) (by kernel_rfl) (fun hq3 => ?_) (fun hq3 => ?_)
  · simp only [decide_eq_true_eq] at hq3
    (exfalso; omega)
  simp only [decide_eq_false_iff_not] at hq3
  refine AWP.skip ?_
  refine xe0 [1, 2, 3, 4] [1, 2] (by kernel_rfl) ?_
  refine AWP.seq ?_
  refine xe0 [1, 2, 3, 4, 24] [1, 2] (by kernel_rfl) ?_
  refine AWP.condT (by kernel_rfl) ?_
  refine xg1 (os := [u16 (ior IntKind.u16 (ior IntKind.u16 ap 2048) 4096) = u16 (ap + 6144)]) [(1, ⟨some (u16 (ap + 6144)), none⟩)] [1, 2, 3, 4] [1, 2] (by kernel_rfl) ⟨(in_eq wf1), trivial⟩ ?_
  refine xe1 (os := [Con Tryz.prog 225 [] [u16 (ap + 6144)] [(8, Blk.mk [u8 ((ap + 6144) / 256), u8 ((ap + 6144) % 256)] true 0 (some (5, 1)))] (V.sl 8 0 2), u16 (ior IntKind.u16 c 49152) = u16 (c + 49152), Con Tryz.prog 225 [] [u16 (c + 49152)] [(8, Blk.mk [u8 ((c + 49152) / 256), u8 ((c + 49152) % 256)] true 0 (some (5, 1)))] (V.sl 8 0 2), i64 (IntKind.wrap IntKind.i64 ((↑(List.length l) : Int) + 2)) = i64 ((↑(List.length l) : Int) + 2), i64 (IntKind.wrap IntKind.i64 ((↑(List.length l) : Int) + 2 - 1)) = i64 ((↑(List.length l) : Int) + 2 - 1), u16 (IntKind.wrap IntKind.u16 ((↑(List.length l) : Int) + 2 - 1)) = u16 ((↑(List.length l) : Int) + 2 - 1), Con Tryz.prog 225 [] [u16 ((↑(List.length l) : Int) + 2 - 1)] [(8, Blk.mk [u8 (((↑(List.length l) : Int) + 2 - 1) / 256), u8 (((↑(List.length l) : Int) + 2 - 1) % 256)] true 0 (some (5, 1)))] (V.sl 8 0 2), VOr Tryz.prog (224 : Nat) [V.vs [V.vs [u8 ((ap + (6144 : Int)) / (256 : Int)), u8 ((ap + (6144 : Int)) % (256 : Int))] (2 : Nat), V.vs [u8 ((c + (49152 : Int)) / (256 : Int)), u8 ((c + (49152 : Int)) % (256 : Int))] (2 : Nat), V.vs [u8 (((↑(List.length l) : Int) + (2 : Int) - (1 : Int)) / (256 : Int)), u8 (((↑(List.length l) : Int) + (2 : Int) - (1 : Int)) % (256 : Int))] (2 : Nat), B8 l] (4 : Nat), V.val (Value.slice none (0 : Nat) (0 : Nat))] [] (V.vs (u8s (pkX ap c l)) ((6 : Nat) + List.length l)), VOH [], Con Tryz.prog 224 [] [V.vs [V.vs [u8 ((ap + 6144) / 256), u8 ((ap + 6144) % 256)] 2, V.vs [u8 ((c + 49152) / 256), u8 ((c + 49152) % 256)] 2, V.vs [u8 (((↑(List.length l) : Int) + 2 - 1) / 256), u8 (((↑(List.length l) : Int) + 2 - 1) % 256)] 2, B8 l] 4, V.val (Value.slice none 0 0)] [] (V.vs (u8s (pkX ap c l)) (6 + List.length l)), (0 : Nat) = (0 : Nat), (0 : Nat) = (0 : Nat), (0 : Nat) = (0 : Nat), (0 : Nat) = (0 : Nat)]) [(1, ⟨none, some ⟨V.sl 8 0 2, [(8, Blk.mk (u8s [(ap + 6144) / 256, (ap + 6144) % 256]) true 0 (some (5, 1)))], []⟩⟩), (4, ⟨some (u16 (c + 49152)), none⟩), (5, ⟨none, some ⟨V.sl 8 0 2, [(8, Blk.mk (u8s [(c + 49152) / 256, (c + 49152) % 256]) true 0 (some (5, 1)))], []⟩⟩), (9, ⟨some (i64 ((↑(List.length l) : Int) + 2)), none⟩), (10, ⟨some (i64 ((↑(List.length l) : Int) + 2 - 1)), none⟩), (11, ⟨some (u16 ((↑(List.length l) : Int) + 2 - 1)), none⟩), (12, ⟨none, some ⟨V.sl 8 0 2, [(8, Blk.mk (u8s [((↑(List.length l) : Int) + 2 - 1) / 256, ((↑(List.length l) : Int) + 2 - 1) % 256]) true 0 (some (5, 1)))], []⟩⟩), (16, ⟨none, some ⟨V.vs (u8s (pkX ap c l)) (2 + 2 + 2 + List.length l), [], [(400008, true), (330008, true), (290008, true), (42, true)]⟩⟩)] [2, 3, 5] [2] (by kernel_rfl) ⟨(con_two (ap + 6144) (by omega)), (in_eq wf2), (con_two (c + 49152) (by omega)), (wr_i64 (by omega) (by omega)), (wr_i64 (by omega) (by omega)), (wr_u16 (by omega) (by omega)), (con_two ((↑(List.length l) : Int) + 2 - 1) (by omega)), (by first | exact Or.inl (VO.vs_nil _) | exact Or.inr ⟨rfl, by assumption⟩), trivial, (hj ), (by omega), (by omega), (by omega), (by omega), trivial⟩ ?_
  refine AWP.seq ?_
  refine AWP.keep' [5] [] (sf := St.mk [(5, tp (V.vs (u8s (pkX ap c l)) (6 + List.length l)))] []) (by kernel_rfl) ?_
  refine xg1 (os := [Con Tryz.prog 217 [] [] [] (V.agg true tv), Con Tryz.prog 226 [] [V.agg true tv, V.vs (u8s (pkX ap c l)) (6 + List.length l)] [(120005, Blk.mk (u8s (pkX ap c l ++ sumB (pkX ap c l))) true 0 (some (5, 1)))] (V.sl 120005 0 (6 + List.length l + 2))]) [(0, ⟨none, some ⟨V.agg true tv, [], []⟩⟩), (2, ⟨none, some ⟨V.sl 120005 0 (2 + 2 + 2 + List.length l + 2), [(120005, Blk.mk (u8s (pkX ap c l ++ sumB (pkX ap c l))) true 0 (some (5, 1)))], []⟩⟩)] [2, 3] [590005] (by kernel_rfl) ⟨(cmk ), (ca ), trivial⟩ ?_
  refine AWP.ret ?_
  refine ⟨Or.inr rfl, Eq.trans (b := some ([(590005, Blk.mk (u8s (pkX ap c l ++ sumB (pkX ap c l))) true 0 (some (5, 1)))], V.tup [V.sl 590005 0 (6 + List.length l + 2), i64 0])) (by kernel_rfl) ?_⟩
  (rw [show 6 + l.length + 2 = l.length + 8 by omega]; rfl)
theorem ior_af {ap : Int} (h : 0 ≤ ap ∧ ap < 2048) : ior .u16 ap 2048 = ap + 2048 := ior_hi 11 1 2048 2048 h rfl rfl (by decide) (by decide)
/-- A report's packet. -/
def pkXf (ap c : Int) (l : List Int) : List Int := [(ap + 2048) / 256, (ap + 2048) % 256] ++ [(c + 49152) / 256, (c + 49152) % 256] ++ [((l.length : Int) + 1) / 256, ((l.length : Int) + 1) % 256] ++ l
def pkBf (ap c : Int) (l : List Int) : List Int := pkXf ap c l ++ sumB (pkXf ap c l)
theorem pkXf_len (ap c : Int) (l : List Int) : (pkXf ap c l).length = 2 + 2 + 2 + l.length := by simp [pkXf]; omega
theorem pkXf_bl {ap c : Int} (hap : 0 ≤ ap ∧ ap < 2048) (hc : 0 ≤ c ∧ c < 16384) {l : List Int} (hb : BL l) (hl : l.length ≤ 200) : BL (pkXf ap c l) := by
  have two : ∀ n : Int, 0 ≤ n → n < 65536 → BL [n / 256, n % 256] := fun n h1 h2 => BL.cons ⟨by omega, by omega⟩ (BL.cons ⟨by omega, by omega⟩ BL.nil)
  exact (((two _ (by omega) (by omega)).app (two _ (by omega) (by omega))).app (two _ (by omega) (by omega))).app hb
theorem con_pbytesf (ap c : Int) (hap : 0 ≤ ap ∧ ap < 2048) (hc : 0 ≤ c ∧ c < 16384) (l : List Int) (hb : BL l) (m : Nat) (hm : l.length = m) (hl : m ≤ 200) : Con Tryz.prog 148 [] [.agg true [vb false, u16 ap, u16 c, .vs (u8s l) m]] [(590005, ⟨u8s (pkBf ap c l), true, 0, some (5, 1)⟩)] (.tup [.sl 590005 0 (m + 8), i64 0]) := by
  subst hm
  obtain ⟨tv, htv, cmk⟩ := con_make
  have wf1 := ior_af hap
  have wf2 := ior_c hc
  have hjn : ConN Tryz.prog 224 [.vs [.vs (u8s [(ap + 2048) / 256, (ap + 2048) % 256]) 2, .vs (u8s [(c + 49152) / 256, (c + 49152) % 256]) 2, .vs (u8s [((l.length : Int) + 2 - 1) / 256, ((l.length : Int) + 2 - 1) % 256]) 2, .vs (u8s l) l.length] 4, .val (.slice none 0 0)] (.vs (u8s (pkXf ap c l)) (2 + 2 + 2 + l.length)) := by
    rw [show (l.length : Int) + 2 - 1 = l.length + 1 by omega]
    exact con_join4 [(ap + 2048) / 256, (ap + 2048) % 256] [(c + 49152) / 256, (c + 49152) % 256] [((l.length : Int) + 1) / 256, ((l.length : Int) + 1) % 256] l 2 2 2 l.length rfl rfl rfl rfl
      (BL.cons ⟨by omega, by omega⟩ (BL.cons ⟨by omega, by omega⟩ BL.nil)) (BL.cons ⟨by omega, by omega⟩ (BL.cons ⟨by omega, by omega⟩ BL.nil)) (BL.cons ⟨by omega, by omega⟩ (BL.cons ⟨by omega, by omega⟩ BL.nil)) hb (by omega)
  have hj := ConN.con hjn
  have ca := con_append tv htv (pkXf ap c l) (2 + 2 + 2 + l.length) (pkXf_len ap c l) (pkXf_bl hap hc hb hl) (by omega)
  have hl0 := htv.1
  refine Con.of (C := ⟨Tryz.prog, tc, Tryz.f148.ntmps⟩) [590005] tcok Tryz.func148 rfl rfl (by kernel_rfl) (by kernel_rfl) ?_
  refine xe0 [1, 2, 3] [1, 2] (by kernel_rfl) ?_
  refine AWP.seq ?_
  refine AWP.block ?_
  refine xe0 [1, 2, 3, 6] [1, 2] (by kernel_rfl) ?_
  refine AWP.cond (b := decide (ap > 2047) || decide (c > 16383)) (by kernel_rfl) (fun hq5 => ?_) (fun hq5 => ?_)
  · simp only [decide_eq_true_eq, Bool.or_eq_true] at hq5
    (exfalso; omega)
  simp only [decide_eq_false_iff_not, Bool.or_eq_false_iff] at hq5
  refine xe0 [1, 2, 3, 15] [1, 2] (by kernel_rfl) ?_
  refine AWP.cond (b := decide ((↑(List.length l) : Int) > 200)) (by kernel_rfl) (fun hq6 => ?_) (fun hq6 => ?_)
  · simp only [decide_eq_true_eq] at hq6
    (exfalso; omega)
  simp only [decide_eq_false_iff_not] at hq6
  refine AWP.skip ?_
  refine xe1 (os := [u16 (ior IntKind.u16 ap 2048) = u16 (ap + 2048)]) [(2, ⟨some (u16 (ap + 2048)), none⟩)] [1, 2, 3, 4] [1, 2] (by kernel_rfl) ⟨(in_eq wf1), trivial⟩ ?_
  refine AWP.seq ?_
  refine xe0 [1, 2, 3, 4, 24] [1, 2] (by kernel_rfl) ?_
  refine AWP.condF (by kernel_rfl) ?_
  refine AWP.skip ?_
  refine xe1 (os := [Con Tryz.prog 225 [] [u16 (ap + 2048)] [(8, Blk.mk [u8 ((ap + 2048) / 256), u8 ((ap + 2048) % 256)] true 0 (some (5, 1)))] (V.sl 8 0 2), u16 (ior IntKind.u16 c 49152) = u16 (c + 49152), Con Tryz.prog 225 [] [u16 (c + 49152)] [(8, Blk.mk [u8 ((c + 49152) / 256), u8 ((c + 49152) % 256)] true 0 (some (5, 1)))] (V.sl 8 0 2), i64 (IntKind.wrap IntKind.i64 ((↑(List.length l) : Int) + 2)) = i64 ((↑(List.length l) : Int) + 2), i64 (IntKind.wrap IntKind.i64 ((↑(List.length l) : Int) + 2 - 1)) = i64 ((↑(List.length l) : Int) + 2 - 1), u16 (IntKind.wrap IntKind.u16 ((↑(List.length l) : Int) + 2 - 1)) = u16 ((↑(List.length l) : Int) + 2 - 1), Con Tryz.prog 225 [] [u16 ((↑(List.length l) : Int) + 2 - 1)] [(8, Blk.mk [u8 (((↑(List.length l) : Int) + 2 - 1) / 256), u8 (((↑(List.length l) : Int) + 2 - 1) % 256)] true 0 (some (5, 1)))] (V.sl 8 0 2), VOr Tryz.prog (224 : Nat) [V.vs [V.vs [u8 ((ap + (2048 : Int)) / (256 : Int)), u8 ((ap + (2048 : Int)) % (256 : Int))] (2 : Nat), V.vs [u8 ((c + (49152 : Int)) / (256 : Int)), u8 ((c + (49152 : Int)) % (256 : Int))] (2 : Nat), V.vs [u8 (((↑(List.length l) : Int) + (2 : Int) - (1 : Int)) / (256 : Int)), u8 (((↑(List.length l) : Int) + (2 : Int) - (1 : Int)) % (256 : Int))] (2 : Nat), B8 l] (4 : Nat), V.val (Value.slice none (0 : Nat) (0 : Nat))] [] (V.vs (u8s (pkXf ap c l)) ((6 : Nat) + List.length l)), VOH [], Con Tryz.prog 224 [] [V.vs [V.vs [u8 ((ap + 2048) / 256), u8 ((ap + 2048) % 256)] 2, V.vs [u8 ((c + 49152) / 256), u8 ((c + 49152) % 256)] 2, V.vs [u8 (((↑(List.length l) : Int) + 2 - 1) / 256), u8 (((↑(List.length l) : Int) + 2 - 1) % 256)] 2, B8 l] 4, V.val (Value.slice none 0 0)] [] (V.vs (u8s (pkXf ap c l)) (6 + List.length l)), (0 : Nat) = (0 : Nat), (0 : Nat) = (0 : Nat), (0 : Nat) = (0 : Nat), (0 : Nat) = (0 : Nat)]) [(1, ⟨none, some ⟨V.sl 8 0 2, [(8, Blk.mk (u8s [(ap + 2048) / 256, (ap + 2048) % 256]) true 0 (some (5, 1)))], []⟩⟩), (4, ⟨some (u16 (c + 49152)), none⟩), (5, ⟨none, some ⟨V.sl 8 0 2, [(8, Blk.mk (u8s [(c + 49152) / 256, (c + 49152) % 256]) true 0 (some (5, 1)))], []⟩⟩), (9, ⟨some (i64 ((↑(List.length l) : Int) + 2)), none⟩), (10, ⟨some (i64 ((↑(List.length l) : Int) + 2 - 1)), none⟩), (11, ⟨some (u16 ((↑(List.length l) : Int) + 2 - 1)), none⟩), (12, ⟨none, some ⟨V.sl 8 0 2, [(8, Blk.mk (u8s [((↑(List.length l) : Int) + 2 - 1) / 256, ((↑(List.length l) : Int) + 2 - 1) % 256]) true 0 (some (5, 1)))], []⟩⟩), (16, ⟨none, some ⟨V.vs (u8s (pkXf ap c l)) (2 + 2 + 2 + List.length l), [], [(400008, true), (330008, true), (290008, true), (42, true)]⟩⟩)] [2, 3, 5] [2] (by kernel_rfl) ⟨(con_two (ap + 2048) (by omega)), (in_eq wf2), (con_two (c + 49152) (by omega)), (wr_i64 (by omega) (by omega)), (wr_i64 (by omega) (by omega)), (wr_u16 (by omega) (by omega)), (con_two ((↑(List.length l) : Int) + 2 - 1) (by omega)), (by first | exact Or.inl (VO.vs_nil _) | exact Or.inr ⟨rfl, by assumption⟩), trivial, (hj ), (by omega), (by omega), (by omega), (by omega), trivial⟩ ?_
  refine AWP.seq ?_
  refine AWP.keep' [5] [] (sf := St.mk [(5, tp (V.vs (u8s (pkXf ap c l)) (6 + List.length l)))] []) (by kernel_rfl) ?_
  refine xg1 (os := [Con Tryz.prog 217 [] [] [] (V.agg true tv), Con Tryz.prog 226 [] [V.agg true tv, V.vs (u8s (pkXf ap c l)) (6 + List.length l)] [(120005, Blk.mk (u8s (pkXf ap c l ++ sumB (pkXf ap c l))) true 0 (some (5, 1)))] (V.sl 120005 0 (6 + List.length l + 2))]) [(0, ⟨none, some ⟨V.agg true tv, [], []⟩⟩), (2, ⟨none, some ⟨V.sl 120005 0 (2 + 2 + 2 + List.length l + 2), [(120005, Blk.mk (u8s (pkXf ap c l ++ sumB (pkXf ap c l))) true 0 (some (5, 1)))], []⟩⟩)] [2, 3] [590005] (by kernel_rfl) ⟨(cmk ), (ca ), trivial⟩ ?_
  refine AWP.ret ?_
  refine ⟨Or.inr rfl, Eq.trans (b := some ([(590005, Blk.mk (u8s (pkXf ap c l ++ sumB (pkXf ap c l))) true 0 (some (5, 1)))], V.tup [V.sl 590005 0 (6 + List.length l + 2), i64 0])) (by kernel_rfl) ?_⟩
  (rw [show 6 + l.length + 2 = l.length + 8 by omega]; rfl)
end Go.Proofs.YtcekfepgdfcinaaGreatDoor

namespace Go.Proofs.YtcekfepgdfcinaaGreatDoor
open Go Go.Ab
set_option linter.unusedSimpArgs false
set_option linter.unusedVariables false
set_option maxRecDepth 100000
theorem con_aclone0 : Con Tryz.prog 251 [] [.vs [] 0] [(5, ⟨[], true, 0, some (248, 3)⟩)] (.sl 5 0 0) := by
  refine Con.of (C := ⟨Tryz.prog, tc, Tryz.f251.ntmps⟩) [5] tcok Tryz.func251 rfl rfl (by kernel_rfl) (by kernel_rfl) ?_
  refine xe0 [0, 2] [2] (by kernel_rfl) ?_
  refine AWP.seq ?_
  refine xe0 [0, 2, 4] [2] (by kernel_rfl) ?_
  refine AWP.condB (by kernel_rfl) ?_ ?_
  · refine AWP.seq ?_
    refine AWP.keep' [0] [] (sf := St.mk [(0, T.plain (V.vs [] 0))] []) (by kernel_rfl) ?_
    refine xg0 [0, 2] [2] (by kernel_rfl) ?_
    refine AWP.shift 3 (s' := St.mk [(0, T.plain (V.vs [] 0)), (2, T.plain (V.sl 5 0 0))] [(5, Blk.mk [] true 0 (some (248, 3)))]) (by kernel_rfl) rfl ?_
    refine AWP.ret ?_
    refine ⟨Or.inr rfl, Eq.trans (b := some ([(5, Blk.mk [] true 0 (some (248, 3)))], V.sl 5 0 0)) (by kernel_rfl) ?_⟩
    rfl
  refine AWP.skip ?_
  refine AWP.seq ?_
  refine AWP.keep' [0] [] (sf := St.mk [(0, tp (V.vs [] 0))] []) (by kernel_rfl) ?_
  refine xg0 [2] [5] (by kernel_rfl) ?_
  refine AWP.ret ?_
  refine ⟨Or.inr rfl, Eq.trans (b := some ([(5, Blk.mk [] true 0 (some (248, 3)))], V.sl 5 0 0)) (by kernel_rfl) ?_⟩
  rfl
/-- The sums. -/
def appK (l : List Int) : Option (List (Nat × Blk) × V) := match Nat.ble l.length 100000000 with
  | true => some ([(120005, ⟨u8s (l ++ sumB l), true, 0, some (5, 1)⟩)], .sl 120005 0 (l.length + 2))
  | false => none
def rightK (l : List Int) : Option (List (Nat × Blk) × V) := match Nat.ble l.length 100000000 with
  | true => some ([], vb (iright l))
  | false => none
def cutK (l : List Int) : Option (List (Nat × Blk) × V) := match Nat.ble l.length 100000000 && (Nat.ble 2 l.length && iright l) with
  | true => some ([(210005, ⟨u8s (l.take (l.length - 2)), true, 0, some (5, 1)⟩)], .tup [.sl 210005 0 (l.length - 2), i64 0])
  | false => none
def cloneK (l : List Int) : Option (List (Nat × Blk) × V) := match Nat.ble l.length 140737488355328 with
  | true => some ([(5, ⟨u8s l, true, 0, some (5, 1)⟩)], .sl 5 0 l.length)
  | false => none
theorem appK_ok : (tabC 226 tabV appK).Ok Tryz.prog := tabC_ok fun l Hout r hb h => by
  unfold appK at h
  split at h
  · rename_i hl
    cases h
    exact con_append tabV tabV_ok l l.length rfl hb (Nat.le_of_ble_eq_true hl)
  · cases h
theorem rightK_ok : (tabC 277 tabV rightK).Ok Tryz.prog := tabC_ok fun l Hout r hb h => by
  unfold rightK at h
  split at h
  · rename_i hl
    cases h
    exact con_right tabV tabV_ok l hb (Nat.le_of_ble_eq_true hl)
  · cases h
theorem cutK_ok : (tabC 218 tabV cutK).Ok Tryz.prog := tabC_ok fun l Hout r hb h => by
  unfold cutK at h
  split at h
  · rename_i hl
    cases h
    simp only [Bool.and_eq_true, Nat.ble_eq] at hl
    exact con_tcut_y tabV tabV_ok l hb hl.1 hl.2.1 hl.2.2
  · cases h
theorem cloneK_ok : (byteC 79 cloneK).Ok Tryz.prog := byteC_ok fun l Hout r hb h => by
  unfold cloneK at h
  split at h
  · rename_i hl
    cases h
    exact con_clone l l.length rfl (Nat.le_of_ble_eq_true hl)
  · cases h
/-- Packets. -/
def packK : CallF := fun f Hin ys => match Hin, ys with
  | [], [.agg true [.val (.bool b), .val (.int .u16 ap), .val (.int .u16 c), .vs xs n]] => if f = 148 then match u8L xs with
    | some l => match (decide (0 ≤ ap) && decide (ap < 2048)) && ((decide (0 ≤ c) && decide (c < 16384)) && (Nat.beq l.length n && Nat.ble n 200)) with
      | true => match b with
        | true => some ([(590005, ⟨u8s (pkB ap c l), true, 0, some (5, 1)⟩)], .tup [.sl 590005 0 (n + 8), i64 0])
        | false => some ([(590005, ⟨u8s (pkBf ap c l), true, 0, some (5, 1)⟩)], .tup [.sl 590005 0 (n + 8), i64 0])
      | false => none
    | none => none else none
  | _, _ => none
theorem packK_ok : packK.Ok Tryz.prog := fun f Hin ys Hout r h => by
  unfold packK at h
  split at h
  · rename_i b ap c xs n
    split at h
    · rename_i e
      subst e
      split at h
      · rename_i l hl
        obtain ⟨rfl, hb⟩ := u8L_ok hl
        split at h
        · rename_i hc
          simp only [Bool.and_eq_true, decide_eq_true_eq, Nat.ble_eq] at hc
          obtain ⟨⟨h1, h2⟩, ⟨h3, h4⟩, h5, h6⟩ := hc
          have h5 := Nat.eq_of_beq_eq_true h5
          split at h
          · cases h
            exact con_pbytes ap c ⟨h1, h2⟩ ⟨h3, h4⟩ l hb n h5 h6
          · cases h
            exact con_pbytesf ap c ⟨h1, h2⟩ ⟨h3, h4⟩ l hb n h5 h6
        · cases h
      · cases h
    · cases h
  · cases h
end Go.Proofs.YtcekfepgdfcinaaGreatDoor
