/- Chapter 28: GroundSays. -/
import Derived.Test.YtieoaeidlcdggaaDoorRg
import Derived.Test.YtieoaeidlcdggaaDoorGsP
namespace Go.Proofs.YtieoaeidlcdggaaDoor
open Go Go.Ab
set_option linter.unusedSimpArgs false
set_option linter.unusedVariables false
set_option maxRecDepth 100000
set_option maxHeartbeats 8000000
theorem txt_size (s : ByteArray) (m : Nat) : (txt s m).size ≤ m := by
  unfold txt
  rw [ByteArray.size_extract]
  omega
theorem sayO_len {s : ByteArray} {w : Wd} {ds : List Int} (h : sayO s = some (w, ds)) : ds.length ≤ s.size := by
  obtain ⟨hd, tl, hsp, hn, _⟩ := sayO_parts h
  have h1 := (numsO_all hn).1
  have h2 := spl_len s
  rw [hsp] at h2
  simp only [List.length_cons] at h2
  omega
theorem says (s : ByteArray) (hs : s.size ≤ 9223372036854775807) (ac sv sb sr : Int) (d : List Int) (hd : BL d) (hl : d.length ≤ 9223372036854775807) (hac : 0 ≤ ac ∧ ac < 256) (hsv : 0 ≤ sv ∧ sv < 256) (hsb : 0 ≤ sb ∧ sb < 256) (hsr : 0 ≤ sr ∧ sr < 65536) :
    Con Tryd.prog 3 [] [strV s, cV ac sv sb sr d] [] (vb true) := by
  have c1 := con_awake
  have c2 := con_text s 60 (by omega) hs
  have c3 := con_cut d 20 (by omega) (by omega) hl
  have hps : (txt s 60).size ≤ 60 := txt_size s 60
  rw [show Int.toNat 60 = 60 from rfl] at c2
  rw [show Int.toNat 20 = 20 from rfl] at c3
  have hd' : ∀ x ∈ d.take 20, 0 ≤ x ∧ x < 256 := fun x hx => hd x (List.mem_of_mem_take hx)
  have hl' : (d.take 20).length ≤ 20 := by rw [List.length_take]; omega
  generalize txt s 60 = p at c2 hps
  generalize d.take 20 = e at c3 hd' hl'
  have c5 := con_rphrase 0 sv sb 0 e hd' hl'
  rcases hp : phO sv sb e.length with _ | w2
  · have c4 := con_phrase_no ac sv sb sr e hl' hp
    have hr : rph sv sb e = ⟨#[]⟩ := by unfold rph; rw [hp]
    rw [hr] at c5
    rcases hq : sayO p with _ | ⟨w, ds⟩
    · have c6 := con_say_no p (by omega) hq
      have c7 := con_rsay_no p (by omega) hq
      have c8 := con_like0
      refine Con.of (C := ⟨Tryd.prog, tc, Tryd.f3.ntmps⟩) [] tcok Tryd.func3 rfl rfl (by kernel_rfl) (by kernel_rfl) ?_
      refine AWP.seq ?_
      refine AWP.regionT tcok hmix [] [0, 3, 4] [3] (os := []) (s' := St.mk [(0, tp (V.val (Value.string s))), (3, tp (V.ptr 3 0)), (4, tp (vb false))] [(3, Blk.mk [u8 ac, u8 sv, u8 sb, u16 sr, B8 d] true 5 none)]) (by kernel_rfl) trivial ?_
      refine AWP.seq ?_
      refine xe1 (os := [Con Tryd.prog 4 [] [] [] (vb true)]) [(0, ⟨none, some ⟨vb true, [], []⟩⟩)] [0, 3, 4, 15] [3] (by kernel_rfl) ⟨(c1 ), trivial⟩ ?_
      refine AWP.condF (by kernel_rfl) ?_
      refine AWP.skip ?_
      refine xe1 (os := [Con Tryd.prog 5 [] [V.val (Value.string s), i64 60] [] (V.val (Value.string p))]) [(1, ⟨none, some ⟨strV p, [], []⟩⟩)] [0, 3, 4] [3] (by kernel_rfl) ⟨(c2 ), trivial⟩ ?_
      refine xe1 (os := [Con Tryd.prog 6 [] [B8 d, i64 20] [(5, Blk.mk (u8s e) true 0 (some (5, 1)))] (V.sl 5 0 (List.length e))]) [(2, ⟨none, some ⟨V.sl 5 0 (List.length e), [(5, Blk.mk (u8s e) true 0 (some (5, 1)))], []⟩⟩)] [0, 3, 4] [3, 210005] (by kernel_rfl) ⟨(c3 ), trivial⟩ ?_
      refine xe1 (os := [Con Tryd.prog 7 [] [V.val (Value.string p)] [] (V.tup [V.agg true [u8 0, u8 0, u8 0, u16 0, V.val (Value.slice none 0 0)], i64 13])]) [(1, ⟨none, some ⟨V.tup [V.agg true [u8 0, u8 0, u8 0, u16 0, V.val (Value.slice none 0 0)], i64 13], [], []⟩⟩)] [0, 3, 4, 5, 6] [3, 5, 210005] (by kernel_rfl) ⟨(c6 ), trivial⟩ ?_
      refine xe1 (os := [Con Tryd.prog 8 [] [V.val (Value.string p)] [] (V.tup [V.agg true [u8 0, u8 0, u8 0, u16 0, V.val (Value.slice none 0 0)], vb false])]) [(1, ⟨none, some ⟨V.tup [V.agg true [u8 0, u8 0, u8 0, u16 0, V.val (Value.slice none 0 0)], vb false], [], []⟩⟩)] [3, 4, 5, 6, 7, 8] [3, 5, 7, 210005] (by kernel_rfl) ⟨(c7 ), trivial⟩ ?_
      refine AWP.seq ?_
      refine xe1 (os := [false = false → Con Tryd.prog (9 : Nat) [] [V.agg true [u8 (0 : Int), u8 (0 : Int), u8 (0 : Int), u16 (0 : Int), V.val (Value.slice none (0 : Nat) (0 : Nat))], V.agg true [u8 (0 : Int), u8 (0 : Int), u8 (0 : Int), u16 (0 : Int), V.val (Value.slice none (0 : Nat) (0 : Nat))]] [] (vb true) ∧ True]) [(15, ⟨none, some ⟨vb true, [], []⟩⟩)] [3, 4, 49] [3, 210005] (by kernel_rfl) ⟨(fun _ => ⟨(c8 ), trivial⟩), trivial⟩ ?_
      refine AWP.condF (by kernel_rfl) ?_
      refine AWP.skip ?_
      refine xe1 (os := [VO (V.tup [V.val (Value.string (ByteArray.mk #[])), vb false]), VOH [], Con Tryd.prog 10 [] [V.agg true [u8 ac, u8 sv, u8 sb, u16 sr, B8 e]] [] (V.tup [V.val (Value.string (ByteArray.mk #[])), vb false]), (0 : Nat) = (0 : Nat)]) [(1, ⟨none, some ⟨V.tup [strV (ByteArray.mk #[]), vb false], [], [(210005, true)]⟩⟩)] [3, 4, 9, 10] [3, 210005] (by kernel_rfl) ⟨(VO.tup (VOL.cons (VO.val _) (VOL.cons (VO.val _) VOL.nil))), trivial, (c4 ), (by omega), trivial⟩ ?_
      refine AWP.seq ?_
      refine AWP.regionT tcok hmix [(7, ⟨none, some ⟨strV (ByteArray.mk #[]), [], [(210005, true)]⟩⟩)] [3, 4, 9, 10, 11] [3, 210005] (os := [VO (V.val (Value.string (ByteArray.mk #[]))), VOH [], Con Tryd.prog 11 [] [V.agg true [u8 0, u8 sv, u8 sb, u16 0, B8 e]] [] (V.val (Value.string (ByteArray.mk #[]))), (0 : Nat) = (0 : Nat)]) (s' := St.mk [(3, tp (V.ptr 3 0)), (4, tp (vb false)), (9, tp (V.val (Value.string (ByteArray.mk #[])))), (10, tp (vb false)), (11, tp (V.val (Value.string (ByteArray.mk #[]))))] [(3, Blk.mk [u8 ac, u8 sv, u8 sb, u16 sr, V.sl 210005 0 (List.length e)] false 5 none), (210005, Blk.mk (u8s e) true 0 (some (5, 1)))]) (by kernel_rfl) ⟨(VO.val _), trivial, (c5 ), (by omega), trivial⟩ ?_
      refine AWP.seq ?_
      refine xe0 [3, 4, 9, 10, 71] [3, 210005] (by kernel_rfl) ?_
      refine AWP.condF (by kernel_rfl) ?_
      refine AWP.skip ?_
      refine AWP.seq ?_
      refine xe0 [3, 4, 9, 73] [3, 210005] (by kernel_rfl) ?_
      refine AWP.condT (by kernel_rfl) ?_
      refine xe0 [3, 4, 9] [3, 210005] (by kernel_rfl) ?_
      refine AWP.ret ?_
      refine ⟨Or.inr rfl, Eq.trans (b := some ([], vb true)) (by kernel_rfl) ?_⟩
      rfl
    · have c6 := con_say p (by omega) w ds hq
      have c7 := con_rsay p (by omega) w ds hq
      have c8 := con_like_eq 9 w.a w.b 0 ds (by have := sayO_len hq; omega)
      refine Con.of (C := ⟨Tryd.prog, tc, Tryd.f3.ntmps⟩) [] tcok Tryd.func3 rfl rfl (by kernel_rfl) (by kernel_rfl) ?_
      refine AWP.seq ?_
      refine AWP.regionT tcok hmix [] [0, 3, 4] [3] (os := []) (s' := St.mk [(0, tp (V.val (Value.string s))), (3, tp (V.ptr 3 0)), (4, tp (vb false))] [(3, Blk.mk [u8 ac, u8 sv, u8 sb, u16 sr, B8 d] true 5 none)]) (by kernel_rfl) trivial ?_
      refine AWP.seq ?_
      refine xe1 (os := [Con Tryd.prog 4 [] [] [] (vb true)]) [(0, ⟨none, some ⟨vb true, [], []⟩⟩)] [0, 3, 4, 15] [3] (by kernel_rfl) ⟨(c1 ), trivial⟩ ?_
      refine AWP.condF (by kernel_rfl) ?_
      refine AWP.skip ?_
      refine xe1 (os := [Con Tryd.prog 5 [] [V.val (Value.string s), i64 60] [] (V.val (Value.string p))]) [(1, ⟨none, some ⟨strV p, [], []⟩⟩)] [0, 3, 4] [3] (by kernel_rfl) ⟨(c2 ), trivial⟩ ?_
      refine xe1 (os := [Con Tryd.prog 6 [] [B8 d, i64 20] [(5, Blk.mk (u8s e) true 0 (some (5, 1)))] (V.sl 5 0 (List.length e))]) [(2, ⟨none, some ⟨V.sl 5 0 (List.length e), [(5, Blk.mk (u8s e) true 0 (some (5, 1)))], []⟩⟩)] [0, 3, 4] [3, 210005] (by kernel_rfl) ⟨(c3 ), trivial⟩ ?_
      refine xe1 (os := [Con Tryd.prog 7 [] [V.val (Value.string p)] [(5, Blk.mk (u8s ds) true 0 (some (5, 1)))] (V.tup [V.agg false [u8 9, u8 w.a, u8 w.b, u16 0, V.sl 5 0 (List.length ds)], i64 0])]) [(1, ⟨none, some ⟨V.tup [V.agg false [u8 9, u8 w.a, u8 w.b, u16 0, V.sl 5 0 (List.length ds)], i64 0], [(5, Blk.mk (u8s ds) true 0 (some (5, 1)))], []⟩⟩)] [0, 3, 4, 5, 6] [3, 5, 210005, 250005] (by kernel_rfl) ⟨(c6 ), trivial⟩ ?_
      refine xe1 (os := [Con Tryd.prog 8 [] [V.val (Value.string p)] [(5, Blk.mk (u8s ds) true 0 (some (5, 1)))] (V.tup [V.agg false [u8 9, u8 w.a, u8 w.b, u16 0, V.sl 5 0 (List.length ds)], vb true])]) [(1, ⟨none, some ⟨V.tup [V.agg false [u8 9, u8 w.a, u8 w.b, u16 0, V.sl 5 0 (List.length ds)], vb true], [(5, Blk.mk (u8s ds) true 0 (some (5, 1)))], []⟩⟩)] [3, 4, 5, 6, 7, 8] [3, 5, 7, 210005, 250005, 300005] (by kernel_rfl) ⟨(c7 ), trivial⟩ ?_
      refine AWP.seq ?_
      refine xe1 (os := [false = false → VO (vb true) ∧ VOH [] ∧ Con Tryd.prog (9 : Nat) [] [V.agg true [u8 (9 : Int), u8 w.a, u8 w.b, u16 (0 : Int), B8 ds], V.agg true [u8 (9 : Int), u8 w.a, u8 w.b, u16 (0 : Int), B8 ds]] [] (vb true) ∧ (0 : Nat) = (0 : Nat) ∧ (0 : Nat) = (0 : Nat) ∧ True]) [(15, ⟨none, some ⟨vb true, [], [(300005, true), (250005, true)]⟩⟩)] [3, 4, 49] [3, 210005] (by kernel_rfl) ⟨(by intro hc0; first | (cases hc0; done) | ((try simp only [Bool.or_false, Bool.false_or, Bool.true_and, Bool.and_true, decide_eq_true_eq, decide_eq_false_iff_not, Bool.and_eq_true, Bool.or_eq_true, Bool.or_eq_false_iff, Bool.not_eq_true', Bool.and_eq_false_iff, beq_iff_eq, bne_iff_ne, bne_eq_false_iff_eq, beq_eq_false_iff_ne, Bool.not_eq_false'] at hc0); exact ⟨(VO.val _), trivial, (c8 ), (by omega), (by omega), trivial⟩)), trivial⟩ ?_
      refine AWP.condF (by kernel_rfl) ?_
      refine AWP.skip ?_
      refine xe1 (os := [VO (V.tup [V.val (Value.string (ByteArray.mk #[])), vb false]), VOH [], Con Tryd.prog 10 [] [V.agg true [u8 ac, u8 sv, u8 sb, u16 sr, B8 e]] [] (V.tup [V.val (Value.string (ByteArray.mk #[])), vb false]), (0 : Nat) = (0 : Nat)]) [(1, ⟨none, some ⟨V.tup [strV (ByteArray.mk #[]), vb false], [], [(210005, true)]⟩⟩)] [3, 4, 9, 10] [3, 210005] (by kernel_rfl) ⟨(VO.tup (VOL.cons (VO.val _) (VOL.cons (VO.val _) VOL.nil))), trivial, (c4 ), (by omega), trivial⟩ ?_
      refine AWP.seq ?_
      refine AWP.regionT tcok hmix [(7, ⟨none, some ⟨strV (ByteArray.mk #[]), [], [(210005, true)]⟩⟩)] [3, 4, 9, 10, 11] [3, 210005] (os := [VO (V.val (Value.string (ByteArray.mk #[]))), VOH [], Con Tryd.prog 11 [] [V.agg true [u8 0, u8 sv, u8 sb, u16 0, B8 e]] [] (V.val (Value.string (ByteArray.mk #[]))), (0 : Nat) = (0 : Nat)]) (s' := St.mk [(3, tp (V.ptr 3 0)), (4, tp (vb false)), (9, tp (V.val (Value.string (ByteArray.mk #[])))), (10, tp (vb false)), (11, tp (V.val (Value.string (ByteArray.mk #[]))))] [(3, Blk.mk [u8 ac, u8 sv, u8 sb, u16 sr, V.sl 210005 0 (List.length e)] false 5 none), (210005, Blk.mk (u8s e) true 0 (some (5, 1)))]) (by kernel_rfl) ⟨(VO.val _), trivial, (c5 ), (by omega), trivial⟩ ?_
      refine AWP.seq ?_
      refine xe0 [3, 4, 9, 10, 71] [3, 210005] (by kernel_rfl) ?_
      refine AWP.condF (by kernel_rfl) ?_
      refine AWP.skip ?_
      refine AWP.seq ?_
      refine xe0 [3, 4, 9, 73] [3, 210005] (by kernel_rfl) ?_
      refine AWP.condT (by kernel_rfl) ?_
      refine xe0 [3, 4, 9] [3, 210005] (by kernel_rfl) ?_
      refine AWP.ret ?_
      refine ⟨Or.inr rfl, Eq.trans (b := some ([], vb true)) (by kernel_rfl) ?_⟩
      rfl
  · have hw2 := phO_iff.1 hp
    have hk2 := hw2.2.1
    simp only [isK, Bool.and_eq_true, beq_iff_eq] at hk2
    have c4 := con_phrase ac sv sb sr e hd' hl' w2 hp
    have hr : rph sv sb e = spd w2.nm e := by unfold rph; rw [hp]
    rw [hr] at c5
    have hsz : (spd w2.nm e).size ≤ 1000 := by
      have := spd_size w2.nm e hd'
      have := wds_size hw2.1
      omega
    have c9 := con_say (spd w2.nm e) hsz w2 e (say_spd hw2.1 e hd' hw2.2.2)
    have c10 := con_same e e (by omega) (by omega)
    rw [decide_eq_true rfl] at c10
    have hpos := spd_pos hw2.1 e
    generalize spd w2.nm e = S at c4 c5 c9 hpos
    have wbS : (S.data.toList == ([] : List UInt8)) = false := by simpa using hpos
    have wbS2 : (S.data.toList == (ByteArray.mk #[]).data.toList) = false := wbS
    rcases hq : sayO p with _ | ⟨w, ds⟩
    · have c6 := con_say_no p (by omega) hq
      have c7 := con_rsay_no p (by omega) hq
      have c8 := con_like0
      refine Con.of (C := ⟨Tryd.prog, tc, Tryd.f3.ntmps⟩) [] tcok Tryd.func3 rfl rfl (by kernel_rfl) (by kernel_rfl) ?_
      refine AWP.seq ?_
      refine AWP.regionT tcok hmix [] [0, 3, 4] [3] (os := []) (s' := St.mk [(0, tp (V.val (Value.string s))), (3, tp (V.ptr 3 0)), (4, tp (vb false))] [(3, Blk.mk [u8 ac, u8 sv, u8 sb, u16 sr, B8 d] true 5 none)]) (by kernel_rfl) trivial ?_
      refine AWP.seq ?_
      refine xe1 (os := [Con Tryd.prog 4 [] [] [] (vb true)]) [(0, ⟨none, some ⟨vb true, [], []⟩⟩)] [0, 3, 4, 15] [3] (by kernel_rfl) ⟨(c1 ), trivial⟩ ?_
      refine AWP.condF (by kernel_rfl) ?_
      refine AWP.skip ?_
      refine xe1 (os := [Con Tryd.prog 5 [] [V.val (Value.string s), i64 60] [] (V.val (Value.string p))]) [(1, ⟨none, some ⟨strV p, [], []⟩⟩)] [0, 3, 4] [3] (by kernel_rfl) ⟨(c2 ), trivial⟩ ?_
      refine xe1 (os := [Con Tryd.prog 6 [] [B8 d, i64 20] [(5, Blk.mk (u8s e) true 0 (some (5, 1)))] (V.sl 5 0 (List.length e))]) [(2, ⟨none, some ⟨V.sl 5 0 (List.length e), [(5, Blk.mk (u8s e) true 0 (some (5, 1)))], []⟩⟩)] [0, 3, 4] [3, 210005] (by kernel_rfl) ⟨(c3 ), trivial⟩ ?_
      refine xe1 (os := [Con Tryd.prog 7 [] [V.val (Value.string p)] [] (V.tup [V.agg true [u8 0, u8 0, u8 0, u16 0, V.val (Value.slice none 0 0)], i64 13])]) [(1, ⟨none, some ⟨V.tup [V.agg true [u8 0, u8 0, u8 0, u16 0, V.val (Value.slice none 0 0)], i64 13], [], []⟩⟩)] [0, 3, 4, 5, 6] [3, 5, 210005] (by kernel_rfl) ⟨(c6 ), trivial⟩ ?_
      refine xe1 (os := [Con Tryd.prog 8 [] [V.val (Value.string p)] [] (V.tup [V.agg true [u8 0, u8 0, u8 0, u16 0, V.val (Value.slice none 0 0)], vb false])]) [(1, ⟨none, some ⟨V.tup [V.agg true [u8 0, u8 0, u8 0, u16 0, V.val (Value.slice none 0 0)], vb false], [], []⟩⟩)] [3, 4, 5, 6, 7, 8] [3, 5, 7, 210005] (by kernel_rfl) ⟨(c7 ), trivial⟩ ?_
      refine AWP.seq ?_
      refine xe1 (os := [false = false → Con Tryd.prog (9 : Nat) [] [V.agg true [u8 (0 : Int), u8 (0 : Int), u8 (0 : Int), u16 (0 : Int), V.val (Value.slice none (0 : Nat) (0 : Nat))], V.agg true [u8 (0 : Int), u8 (0 : Int), u8 (0 : Int), u16 (0 : Int), V.val (Value.slice none (0 : Nat) (0 : Nat))]] [] (vb true) ∧ True]) [(15, ⟨none, some ⟨vb true, [], []⟩⟩)] [3, 4, 49] [3, 210005] (by kernel_rfl) ⟨(fun _ => ⟨(c8 ), trivial⟩), trivial⟩ ?_
      refine AWP.condF (by kernel_rfl) ?_
      refine AWP.skip ?_
      refine xe1 (os := [VO (V.tup [V.val (Value.string S), vb true]), VOH [], Con Tryd.prog 10 [] [V.agg true [u8 ac, u8 sv, u8 sb, u16 sr, B8 e]] [] (V.tup [V.val (Value.string S), vb true]), (0 : Nat) = (0 : Nat)]) [(1, ⟨none, some ⟨V.tup [strV S, vb true], [], [(210005, true)]⟩⟩)] [3, 4, 9, 10] [3, 210005] (by kernel_rfl) ⟨(VO.tup (VOL.cons (VO.val _) (VOL.cons (VO.val _) VOL.nil))), trivial, (c4 ), (by omega), trivial⟩ ?_
      refine AWP.seq ?_
      refine AWP.regionT tcok hmix [(7, ⟨none, some ⟨strV S, [], [(210005, true)]⟩⟩)] [3, 4, 9, 10, 11] [3, 210005] (os := [VO (V.val (Value.string S)), VOH [], Con Tryd.prog 11 [] [V.agg true [u8 0, u8 sv, u8 sb, u16 0, B8 e]] [] (V.val (Value.string S)), (0 : Nat) = (0 : Nat)]) (s' := St.mk [(3, tp (V.ptr 3 0)), (4, tp (vb false)), (9, tp (V.val (Value.string S))), (10, tp (vb true)), (11, tp (V.val (Value.string S)))] [(3, Blk.mk [u8 ac, u8 sv, u8 sb, u16 sr, V.sl 210005 0 (List.length e)] false 5 none), (210005, Blk.mk (u8s e) true 0 (some (5, 1)))]) (by kernel_rfl) ⟨(VO.val _), trivial, (c5 ), (by omega), trivial⟩ ?_
      refine AWP.seq ?_
      refine xe0 [3, 4, 9, 10, 71] [3, 210005] (by kernel_rfl) ?_
      refine AWP.cond (b := bl false (true == !S.data.toList == (ByteArray.mk #[]).data.toList) || !S.data.toList == S.data.toList) (by kernel_rfl) (fun hq10 => ?_) (fun hq10 => ?_)
      · simp only [Bool.or_eq_true, Bool.not_eq_true', beq_eq_false_iff_ne] at hq10
        refine AWP.seq ?_
        refine AWP.regionT tcok hmix [] [3, 4, 9, 10] [3, 210005] (os := []) (s' := St.mk [(3, tp (V.ptr 3 0)), (4, tp (vb false)), (9, tp (V.val (Value.string S))), (10, tp (vb true))] [(3, Blk.mk [u8 ac, u8 sv, u8 sb, u16 sr, V.sl 210005 0 (List.length e)] false 5 none), (210005, Blk.mk (u8s e) true 0 (some (5, 1)))]) (by kernel_rfl) trivial ?_
        refine AWP.ret ?_
        refine ⟨Or.inr rfl, Eq.trans (b := some ([], vb false)) (by kernel_rfl) ?_⟩
        first | rfl | (exfalso; simp [bl, wbS] at hq10; done) | (simp [hk2.1, hk2.2]; done)
      simp only [Bool.or_eq_false_iff, beq_iff_eq, Bool.not_eq_false'] at hq10
      refine AWP.skip ?_
      refine AWP.seq ?_
      refine AWP.seq ?_
      refine AWP.regionT tcok hmix [] [3, 4, 9, 73] [3, 210005] (os := []) (s' := St.mk [(3, tp (V.ptr 3 0)), (4, tp (vb false)), (9, tp (V.val (Value.string S))), (73, tp (vb false))] [(3, Blk.mk [u8 ac, u8 sv, u8 sb, u16 sr, V.sl 210005 0 (List.length e)] false 5 none), (210005, Blk.mk (u8s e) true 0 (some (5, 1)))]) (by kernel_rfl) trivial ?_
      refine AWP.condF (by kernel_rfl) ?_
      refine AWP.skip ?_
      refine xe1 (os := [Con Tryd.prog 7 [] [V.val (Value.string S)] [(5, Blk.mk (u8s e) true 0 (some (5, 1)))] (V.tup [V.agg false [u8 9, u8 w2.a, u8 w2.b, u16 0, V.sl 5 0 (List.length e)], i64 0])]) [(1, ⟨none, some ⟨V.tup [V.agg false [u8 9, u8 w2.a, u8 w2.b, u16 0, V.sl 5 0 (List.length e)], i64 0], [(5, Blk.mk (u8s e) true 0 (some (5, 1)))], []⟩⟩)] [3, 4, 12, 13] [3, 12, 210005, 770005] (by kernel_rfl) ⟨(c9 ), trivial⟩ ?_
      refine xe1 (os := [(true && w2.a == sv && w2.b == sb) = true → VO (vb true) ∧ VOH [] ∧ Con Tryd.prog (12 : Nat) [] [B8 e, B8 e] [] (vb true) ∧ (0 : Nat) = (0 : Nat) ∧ List.length e * (1 : Nat) = List.length (u8s e) ∧ (0 : Nat) = (0 : Nat) ∧ List.length e * (1 : Nat) = List.length (u8s e) ∧ True]) [(21, ⟨none, some ⟨vb true, [], [(210005, true), (770005, true)]⟩⟩)] [4] [] (by kernel_rfl) ⟨(by intro hc0; first | (cases hc0; done) | ((try simp only [Bool.or_false, Bool.false_or, Bool.true_and, Bool.and_true, decide_eq_true_eq, decide_eq_false_iff_not, Bool.and_eq_true, Bool.or_eq_true, Bool.or_eq_false_iff, Bool.not_eq_true', Bool.and_eq_false_iff, beq_iff_eq, bne_iff_ne, bne_eq_false_iff_eq, beq_eq_false_iff_ne, Bool.not_eq_false'] at hc0); exact ⟨(VO.val _), trivial, (c10 ), (by omega), (by (simp [len_u8s]; done)), (by omega), (by (simp [len_u8s]; done)), trivial⟩)), trivial⟩ ?_
      refine AWP.ret ?_
      refine ⟨Or.inr rfl, Eq.trans (b := some ([], vb (true && w2.a == sv && w2.b == sb && true))) (by kernel_rfl) ?_⟩
      first | rfl | (exfalso; simp [bl, wbS] at hq10; done) | (simp [hk2.1, hk2.2]; done)
    · have c6 := con_say p (by omega) w ds hq
      have c7 := con_rsay p (by omega) w ds hq
      have c8 := con_like_eq 9 w.a w.b 0 ds (by have := sayO_len hq; omega)
      refine Con.of (C := ⟨Tryd.prog, tc, Tryd.f3.ntmps⟩) [] tcok Tryd.func3 rfl rfl (by kernel_rfl) (by kernel_rfl) ?_
      refine AWP.seq ?_
      refine AWP.regionT tcok hmix [] [0, 3, 4] [3] (os := []) (s' := St.mk [(0, tp (V.val (Value.string s))), (3, tp (V.ptr 3 0)), (4, tp (vb false))] [(3, Blk.mk [u8 ac, u8 sv, u8 sb, u16 sr, B8 d] true 5 none)]) (by kernel_rfl) trivial ?_
      refine AWP.seq ?_
      refine xe1 (os := [Con Tryd.prog 4 [] [] [] (vb true)]) [(0, ⟨none, some ⟨vb true, [], []⟩⟩)] [0, 3, 4, 15] [3] (by kernel_rfl) ⟨(c1 ), trivial⟩ ?_
      refine AWP.condF (by kernel_rfl) ?_
      refine AWP.skip ?_
      refine xe1 (os := [Con Tryd.prog 5 [] [V.val (Value.string s), i64 60] [] (V.val (Value.string p))]) [(1, ⟨none, some ⟨strV p, [], []⟩⟩)] [0, 3, 4] [3] (by kernel_rfl) ⟨(c2 ), trivial⟩ ?_
      refine xe1 (os := [Con Tryd.prog 6 [] [B8 d, i64 20] [(5, Blk.mk (u8s e) true 0 (some (5, 1)))] (V.sl 5 0 (List.length e))]) [(2, ⟨none, some ⟨V.sl 5 0 (List.length e), [(5, Blk.mk (u8s e) true 0 (some (5, 1)))], []⟩⟩)] [0, 3, 4] [3, 210005] (by kernel_rfl) ⟨(c3 ), trivial⟩ ?_
      refine xe1 (os := [Con Tryd.prog 7 [] [V.val (Value.string p)] [(5, Blk.mk (u8s ds) true 0 (some (5, 1)))] (V.tup [V.agg false [u8 9, u8 w.a, u8 w.b, u16 0, V.sl 5 0 (List.length ds)], i64 0])]) [(1, ⟨none, some ⟨V.tup [V.agg false [u8 9, u8 w.a, u8 w.b, u16 0, V.sl 5 0 (List.length ds)], i64 0], [(5, Blk.mk (u8s ds) true 0 (some (5, 1)))], []⟩⟩)] [0, 3, 4, 5, 6] [3, 5, 210005, 250005] (by kernel_rfl) ⟨(c6 ), trivial⟩ ?_
      refine xe1 (os := [Con Tryd.prog 8 [] [V.val (Value.string p)] [(5, Blk.mk (u8s ds) true 0 (some (5, 1)))] (V.tup [V.agg false [u8 9, u8 w.a, u8 w.b, u16 0, V.sl 5 0 (List.length ds)], vb true])]) [(1, ⟨none, some ⟨V.tup [V.agg false [u8 9, u8 w.a, u8 w.b, u16 0, V.sl 5 0 (List.length ds)], vb true], [(5, Blk.mk (u8s ds) true 0 (some (5, 1)))], []⟩⟩)] [3, 4, 5, 6, 7, 8] [3, 5, 7, 210005, 250005, 300005] (by kernel_rfl) ⟨(c7 ), trivial⟩ ?_
      refine AWP.seq ?_
      refine xe1 (os := [false = false → VO (vb true) ∧ VOH [] ∧ Con Tryd.prog (9 : Nat) [] [V.agg true [u8 (9 : Int), u8 w.a, u8 w.b, u16 (0 : Int), B8 ds], V.agg true [u8 (9 : Int), u8 w.a, u8 w.b, u16 (0 : Int), B8 ds]] [] (vb true) ∧ (0 : Nat) = (0 : Nat) ∧ (0 : Nat) = (0 : Nat) ∧ True]) [(15, ⟨none, some ⟨vb true, [], [(300005, true), (250005, true)]⟩⟩)] [3, 4, 49] [3, 210005] (by kernel_rfl) ⟨(by intro hc0; first | (cases hc0; done) | ((try simp only [Bool.or_false, Bool.false_or, Bool.true_and, Bool.and_true, decide_eq_true_eq, decide_eq_false_iff_not, Bool.and_eq_true, Bool.or_eq_true, Bool.or_eq_false_iff, Bool.not_eq_true', Bool.and_eq_false_iff, beq_iff_eq, bne_iff_ne, bne_eq_false_iff_eq, beq_eq_false_iff_ne, Bool.not_eq_false'] at hc0); exact ⟨(VO.val _), trivial, (c8 ), (by omega), (by omega), trivial⟩)), trivial⟩ ?_
      refine AWP.condF (by kernel_rfl) ?_
      refine AWP.skip ?_
      refine xe1 (os := [VO (V.tup [V.val (Value.string S), vb true]), VOH [], Con Tryd.prog 10 [] [V.agg true [u8 ac, u8 sv, u8 sb, u16 sr, B8 e]] [] (V.tup [V.val (Value.string S), vb true]), (0 : Nat) = (0 : Nat)]) [(1, ⟨none, some ⟨V.tup [strV S, vb true], [], [(210005, true)]⟩⟩)] [3, 4, 9, 10] [3, 210005] (by kernel_rfl) ⟨(VO.tup (VOL.cons (VO.val _) (VOL.cons (VO.val _) VOL.nil))), trivial, (c4 ), (by omega), trivial⟩ ?_
      refine AWP.seq ?_
      refine AWP.regionT tcok hmix [(7, ⟨none, some ⟨strV S, [], [(210005, true)]⟩⟩)] [3, 4, 9, 10, 11] [3, 210005] (os := [VO (V.val (Value.string S)), VOH [], Con Tryd.prog 11 [] [V.agg true [u8 0, u8 sv, u8 sb, u16 0, B8 e]] [] (V.val (Value.string S)), (0 : Nat) = (0 : Nat)]) (s' := St.mk [(3, tp (V.ptr 3 0)), (4, tp (vb false)), (9, tp (V.val (Value.string S))), (10, tp (vb true)), (11, tp (V.val (Value.string S)))] [(3, Blk.mk [u8 ac, u8 sv, u8 sb, u16 sr, V.sl 210005 0 (List.length e)] false 5 none), (210005, Blk.mk (u8s e) true 0 (some (5, 1)))]) (by kernel_rfl) ⟨(VO.val _), trivial, (c5 ), (by omega), trivial⟩ ?_
      refine AWP.seq ?_
      refine xe0 [3, 4, 9, 10, 71] [3, 210005] (by kernel_rfl) ?_
      refine AWP.cond (b := bl false (true == !S.data.toList == (ByteArray.mk #[]).data.toList) || !S.data.toList == S.data.toList) (by kernel_rfl) (fun hq14 => ?_) (fun hq14 => ?_)
      · simp only [Bool.or_eq_true, Bool.not_eq_true', beq_eq_false_iff_ne] at hq14
        refine AWP.seq ?_
        refine AWP.regionT tcok hmix [] [3, 4, 9, 10] [3, 210005] (os := []) (s' := St.mk [(3, tp (V.ptr 3 0)), (4, tp (vb false)), (9, tp (V.val (Value.string S))), (10, tp (vb true))] [(3, Blk.mk [u8 ac, u8 sv, u8 sb, u16 sr, V.sl 210005 0 (List.length e)] false 5 none), (210005, Blk.mk (u8s e) true 0 (some (5, 1)))]) (by kernel_rfl) trivial ?_
        refine AWP.ret ?_
        refine ⟨Or.inr rfl, Eq.trans (b := some ([], vb false)) (by kernel_rfl) ?_⟩
        first | rfl | (exfalso; simp [bl, wbS] at hq14; done) | (simp [hk2.1, hk2.2]; done)
      simp only [Bool.or_eq_false_iff, beq_iff_eq, Bool.not_eq_false'] at hq14
      refine AWP.skip ?_
      refine AWP.seq ?_
      refine AWP.seq ?_
      refine AWP.regionT tcok hmix [] [3, 4, 9, 73] [3, 210005] (os := []) (s' := St.mk [(3, tp (V.ptr 3 0)), (4, tp (vb false)), (9, tp (V.val (Value.string S))), (73, tp (vb false))] [(3, Blk.mk [u8 ac, u8 sv, u8 sb, u16 sr, V.sl 210005 0 (List.length e)] false 5 none), (210005, Blk.mk (u8s e) true 0 (some (5, 1)))]) (by kernel_rfl) trivial ?_
      refine AWP.condF (by kernel_rfl) ?_
      refine AWP.skip ?_
      refine xe1 (os := [Con Tryd.prog 7 [] [V.val (Value.string S)] [(5, Blk.mk (u8s e) true 0 (some (5, 1)))] (V.tup [V.agg false [u8 9, u8 w2.a, u8 w2.b, u16 0, V.sl 5 0 (List.length e)], i64 0])]) [(1, ⟨none, some ⟨V.tup [V.agg false [u8 9, u8 w2.a, u8 w2.b, u16 0, V.sl 5 0 (List.length e)], i64 0], [(5, Blk.mk (u8s e) true 0 (some (5, 1)))], []⟩⟩)] [3, 4, 12, 13] [3, 12, 210005, 770005] (by kernel_rfl) ⟨(c9 ), trivial⟩ ?_
      refine xe1 (os := [(true && w2.a == sv && w2.b == sb) = true → VO (vb true) ∧ VOH [] ∧ Con Tryd.prog (12 : Nat) [] [B8 e, B8 e] [] (vb true) ∧ (0 : Nat) = (0 : Nat) ∧ List.length e * (1 : Nat) = List.length (u8s e) ∧ (0 : Nat) = (0 : Nat) ∧ List.length e * (1 : Nat) = List.length (u8s e) ∧ True]) [(21, ⟨none, some ⟨vb true, [], [(210005, true), (770005, true)]⟩⟩)] [4] [] (by kernel_rfl) ⟨(by intro hc0; first | (cases hc0; done) | ((try simp only [Bool.or_false, Bool.false_or, Bool.true_and, Bool.and_true, decide_eq_true_eq, decide_eq_false_iff_not, Bool.and_eq_true, Bool.or_eq_true, Bool.or_eq_false_iff, Bool.not_eq_true', Bool.and_eq_false_iff, beq_iff_eq, bne_iff_ne, bne_eq_false_iff_eq, beq_eq_false_iff_ne, Bool.not_eq_false'] at hc0); exact ⟨(VO.val _), trivial, (c10 ), (by omega), (by (simp [len_u8s]; done)), (by omega), (by (simp [len_u8s]; done)), trivial⟩)), trivial⟩ ?_
      refine AWP.ret ?_
      refine ⟨Or.inr rfl, Eq.trans (b := some ([], vb (true && w2.a == sv && w2.b == sb && true))) (by kernel_rfl) ?_⟩
      first | rfl | (exfalso; simp [bl, wbS] at hq14; done) | (simp [hk2.1, hk2.2]; done)
theorem cmd_of {x : V} (h : TyV tc 9 25 x) : ∃ (ac sv sb sr : Int) (d : List Int), x = cV ac sv sb sr d ∧ (0 ≤ ac ∧ ac < 256) ∧ (0 ≤ sv ∧ sv < 256) ∧ (0 ≤ sb ∧ sb < 256) ∧ (0 ≤ sr ∧ sr < 65536) ∧ BL d ∧ d.length ≤ 9223372036854775807 := by
  obtain ⟨xs, rfl, _, _, rfl, ⟨a, rfl, a1, a2⟩, _, _, rfl, ⟨b, rfl, b1, b2⟩, _, _, rfl, ⟨c, rfl, c1, c2⟩, _, _, rfl, ⟨e, rfl, e1, e2⟩, _, _, rfl, ⟨cs, n, rfl, hn, hr⟩, rfl⟩ := h
  obtain ⟨l, rfl, rfl, hl⟩ := bytes_rows (fun r hr => by obtain ⟨z, rfl, z1, z2⟩ := hr; exact ⟨z, rfl, z1, Int.lt_add_one_of_le z2⟩) hr
  exact ⟨a, b, c, e, l, rfl, ⟨a1, Int.lt_add_one_of_le a2⟩, ⟨b1, Int.lt_add_one_of_le b2⟩, ⟨c1, Int.lt_add_one_of_le c2⟩, ⟨e1, Int.lt_add_one_of_le e2⟩, hl, hn⟩
theorem law_GroundSays (x y : V) (hx : TyV tc 9 9 x) (hy : TyV tc 9 25 y) : Con Tryd.prog 3 [] [x, y] [] (vb true) := by
  obtain ⟨s, e1, hs⟩ := hx
  cases e1
  obtain ⟨ac, sv, sb, sr, d, rfl, h1, h2, h3, h4, h5, h6⟩ := cmd_of hy
  exact says s hs ac sv sb sr d h5 h6 h1 h2 h3 h4
end Go.Proofs.YtieoaeidlcdggaaDoor
