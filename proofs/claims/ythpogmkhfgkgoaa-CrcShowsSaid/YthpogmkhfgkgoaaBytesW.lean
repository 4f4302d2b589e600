/- The walks of bytes.Clone and of what all references use on lists of bytes. -/
import Derived.Test.YthpogmkhfgkgoaaBase
namespace Go.Proofs.Ythpogmkhfgkgoaa
open Go.RowKit

theorem bytesT : ElemTy Try.prog 22 5 1 1 := elemTy_mk (z := .int .u8 0) Try.underlying22 (by kernel_rfl) rfl (by omega)

/-- A call has handed back new bytes: xs. -/
def OwnB (w w' : World) (e : Ending) (xs : List UInt8) : Prop :=
  ∃ A n c, e = .returned (.slice A n c) ∧ w'.ownsRow w.heap.size 5 1 (.slice A n c) n (xs.map B8) ∧ Ext w w'

theorem OwnB.sl {w w' : World} {e : Ending} {xs : List UInt8} (h : OwnB w w' e xs) : ∃ A n c, e = .returned (.slice A n c) ∧ SlB w' A n c xs ∧ Ext w w' := by
  obtain ⟨A, n, c, he, ho, hb⟩ := h
  exact ⟨A, n, c, he, SlB.of_own ho, hb⟩

theorem OwnB.from {w W w' : World} {e : Ending} {xs : List UInt8} (h : OwnB W w' e xs) (hb : Ext w W) : OwnB w w' e xs := by
  obtain ⟨A, n, c, he, ho, hb'⟩ := h
  exact ⟨A, n, c, he, own_mono ho hb.size, hb.trans hb'⟩
theorem OwnB.of {w w' : World} {e : Ending} {xs ys : List UInt8} (h : OwnB w w' e xs) (hx : xs = ys) : OwnB w w' e ys := hx ▸ h

set_option maxRecDepth 100000 in
set_option maxHeartbeats 400000 in
theorem bytes_clone (w : World) (A : Option Addr) (n c : Nat) (xs : List UInt8) (h : SlB w A n c xs) (hn : n ≤ 140737488355328) :
    Calls Try.prog 20 #[.slice A n c] w fun e w' => OwnB w w' e xs := by
  obtain rfl := h.size
  rcases A with _ | ad
  · have hx : xs = [] := by
      have h1 := h.le
      have h2 := h.nil_ rfl
      exact List.eq_nil_of_length_eq_zero (by omega)
    subst hx
    have hc := h.nil_ rfl
    subst hc
    have heq := fun (w : World) => Lib.run_eql_slice_nil (P := Try.prog) w 22 5 none 0 0 0 0 Try.underlying22
    go_enter Try.func20, Try.ntmps20
    go_wp2_with fail
    go_ret
    exact ⟨none, 0, 0, rfl, World.ownsRow_nil _ _ _ _, Ext.refl _⟩
  · have heq := fun (w : World) => Lib.run_eql_slice_nil (P := Try.prog) w 22 5 (some ad) xs.length c 0 0 Try.underlying22
    go_enter Try.func20, Try.ntmps20
    go_wp2_with (at_builtin
                 refine wpList_app bytesT rfl (.tmp 5) (.tmp 6) rfl w.heap.size (.slice (some ⟨w.heap.size, 0, none⟩) 0 0) 0 [] rfl (World.ownsRow_lit w #[] 0 (Nat.le_refl _) (by decide) rfl) (some ad) xs.length c (xs.map B8) rfl (h.rd.alloc _) (by simp) (one_B8 _) (by omega) (by omega) (by simp) ?_
                 intro A' c' w' ho hg hat)
    go_ret
    simp only [Nat.zero_add, List.nil_append] at ho
    exact ⟨A', _, c', rfl, ho, ((Ext.refl _).alloc _).grown hg (fun k hk => by simp [Value.ownBlock] at hk; omega)⟩

/-! What all references use on lists of bytes. -/
set_option maxRecDepth 100000 in
set_option maxHeartbeats 400000 in
theorem r1_cut (w : World) (A : Option Addr) (n c : Nat) (xs : List UInt8) (m : Int) (h : SlB w A n c xs) (hm : 0 ≤ m ∧ m ≤ 1000000) :
    Calls Try.prog 8 #[.slice A n c, .int .i64 m] w fun e w' => OwnB w w' e (xs.take m.toNat) := by
  obtain ⟨m, rfl⟩ := Int.eq_ofNat_of_zero_le hm.1
  obtain rfl := h.size
  have hl := h.max
  go_enter Try.func8, Try.ntmps8
  go_wp2_with fail
  go_loopw [5, 10] (fun v i wr => ∃ k : Nat, ∃ A' c', k ≤ xs.length ∧ i = .int .i64 k ∧ v = .slice A' ((xs.take m).take k).length c' ∧
      wr.ownsRow w.heap.size 5 1 (.slice A' ((xs.take m).take k).length c') ((xs.take m).take k).length (((xs.take m).take k).map B8) ∧ Ext w wr) (fun _ i _ => xs.length - (intOf i).toNat)
  case atStart => exact ⟨0, none, 0, by omega, rfl, rfl, World.ownsRow_nil _ _ _ _, Ext.refl _⟩
  case round =>
    obtain ⟨k, A', c', hk, rfl, rfl, ho, hb⟩ := hrel
    by_cases hlt : k < xs.length
    · obtain ⟨b, o, rfl, hbs, hcell⟩ := (h.ext hb).get (k := k) (by simpa using hlt)
      simp only [List.getElem_map, B8] at hcell
      by_cases hkm : k < m
      · have e : (xs.take m).take (k + 1) = (xs.take m).take k ++ [xs[k]] := by
          rw [List.take_succ_eq_append_getElem (by simp; omega)]; simp
        have E := Lib.hid e
        clear e
        have hlen : ((xs.take m).take k).length ≤ m := by simp; omega
        generalize (xs.take m).take k = ys at *
        generalize xs[k] = x at *
        go_wp2_with (at_builtin
                     refine wpList_app bytesT rfl (.tmp 18) (.tmp 20) rfl w.heap.size (.slice A' ys.length c') ys.length (ys.map B8) rfl (ho.alloc _) _ 1 1 [B8 x] rfl (rd_one _ _ _) (by simp) (one_B8 [x]) (by omega) (by omega) (by have := hb.size; simp; omega) ?_
                     intro A2 c2 w2 ho2 hg2 hat2)
        go_roundw
        case rel =>
          refine ⟨k + 1, A2, c2, by omega, by go_num, ?_, ?_, ?_⟩
          · rw [E.out]; simp
          · rw [E.out]; simpa using ho2
          · exact (hb.alloc _).own (ho.alloc _) hg2 (Nat.le_refl _)
        case measure => simp [intOf]; omega
      · have e : (xs.take m).take (k + 1) = (xs.take m).take k := by
          rw [List.take_take, List.take_take]; congr 1; omega
        have E := Lib.hid e
        clear e
        generalize (xs.take m).take k = ys at *
        go_wp2_with fail
        go_roundw
        case rel =>
          exact ⟨k + 1, A', c', by omega, by go_num, by rw [E.out], by rw [E.out]; exact ho, hb⟩
        case measure => simp [intOf]; omega
    · have e : (xs.take m).take k = xs.take m := List.take_of_length_le (by simp; omega)
      rw [e] at ho ⊢
      go_wp2_with fail
      go_ret
      exact ⟨A', _, c', rfl, ho, hb⟩

/-- Are two lists of bytes alike? -/
def sameB (xs ys : List UInt8) : Bool := decide (xs = ys)
theorem sameB_true {xs ys : List UInt8} (h : xs = ys) : sameB xs ys = true := by simp [sameB, h]
theorem sameB_false {xs ys : List UInt8} (h : xs ≠ ys) : sameB xs ys = false := by simp [sameB, h]

set_option maxRecDepth 100000 in
set_option maxHeartbeats 400000 in
theorem r1_same (w : World) (A B : Option Addr) (n m c d : Nat) (xs ys : List UInt8) (h : SlB w A n c xs) (h' : SlB w B m d ys) :
    Calls Try.prog 16 #[.slice A n c, .slice B m d] w fun e w' => e = .returned (.bool (sameB xs ys)) ∧ ∃ n, w' = w.drewN n := by
  obtain rfl := h.size
  obtain rfl := h'.size
  have hl := h.max
  have hl' := h'.max
  by_cases hlen : xs.length = ys.length
  · have Hlen := Lib.hid hlen
    have hne : ((xs.length : Int) != (ys.length : Int)) = false := by rw [hlen]; simp
    have hle : xs.length ≤ ys.length := by omega
    have hle' : ys.length ≤ xs.length := by omega
    clear hlen
    go_enter Try.func16, Try.ntmps16
    go_wp2_with fail
    go_loopw [13] (fun i wr => ∃ k : Nat, k ≤ xs.length ∧ i = .int .i64 k ∧ xs.take k = ys.take k ∧ ∃ n, wr = w.drewN n) (fun i _ => xs.length - (intOf i).toNat)
    case atStart => exact ⟨0, by omega, rfl, rfl, 0, rfl⟩
    case round =>
      obtain ⟨k, hk, rfl, hpre, n, rfl⟩ := hrel
      have Hpre := Lib.hid hpre
      clear hpre
      by_cases hlt : k < xs.length
      · obtain ⟨b, o, rfl, hbs, hcell⟩ := h.get (k := k) (by simpa using hlt)
        obtain ⟨b', o', rfl, hbs', hcell'⟩ := h'.get (k := k) (by simp; omega)
        simp only [List.getElem_map, B8] at hcell hcell'
        have hlt' : k < ys.length := by omega
        by_cases hx : xs[k] = ys[k]
        · have hpre' : xs.take (k + 1) = ys.take (k + 1) := by
            rw [List.take_succ_eq_append_getElem hlt, List.take_succ_eq_append_getElem hlt', Hpre.out, hx]
          have Hpre' := Lib.hid hpre'
          have hb : (((xs[k].toNat : Nat) : Int) != ((ys[k].toNat : Nat) : Int)) = false := by simp [hx]
          clear hpre' hx
          go_wp2_with fail
          go_quiet (fail)
          go_wp2_with fail
          go_roundw
          case rel => exact ⟨k + 1, by omega, by go_num, Hpre'.out, n + nq, rfl⟩
          case measure => simp [intOf]; omega
        · have Hx := Lib.hid hx
          have hb : (((xs[k].toNat : Nat) : Int) != ((ys[k].toNat : Nat) : Int)) = true := by
            simp; intro e; exact hx (UInt8.toNat_inj.1 (by omega))
          clear hx
          go_wp2_with fail
          go_quiet (fail)
          go_wp2_with fail
          go_ret
          exact ⟨ret_bool (sameB_false (fun e => Hx.out (by subst e; rfl))).symm, n + nq, by rw [World.drewN_drewN]⟩
      · go_wp2_with fail
        go_ret
        have e : k = xs.length := by omega
        have e2 : xs = ys := by
          have := Hpre.out
          rw [e, List.take_of_length_le (Nat.le_refl _), List.take_of_length_le (by omega)] at this
          exact this
        exact ⟨ret_bool (sameB_true e2).symm, n, rfl⟩
  · have Hlen := Lib.hid hlen
    have hne : ((xs.length : Int) != (ys.length : Int)) = true := by simp; omega
    clear hlen
    go_enter Try.func16, Try.ntmps16
    go_wp2_with fail
    go_ret
    exact ⟨ret_bool (sameB_false (fun e => Hlen.out (by rw [e]))).symm, 0, rfl⟩

/-! Behind one another; a number's bytes; of bytes the number. -/
abbrev SV (p : Option Addr × Nat × List UInt8) : Value := .slice p.1 p.2.2.length p.2.1
def allOf (ps : List (Option Addr × Nat × List UInt8)) : List UInt8 := (ps.map (·.2.2)).flatten
theorem allOf_take (ps : List (Option Addr × Nat × List UInt8)) (k : Nat) (h : k < ps.length) : allOf (ps.take (k + 1)) = allOf (ps.take k) ++ ps[k].2.2 := by
  unfold allOf
  rw [List.take_succ_eq_append_getElem h, List.map_append, List.flatten_append]
  simp
theorem allOf_le (ps : List (Option Addr × Nat × List UInt8)) (k : Nat) : (allOf (ps.take k)).length ≤ (allOf ps).length := by
  have : allOf ps = allOf (ps.take k) ++ allOf (ps.drop k) := by
    unfold allOf
    rw [← List.flatten_append, ← List.map_append, List.take_append_drop]
  rw [this]
  simp

set_option maxRecDepth 100000 in
set_option maxHeartbeats 400000 in
theorem r1_join (w : World) (A : Option Addr) (n c : Nat) (ps : List (Option Addr × Nat × List UInt8)) (h : Sl w A n c (ps.map SV)) (hp : ∀ p ∈ ps, SlB w p.1 p.2.2.length p.2.1 p.2.2) (hn : (allOf ps).length ≤ 140737488355328) :
    Calls Try.prog 14 #[.slice A n c] w fun e w' => OwnB w w' e (allOf ps) := by
  obtain rfl : ps.length = n := by simpa using h.len
  have hl := h.max
  go_enter Try.func14, Try.ntmps14
  go_wp2_with fail
  go_loopw [3, 8] (fun v i wr => ∃ k : Nat, ∃ A' c', k ≤ ps.length ∧ i = .int .i64 k ∧ v = .slice A' (allOf (ps.take k)).length c' ∧
      wr.ownsRow w.heap.size 5 1 (.slice A' (allOf (ps.take k)).length c') (allOf (ps.take k)).length ((allOf (ps.take k)).map B8) ∧ Ext w wr) (fun _ i _ => ps.length - (intOf i).toNat)
  case atStart => exact ⟨0, none, 0, by omega, rfl, rfl, World.ownsRow_nil _ _ _ _, Ext.refl _⟩
  case round =>
    obtain ⟨k, A', c', hk, rfl, rfl, ho, hb⟩ := hrel
    by_cases hlt : k < ps.length
    · obtain ⟨b, o, rfl, hbs, hcell⟩ := (h.ext hb).get (k := k) (by simpa using hlt)
      have hq := (hp ps[k] (List.getElem_mem _)).ext hb
      have hsum := allOf_le ps (k + 1)
      rw [allOf_take _ _ hlt] at hsum
      have E := Lib.hid (allOf_take ps k hlt)
      simp only [List.getElem_map] at hcell
      generalize ps[k] = q at *
      obtain ⟨qa, qc, xs⟩ := q
      simp only [SV] at hq hcell hsum E
      simp only [List.length_append] at hsum
      generalize allOf (ps.take k) = ys at *
      go_wp2_with (at_builtin
                   refine wpList_app bytesT rfl (.tmp 12) (.tmp 13) rfl w.heap.size (.slice A' ys.length c') ys.length (ys.map B8) rfl ho _ xs.length qc (xs.map B8) rfl hq.rd (by simp) (one_B8 xs) (by omega) (by omega) hb.size ?_
                   intro A2 c2 w2 ho2 hg2 hat2)
      go_roundw
      case rel =>
        refine ⟨k + 1, A2, c2, by omega, by go_num, ?_, ?_, ?_⟩
        · rw [E.out]; simp
        · rw [E.out]; simpa using ho2
        · exact hb.own ho hg2 (Nat.le_refl _)
      case measure => simp [intOf]; omega
    · have e : ps.take k = ps := List.take_of_length_le (by omega)
      rw [e] at ho ⊢
      go_wp2_with fail
      go_ret
      exact ⟨A', _, c', rfl, ho, hb⟩

/-- The same of one part, of two, said of the cells where the parts lie. -/
theorem r1_join_one (w : World) (g : Nat) (A : Option Addr) (n c : Nat) (p : List UInt8) (hc : w.cell? ⟨g, 0, none⟩ = some (.slice A n c)) (hp : SlB w A n c p) (hn : n ≤ 1000000) :
    Calls Try.prog 14 #[.slice (some ⟨g, 0, none⟩) 1 1] w fun e w' => OwnB w w' e p := by
  obtain rfl := hp.size
  have := r1_join w (some ⟨g, 0, none⟩) 1 1 [(A, c, p)] ⟨rfl, by omega, by omega, (fun e => by cases e), fun _ => ⟨g, 0, rfl, World.block_lt_of_cell? w _ hc, fun j u hj => by
    have : j = 0 := by have := (List.getElem?_eq_some_iff.1 hj).1; simp at this; omega
    subst this
    simp at hj
    subst hj
    exact hc⟩⟩ (by intro q hq; simp at hq; subst hq; exact hp) (by simp [allOf]; omega)
  simpa [allOf] using this
theorem r1_join_two (w : World) (g : Nat) (A B : Option Addr) (n c m d : Nat) (p q : List UInt8) (hc : w.cell? ⟨g, 0, none⟩ = some (.slice A n c)) (hd : w.cell? ⟨g, 1, none⟩ = some (.slice B m d)) (hp : SlB w A n c p) (hq : SlB w B m d q) (hn : n + m ≤ 1000000) :
    Calls Try.prog 14 #[.slice (some ⟨g, 0, none⟩) 2 2] w fun e w' => OwnB w w' e (p ++ q) := by
  obtain rfl := hp.size
  obtain rfl := hq.size
  have := r1_join w (some ⟨g, 0, none⟩) 2 2 [(A, c, p), (B, d, q)] ⟨rfl, by omega, by omega, (fun e => by cases e), fun _ => ⟨g, 0, rfl, World.block_lt_of_cell? w _ hc, fun j u hj => by
    have : j = 0 ∨ j = 1 := by have := (List.getElem?_eq_some_iff.1 hj).1; simp at this; omega
    rcases this with rfl | rfl
    · simp at hj
      subst hj
      exact hc
    · simp at hj
      subst hj
      exact hd⟩⟩ (by intro x hx; simp at hx; rcases hx with rfl | rfl; exact hp; exact hq) (by simp [allOf]; omega)
  simpa [allOf] using this

/-- Of bytes the number, the highest first. -/
def valOf (l : List UInt8) : Nat := l.foldl (fun n b => 256 * n + b.toNat) 0
theorem valOf_snoc (l : List UInt8) (b : UInt8) : valOf (l ++ [b]) = 256 * valOf l + b.toNat := by simp [valOf]
theorem foldl_val_lt (l : List UInt8) (n : Nat) : l.foldl (fun n b => 256 * n + b.toNat) n < (n + 1) * 256 ^ l.length := by
  induction l generalizing n with
  | nil => simp
  | cons b l ih =>
    have := ih (256 * n + b.toNat)
    have hb := b.toNat_lt
    simp only [List.foldl_cons, List.length_cons]
    refine Nat.lt_of_lt_of_le this ?_
    rw [Nat.pow_succ, Nat.mul_comm (256 ^ l.length) 256, ← Nat.mul_assoc]
    exact Nat.mul_le_mul_right _ (by omega)
theorem valOf_lt (l : List UInt8) : valOf l < 256 ^ l.length := by
  have := foldl_val_lt l 0
  simpa [valOf] using this
theorem valOf_lt7 (l : List UInt8) (h : l.length ≤ 7) : valOf l < 72057594037927936 :=
  Nat.lt_of_lt_of_le (valOf_lt l) (by
    have : 256 ^ l.length ≤ 256 ^ 7 := Nat.pow_le_pow_right (by omega) h
    simpa using this)

set_option maxRecDepth 100000 in
set_option maxHeartbeats 400000 in
theorem r1_value (w : World) (A : Option Addr) (n c : Nat) (xs : List UInt8) (h : SlB w A n c xs) (h7 : n ≤ 7) :
    Calls Try.prog 21 #[.slice A n c] w fun e w' => e = .returned (.int .u64 (valOf xs : Nat)) ∧ w = w' := by
  obtain rfl := h.size
  go_enter Try.func21, Try.ntmps21
  go_wp2_with fail
  go_loop [3, 8] (fun n i => ∃ k : Nat, k ≤ xs.length ∧ i = .int .i64 k ∧ n = .int .u64 (valOf (xs.take k) : Nat)) (fun _ i => xs.length - (intOf i).toNat)
  case atStart => exact ⟨0, by omega, rfl, rfl⟩
  case round =>
    obtain ⟨k, hk, rfl, rfl⟩ := hrel
    by_cases hlt : k < xs.length
    · obtain ⟨b, o, rfl, hbs, hcell⟩ := h.get (k := k) (by simpa using hlt)
      simp only [List.getElem_map, B8] at hcell
      have hv := valOf_lt7 (xs.take k) (by simp; omega)
      have E := Lib.hid (show valOf (xs.take (k + 1)) = 256 * valOf (xs.take k) + xs[k].toNat by rw [List.take_succ_eq_append_getElem hlt, valOf_snoc])
      have hx := xs[k].toNat_lt
      generalize valOf (xs.take k) = n at *
      generalize xs[k].toNat = x at *
      go_wp2_with fail
      go_round
      case rel => exact ⟨k + 1, by omega, by go_num, by rw [E.out]; simp⟩
      case measure => simp [intOf]; omega
    · go_wp2_with fail
      go_ret
      exact ⟨by rw [List.take_of_length_le (by omega)]; rfl, rfl⟩

/-- A number's lowest bytes, the highest first. -/
def lowB (n : Nat) : Nat → List UInt8
  | 0 => []
  | t + 1 => UInt8.ofNat (n / 256 ^ t % 256) :: lowB n t
theorem lowB_length (n t : Nat) : (lowB n t).length = t := by
  induction t with
  | zero => rfl
  | succ t ih => simp [lowB, ih]
theorem rep_set (z x : Value) (k : Nat) (l : List Value) : (List.replicate (k + 1) z ++ l).set k x = List.replicate k z ++ x :: l := by
  rw [List.replicate_succ', List.append_assoc, List.set_append]
  simp

set_option maxRecDepth 100000 in
set_option maxHeartbeats 400000 in
theorem r1_num (w : World) (n m : Int) (hn : 0 ≤ n ∧ n < 1099511627776) (hm : 0 ≤ m ∧ m ≤ 1000) :
    Calls Try.prog 22 #[.int .u64 n, .int .i64 m] w fun e w' => OwnB w w' e (lowB n.toNat m.toNat) := by
  obtain ⟨n, rfl⟩ := Int.eq_ofNat_of_zero_le hn.1
  obtain ⟨m, rfl⟩ := Int.eq_ofNat_of_zero_le hm.1
  simp only [Int.toNat_natCast]
  obtain ⟨i, z, hi, hz, hs, hby, hzs⟩ := bytesT.info
  have hz' : z = .int .u8 0 := by
    have := (show (Try.prog.info? 5).map (·.zero) = some (some (.int .u8 0)) by kernel_rfl)
    rw [hi] at this
    simp [hz] at this
    exact this
  subst hz'
  go_enter Try.func22, Try.ntmps22
  go_wp2_with (at_make
               refine wpList_make_full w rfl (.tmp 7) (.tmp 7) 22 rfl w.heap.size 5 i _ 1 Try.underlying22 hi hz hs .i64 .i64 (m : Int) (m : Int) m rfl rfl rfl rfl (by rw [hby]; omega) (by unfold maxLen; omega) (Nat.le_refl _) ?_
               intro w1 ho1 hg1)
  simp only [Value.cells, toList_madeCells_one, Nat.mul_one] at ho1
  have hb1 : Ext w w1 := (Ext.refl _).grown hg1 (by simp)
  go_loopw [0, 6] (fun x j wr => ∃ t : Nat, t ≤ m ∧ j = .int .i64 ((m : Int) - 1 - t) ∧ x = .int .u64 (n / 256 ^ t : Nat) ∧
      wr.ownsRow w.heap.size 5 1 (.slice (some ⟨w.heap.size, 0, Option.none⟩) m m) m (List.replicate (m - t) (.int .u8 0) ++ (lowB n t).map B8) ∧ Ext w wr) (fun _ j _ => (intOf j + 1).toNat)
  case atStart => exact ⟨0, by omega, by simp, by simp, by simpa [lowB] using ho1, hb1⟩
  case round =>
    obtain ⟨t, ht, rfl, rfl, ho, hb⟩ := hrel
    by_cases hlt : t < m
    · have hcell : wr.cell? ⟨w.heap.size, m - 1 - t, Option.none⟩ = some (.int .u8 0) := by
        rw [ho.cellAt _ (by omega), show m - t = (m - 1 - t) + 1 by omega, List.getElem?_append_left (by simp)]
        simp
      have hfr : wr.frozen? ⟨w.heap.size, m - 1 - t, Option.none⟩ = false := ho.frozenAt _
      have hx : n / 256 ^ t < 1099511627776 := Nat.lt_of_le_of_lt (Nat.div_le_self _ _) (by omega)
      have E := Lib.hid (show n / 256 ^ (t + 1) = n / 256 ^ t / 256 by rw [Nat.pow_succ, Nat.div_div_eq_div_mul])
      have L := Lib.hid (show lowB n (t + 1) = UInt8.ofNat (n / 256 ^ t % 256) :: lowB n t from rfl)
      generalize n / 256 ^ t = x at *
      go_wp2_with fail
      go_roundw
      case rel =>
        refine ⟨t + 1, by omega, by congr 1; omega, by rw [E.out]; rfl, ?_, hb.setCell (Nat.le_refl _) _⟩
        have h1 := (ho.stored (m - 1 - t) (.int .u8 ((x : Int) % 256))).1
        rw [show m - t = (m - 1 - t) + 1 by omega, rep_set] at h1
        rw [L.out, show m - (t + 1) = m - 1 - t by omega]
        rw [List.map_cons, show B8 (UInt8.ofNat (x % 256)) = .int .u8 ((x : Int) % 256) by simp [B8]]
        exact h1
      case measure => simp [intOf]; omega
    · have e : t = m := by omega
      subst e
      rw [Nat.sub_self] at ho
      go_wp2_with fail
      go_ret
      exact ⟨some ⟨w.heap.size, 0, Option.none⟩, t, t, rfl, by simpa using ho, hb⟩
end Go.Proofs.Ythpogmkhfgkgoaa
