/- The walks of package crc: texts with their sum. -/
import Derived.Test.YthpogmkhfgkgoaaCrcW
namespace Go.Proofs.Ythpogmkhfgkgoaa
open Go.RowKit

/-! The sum of one part, of two, of none, said of the cells where the parts lie. -/
theorem crc_sum_one (w : World) (g : Nat) (A : Option Addr) (n c : Nat) (p : List UInt8) (hc : w.cell? ⟨g, 0, none⟩ = some (.slice A n c)) (hp : SlB w A n c p) :
    Calls Try.prog 12 #[.agg tabV, .slice (some ⟨g, 0, none⟩) 1 1] w fun e w' => e = .returned (.int .u16 (Crc.sum p : Nat)) ∧ Ext w w' := by
  obtain rfl := hp.size
  have := crc_sum w (some ⟨g, 0, none⟩) 1 1 [(A, c, p)] ⟨rfl, by omega, by omega, (fun e => by cases e), fun _ => ⟨g, 0, rfl, World.block_lt_of_cell? w _ hc, fun j u hj => by
    have : j = 0 := by have := (List.getElem?_eq_some_iff.1 hj).1; simp at this; omega
    subst this
    simp at hj
    subst hj
    exact hc⟩⟩ (by intro q hq; simp at hq; subst hq; exact hp)
  simpa [allOf] using this
theorem crc_sum_two (w : World) (g : Nat) (A B : Option Addr) (n c m d : Nat) (p q : List UInt8) (hc : w.cell? ⟨g, 0, none⟩ = some (.slice A n c)) (hd : w.cell? ⟨g, 1, none⟩ = some (.slice B m d)) (hp : SlB w A n c p) (hq : SlB w B m d q) :
    Calls Try.prog 12 #[.agg tabV, .slice (some ⟨g, 0, none⟩) 2 2] w fun e w' => e = .returned (.int .u16 (Crc.sum (p ++ q) : Nat)) ∧ Ext w w' := by
  obtain rfl := hp.size
  obtain rfl := hq.size
  have := crc_sum w (some ⟨g, 0, none⟩) 2 2 [(A, c, p), (B, d, q)] ⟨rfl, by omega, by omega, (fun e => by cases e), fun _ => ⟨g, 0, rfl, World.block_lt_of_cell? w _ hc, fun j u hj => by
    have : j = 0 ∨ j = 1 := by have := (List.getElem?_eq_some_iff.1 hj).1; simp at this; omega
    rcases this with rfl | rfl
    · simp at hj
      subst hj
      exact hc
    · simp at hj
      subst hj
      exact hd⟩⟩ (by intro x hx; simp at hx; rcases hx with rfl | rfl; exact hp; exact hq)
  simpa [allOf] using this
theorem crc_sum_nil (w : World) : Calls Try.prog 12 #[.agg tabV, .slice none 0 0] w fun e w' => e = .returned (.int .u16 65535) ∧ Ext w w' :=
  crc_sum w none 0 0 [] (Sl.nil w) (by simp)

/-- Is it its sum? -/
def Crc.rightB (xs : List UInt8) : Bool := decide (2 ≤ xs.length ∧ valOf (xs.drop (xs.length - 2)) = Crc.sum (xs.take (xs.length - 2)))

set_option maxRecDepth 100000 in
set_option maxHeartbeats 800000 in
theorem ref5_right (w : World) (A : Option Addr) (n c : Nat) (xs : List UInt8) (h : SlB w A n c xs) :
    Calls Try.prog 18 #[.slice A n c] w fun e w' => e = .returned (.bool (Crc.rightB xs)) ∧ ∃ n, w' = w.drewN n := by
  obtain rfl := h.size
  have hl := h.max
  by_cases h2 : 2 ≤ xs.length
  · have hle := h.le
    have hcap := h.cap
    have hd : decide ((2 : Int) ≤ xs.length) = true := by simp; omega
    have h0 : (2 : Int) ≤ xs.length := by omega
    have hs := Crc.sum_lt (xs.take (xs.length - 2))
    go_enter Try.func18, Try.ntmps18
    go_wp2_with fail
    go_quiet (first
      | (go_at_call 21; exact quiet_same (r1_value _ _ _ _ (xs.drop (xs.length - 2)) ((h.drop' (xs.length - 2) (by omega) (by omega)).drewN _) (by omega)))
      | (go_at_call 11; exact quiet_same (ref5_sum _ _ _ _ (xs.take (xs.length - 2)) ((h.take (xs.length - 2) (by omega)).drewN _))))
    go_wp2_with fail
    go_ret
    refine ⟨ret_bool ?_, nq, rfl⟩
    rw [Crc.rightB, Bool.eq_iff_iff]
    simp [h2]
    omega
  · have hd : decide ((2 : Int) ≤ xs.length) = false := by simp; omega
    have H := Lib.hid h2
    go_enter Try.func18, Try.ntmps18
    go_wp2_with fail
    go_quiet (fail)
    go_wp2_with fail
    go_ret
    exact ⟨ret_bool (by simp [Crc.rightB, H.out]), nq, rfl⟩

/-- A text with its sum. -/
def Crc.withSum (xs : List UInt8) : List UInt8 := xs ++ [UInt8.ofNat (Crc.sum xs / 256), UInt8.ofNat (Crc.sum xs % 256)]
theorem Crc.withSum_length (xs : List UInt8) : (Crc.withSum xs).length = xs.length + 2 := by simp [Crc.withSum]
theorem low2 (n : Nat) (h : n < 65536) : lowB n 2 = [UInt8.ofNat (n / 256), UInt8.ofNat (n % 256)] := by
  simp [lowB, Nat.mod_eq_of_lt (show n / 256 < 256 by omega)]

set_option maxRecDepth 100000 in
set_option maxHeartbeats 800000 in
theorem ref5_append (w : World) (A : Option Addr) (n c : Nat) (xs : List UInt8) (h : SlB w A n c xs) (hn : n ≤ 1000000) :
    Calls Try.prog 19 #[.slice A n c] w fun e w' => OwnB w w' e (Crc.withSum xs) := by
  obtain rfl := h.size
  have hs := Crc.sum_lt xs
  have hl := h.max
  go_enter Try.func19, Try.ntmps19
  go_wp2_with fail
  refine (ref5_sum _ _ _ _ xs h).mono ?_
  rintro e w' ⟨rfl, rfl⟩
  go_wp2_with fail
  refine (r1_num _ _ _ (by omega) (by omega)).mono ?_
  rintro e w1 hc
  obtain ⟨A1, n1, c1, rfl, h1, hb1⟩ := hc.sl
  simp only [Int.toNat_natCast, low2 _ hs, Int.reduceToNat] at h1
  obtain rfl := h1.size
  go_wp2_with fail
  have hq : allOf [(A, c, xs), (A1, c1, [UInt8.ofNat (Crc.sum xs / 256), UInt8.ofNat (Crc.sum xs % 256)])] = Crc.withSum xs := by simp [allOf, Crc.withSum]
  refine (r1_join _ _ 2 2 [(A, c, xs), (A1, c1, [UInt8.ofNat (Crc.sum xs / 256), UInt8.ofNat (Crc.sum xs % 256)])] (sl_lit _ _ _ 2 2 rfl rfl (by omega)) ?_ ?_).mono ?_
  · intro p hp
    simp only [List.mem_cons, List.not_mem_nil, or_false] at hp
    rcases hp with rfl | rfl
    · exact (h.ext hb1).alloc _
    · exact h1.alloc _
  · rw [hq, Crc.withSum_length]; omega
  rintro e w2 hc2
  obtain ⟨A2, n2, c2, rfl, ho2, hb2⟩ := (hc2.from ((hb1.alloc _))).of hq
  go_wp2_with fail
  go_ret
  exact ⟨A2, n2, c2, rfl, ho2, hb2⟩

set_option maxRecDepth 100000 in
set_option maxHeartbeats 800000 in
theorem crc_append (w : World) (A : Option Addr) (n c : Nat) (xs : List UInt8) (h : SlB w A n c xs) (hn : n ≤ 1000000) :
    Calls Try.prog 13 #[.agg tabV, .slice A n c] w fun e w' => OwnB w w' e (Crc.withSum xs) := by
  obtain rfl := h.size
  have hs := Crc.sum_lt xs
  have hl := h.max
  go_enter Try.func13, Try.ntmps13
  go_wp2_with (refine wpList_load_row rfl 27 _ rfl w.heap.size rfl 27 tabV (0, 0) _ (by exact heap_alloc_new _ _) Try.underlying27 rfl (tab_size 256) ?_)
  have hq : allOf [(A, c, xs)] = xs := by simp [allOf]
  refine (crc_sum _ _ 1 1 [(A, c, xs)] (by have := sl_lit (w.alloc (.cells tabV 27)) [SV (A, c, xs)] 22 1 1 rfl rfl (by omega); simpa using this) ?_).mono ?_
  · intro p hp
    simp only [List.mem_cons, List.not_mem_nil, or_false] at hp
    subst hp
    exact (h.alloc _).alloc _
  rw [hq]
  rintro e w1 ⟨rfl, hb1⟩
  have hbw : Ext w w1 := (((Ext.refl _).alloc _).alloc _).trans hb1
  go_wp2_with fail
  refine (bytes_clone _ _ _ _ xs (h.ext hbw) (by omega)).mono ?_
  rintro e w2 hc2
  obtain ⟨A2, n2, c2, rfl, ho2, hb2⟩ := hc2
  obtain rfl := (SlB.of_own ho2).size
  have hsz := hb2.size
  go_wp2_with (at_builtin
               refine wpList_app bytesT rfl (.tmp 11) (.tmp 17) rfl w1.heap.size (.slice A2 xs.length c2) xs.length (xs.map B8) rfl (ho2.alloc _) (some ⟨w2.heap.size, 0, Option.none⟩) 2 2 [.int .u8 ((Crc.sum xs : Int) / 256), .int .u8 ((Crc.sum xs : Int) % 256)] rfl (rd_lit _ _ _) rfl (by simp [Value.oneCell']) (by omega) (by omega) (by simp; omega) ?_
               intro A3 c3 w3 ho3 hg3 hat3)
  go_ret
  have e : xs.map B8 ++ [.int .u8 ((Crc.sum xs : Int) / 256), .int .u8 ((Crc.sum xs : Int) % 256)] = (Crc.withSum xs).map B8 := by
    simp [Crc.withSum, B8]
    omega
  rw [e] at ho3
  have hbw2 : Ext w w2 := hbw.trans hb2
  refine ⟨A3, _, c3, rfl, own_mono ho3 hbw.size, ?_⟩
  exact (hbw2.alloc _).own (ho2.alloc _) hg3 hbw.size

theorem u16_join (a b : Nat) (ha : a < 256) (hb : b < 256) : bits .or .u16 (IntKind.u16.wrap (IntKind.u16.wrap (a : Int) * 256)) (IntKind.u16.wrap (b : Int)) = (a : Int) * 256 + b := by
  have e1 : IntKind.u16.wrap (IntKind.u16.wrap (a : Int) * 256) = ((a * 256 : Nat) : Int) := by simp only [IntKind.wrap_u16]; omega
  have e2 : IntKind.u16.wrap (b : Int) = (b : Int) := by simp only [IntKind.wrap_u16]; omega
  rw [e1, e2, u16_or _ _ (by omega) (by omega) (by omega) (by omega)]
  simp only [Int.toNat_natCast]
  have := Nat.two_pow_add_eq_or_of_lt (i := 8) (b := b) hb a
  have e3 : a * 256 ||| b = a * 256 + b := by rw [Nat.mul_comm]; exact this.symm
  rw [e3]
  omega
theorem tab_list : (Try.prog.info? 27).map (·.size) = some tabV.toList.length := by rw [Array.length_toList]; exact tab_size 256
theorem tab_len : tabV.toList.length = 256 := by rw [Array.length_toList]; exact tabTo_size 256

set_option maxRecDepth 100000 in
set_option maxHeartbeats 1600000 in
theorem crc_right_core (w : World) (b o k c : Nat) (x1 x2 : UInt8) (ys : List UInt8) (h : SlB w (some ⟨b, o, none⟩) k c ys) (hc : k + 2 ≤ c)
    (hc1 : w.cell? ⟨b, o + k, none⟩ = some (.int .u8 x1.toNat)) (hc2 : w.cell? ⟨b, o + (k + 1), none⟩ = some (.int .u8 x2.toNat)) :
    Calls Try.prog 15 #[.agg tabV, .slice (some ⟨b, o, none⟩) (k + 2) c] w fun e w' => e = .returned (.bool (decide (Crc.sum ys = x1.toNat * 256 + x2.toNat))) ∧ Ext w w' := by
  obtain rfl := h.size
  have hcap := h.cap
  have hs := Crc.sum_lt ys
  have hx1 := x1.toNat_lt
  have hx2 := x2.toNat_lt
  generalize x1.toNat = x1 at *
  generalize x2.toNat = x2 at *
  have hu := Try.underlying27
  have hti := tab_list
  have htl := tab_len
  have he0 := (Ext.refl w).alloc (.cells tabV 27)
  have mk : ∀ w', Ext (w.alloc (.cells tabV 27)) w' → w'.rangeAt w.heap.size 0 tabV.toList ∧ w'.cell? ⟨b, o + ys.length, none⟩ = some (.int .u8 x1) ∧ w'.cell? ⟨b, o + (ys.length + 1), none⟩ = some (.int .u8 x2) := fun w' hw => by
    have he := he0.trans hw
    refine ⟨hw.range fun j v hj => ?_, he.cell_some hc1, he.cell_some hc2⟩
    rw [Nat.zero_add, World.cell?_alloc_new]
    simpa using hj
  have hq : allOf [((some ⟨b, o, none⟩ : Option Addr), c, ys)] = ys := by simp [allOf]
  have hp1 : Sl ((w.alloc (.cells tabV 27)).alloc (.cells #[.slice (some ⟨b, o, none⟩) ys.length c] 22)).drew (some ⟨w.heap.size + 1, 0, none⟩) 1 1 ([((some ⟨b, o, none⟩ : Option Addr), c, ys)].map SV) := by
    have := sl_lit (w.alloc (.cells tabV 27)) [SV (some ⟨b, o, none⟩, c, ys)] 22 1 1 rfl rfl (by omega)
    simp at this
    exact this.drew
  have hp2 : ∀ p ∈ [((some ⟨b, o, none⟩ : Option Addr), c, ys)], SlB ((w.alloc (.cells tabV 27)).alloc (.cells #[.slice (some ⟨b, o, none⟩) ys.length c] 22)).drew p.1 p.2.2.length p.2.1 p.2.2 := by
    intro p hp
    simp only [List.mem_cons, List.not_mem_nil, or_false] at hp
    subst hp
    exact h.ext (he0.alloc _).drew
  have b1 : (0 : Int) ≤ (ys.length : Int) := by omega
  have b2 : (ys.length : Int) ≤ (c : Int) := by omega
  have b3 : (ys.length : Int) < (ys.length : Int) + 2 := by omega
  have b4 : (ys.length : Int) + 1 < (ys.length : Int) + 2 := by omega
  have b5 : (0 : Int) ≤ (ys.length : Int) + 1 := by omega
  have b6 : ((ys.length : Int) + 1).toNat = ys.length + 1 := by omega
  have b7 : IntKind.i64.wrap ((ys.length : Int) + 1) = (ys.length : Int) + 1 := IntWalk.i64_in _ (by omega)
  have b8 : decide ((0 : Int) ≤ (ys.length : Int)) = true := by simp
  go_enter Try.func15, Try.ntmps15
  go_wp2_with fail
  go_region_held3 (fun w' => w'.rangeAt w.heap.size 0 tabV.toList ∧ w'.cell? ⟨b, o + ys.length, none⟩ = some (.int .u8 x1) ∧ w'.cell? ⟨b, o + (ys.length + 1), none⟩ = some (.int .u8 x2))
    ((exact mk _ (by repeat (first | exact Ext.refl _ | assumption | apply Ext.drew | apply Ext.alloc | refine Ext.trans ?_ (by assumption)))))
    (first | (go_at_call 12; refine (crc_sum _ _ 1 1 [(some ⟨b, o, none⟩, c, ys)] hp1 hp2).mono ?_; rw [hq]; rintro e w1 ⟨rfl, hb1⟩))
  go_wp2_with fail
  go_ret
  refine ⟨ret_bool ?_, ?_⟩
  · rw [u16_join _ _ hx1 hx2, Bool.eq_iff_iff]
    simp
    omega
  · exact ((he0.alloc _).drew).trans hb1

theorem split_last2 (xs : List UInt8) (h : 2 ≤ xs.length) : xs = xs.take (xs.length - 2) ++ [xs[xs.length - 2], xs[xs.length - 1]] := by
  apply List.ext_getElem
  · simp; omega
  · intro i h1 h2
    rw [List.getElem_append]
    simp only [List.length_take]
    split
    · simp
    · by_cases e : i = xs.length - 2
      · subst e
        simp
      · have e2 : i = xs.length - 1 := by omega
        subst e2
        simp [show xs.length - 1 - (xs.length - 2) = 1 by omega]
theorem rightB_last (xs : List UInt8) (h : 2 ≤ xs.length) : Crc.rightB xs = decide (Crc.sum (xs.take (xs.length - 2)) = xs[xs.length - 2].toNat * 256 + xs[xs.length - 1].toNat) := by
  have e : xs.drop (xs.length - 2) = [xs[xs.length - 2], xs[xs.length - 1]] := by
    conv => lhs; rw [split_last2 xs h]
    rw [List.drop_left' (by simp)]
  rw [Crc.rightB, e, Bool.eq_iff_iff]
  simp [valOf, h]
  omega

theorem crc_right (w : World) (A : Option Addr) (n c : Nat) (xs : List UInt8) (h : SlB w A n c xs) :
    Calls Try.prog 15 #[.agg tabV, .slice A n c] w fun e w' => e = .returned (.bool (Crc.rightB xs)) ∧ Ext w w' := by
  obtain rfl := h.size
  have hl := h.max
  have hle := h.le
  by_cases h2 : 2 ≤ xs.length
  · obtain ⟨b, o, rfl, hbs, hc1⟩ := h.get (k := xs.length - 2) (by simp; omega)
    obtain ⟨b', o', e, hbs', hc2⟩ := h.get (k := xs.length - 1) (by simp; omega)
    cases e
    simp only [List.getElem_map, B8] at hc1 hc2
    rw [rightB_last xs h2]
    have := crc_right_core w b o (xs.length - 2) c xs[xs.length - 2] xs[xs.length - 1] (xs.take (xs.length - 2)) (h.take _ (by omega)) (by omega) hc1 (by rw [show xs.length - 2 + 1 = xs.length - 1 by omega]; exact hc2)
    rwa [show xs.length - 2 + 2 = xs.length by omega] at this
  · have hd : decide ((2 : Int) ≤ xs.length) = false := by simp; omega
    have H := Lib.hid h2
    go_enter Try.func15, Try.ntmps15
    go_wp2_with fail
    go_quiet (fail)
    go_wp2_with fail
    go_ret
    exact ⟨ret_bool (by simp [Crc.rightB, H.out]), ((Ext.refl _).alloc _).drewN _⟩

set_option maxRecDepth 100000 in
set_option maxHeartbeats 800000 in
theorem crc_cut_form (w : World) (A : Option Addr) (n c : Nat) (xs : List UInt8) (h : SlB w A n c xs) (h2 : n < 2) :
    Calls Try.prog 17 #[.agg tabV, .slice A n c] w fun e w' => e = .returned (.tuple #[.slice none 0 0, .int .i64 2]) ∧ Ext w w' := by
  have hl := h.max
  go_enter Try.func17, Try.ntmps17
  go_wp2_with fail
  go_ret2
  exact ⟨rfl, (Ext.refl _).alloc _⟩

set_option maxRecDepth 100000 in
set_option maxHeartbeats 800000 in
theorem crc_cut_crc (w : World) (A : Option Addr) (n c : Nat) (xs : List UInt8) (h : SlB w A n c xs) (h2 : 2 ≤ n) (hr : Crc.rightB xs = false) :
    Calls Try.prog 17 #[.agg tabV, .slice A n c] w fun e w' => e = .returned (.tuple #[.slice none 0 0, .int .i64 5]) ∧ Ext w w' := by
  have hl := h.max
  go_enter Try.func17, Try.ntmps17
  go_wp2_with (refine wpList_load_row rfl 27 _ rfl w.heap.size rfl 27 tabV (0, 0) _ (by exact heap_alloc_new _ _) Try.underlying27 rfl (tab_size 256) ?_)
  refine (crc_right _ _ _ _ xs (h.alloc _)).mono ?_
  rw [hr]
  rintro e w1 ⟨rfl, hb1⟩
  go_wp2_with fail
  go_ret2
  exact ⟨rfl, ((Ext.refl _).alloc _).trans hb1⟩

/-- Two results, the first one new bytes. -/
def OwnB2 (w w' : World) (e : Ending) (xs : List UInt8) (n : Int) : Prop :=
  ∃ A m c, e = .returned (.tuple #[.slice A m c, .int .i64 n]) ∧ w'.ownsRow w.heap.size 5 1 (.slice A m c) m (xs.map B8) ∧ Ext w w'

set_option maxRecDepth 100000 in
set_option maxHeartbeats 800000 in
theorem crc_cut_ok (w : World) (A : Option Addr) (n c : Nat) (xs : List UInt8) (h : SlB w A n c xs) (hn : n ≤ 1000000) (hr : Crc.rightB xs = true) :
    Calls Try.prog 17 #[.agg tabV, .slice A n c] w fun e w' => OwnB2 w w' e (xs.take (n - 2)) 0 := by
  have hl := h.max
  have hle := h.le
  have h2 : 2 ≤ n := by
    have := h.size
    simp [Crc.rightB] at hr
    omega
  go_enter Try.func17, Try.ntmps17
  go_wp2_with (refine wpList_load_row rfl 27 _ rfl w.heap.size rfl 27 tabV (0, 0) _ (by exact heap_alloc_new _ _) Try.underlying27 rfl (tab_size 256) ?_)
  refine (crc_right _ _ _ _ xs (h.alloc _)).mono ?_
  rw [hr]
  rintro e w1 ⟨rfl, hb1⟩
  have hb := ((Ext.refl w).alloc (.cells tabV 27)).trans hb1
  go_wp2_with fail
  refine (bytes_clone _ _ _ _ _ ((h.ext hb).take (n - 2) (by omega)) (by omega)).mono ?_
  rintro e w2 hc2
  obtain ⟨A2, n2, c2, rfl, ho2, hb2⟩ := hc2.from hb
  go_wp2_with fail
  go_ret2
  exact ⟨A2, n2, c2, rfl, ho2, hb2⟩

end Go.Proofs.Ythpogmkhfgkgoaa
