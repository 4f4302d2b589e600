/- The ground's number, of a word. -/
import Derived.Test.YtieoaeidlcdggaaDoorGsB
namespace Go.Proofs.YtieoaeidlcdggaaDoor
open Go Go.Ab Go.RowKit Go.Shelf
set_option linter.unusedSimpArgs false
set_option linter.unusedVariables false
set_option maxRecDepth 100000
set_option maxHeartbeats 4000000
theorem numO_ok {s : ByteArray} {v : Int} (h : Lib.atoiAll s.data.toList = .ok v) : numO s = if 0 ≤ v ∧ v ≤ 255 ∧ dgs v.toNat = s.data.toList then some v.toNat else none := by
  unfold numO
  rw [h]
def NumPost (w : World) (x : Int) (b : Bool) (e : Ending) (w' : World) : Prop := e = .returned (.tuple #[.int .u8 x, .bool b]) ∧ Below w.heap.size w w'
theorem bytesW {w w1 : World} {t : TypeId} (h : w1 = w ∨ ∃ z, w1 = Lib.bytesWorld w t z) : Below w.heap.size w w1 := by
  rcases h with rfl | ⟨z, rfl⟩
  · exact Below.refl _ _
  · exact Lib.bytesWorld_below _ _ _
theorem tabB {P : Program} {w w1 : World} {name : String} {k : IntKind} {zs : List Int} (h : Lib.TabIs P w name k zs) (hb : Below w.heap.size w w1) : Lib.TabIs P w1 name k zs := by
  unfold Lib.TabIs World.var? at h ⊢
  cases hg : P.globalNamed name with
  | none => rw [hg] at h; cases h
  | some g =>
    rw [hg] at h
    simp only [Option.bind_some] at h ⊢
    cases ho : w.heap[g]? with
    | none => rw [ho] at h; cases h
    | some o =>
      rw [hb.block g (Array.getElem?_eq_some_iff.1 ho).1]
      exact h
theorem number_in (s : ByteArray) (hs : s.size ≤ 1000000) (n : Nat) (hn : n < 256) (h : Lib.atoiAll s.data.toList = .ok (n : Int)) (w : World) (hp : Lib.TabIs Tryd.prog w "internal/strconv.uint64pow10" .u64 Lib.pow10Tab) :
    Calls Tryd.prog 15 #[.string s] w (NumPost w n ((bb (dgs n)).toList == s.toList)) := by
  go_enter Tryd.func15, Tryd.ntmps15
  go_wp2_with (first
    | (go_at_call 28; refine (Any.strconv_Atoi_ok layAtoi s (by omega) (n : Int) h _).mono ?_; rintro e w1 ⟨rfl, hw1⟩; have hb1 := bytesW hw1; clear hw1; have hp1 := tabB hp hb1)
    | (go_at_call 26; refine (itoa_calls n hn _ hp1).mono ?_; rintro e w2 ⟨rfl, hb2⟩))
  go_ret2
  exact ⟨rfl, hb1.trans (hb2.mono hb1.size)⟩
theorem number_out (s : ByteArray) (hs : s.size ≤ 1000000) (v : Int) (hv : v < 0 ∨ 255 < v) (h : Lib.atoiAll s.data.toList = .ok v) (w : World) :
    Calls Tryd.prog 15 #[.string s] w (NumPost w (v % 256) false) := by
  go_enter Tryd.func15, Tryd.ntmps15
  rcases hv with hv | hv
  · have h1 : ¬ 0 ≤ v := by omega
    go_wp2_with (go_at_call 28; refine (Any.strconv_Atoi_ok layAtoi s (by omega) v h _).mono ?_; rintro e w1 ⟨rfl, hw1⟩; have hb1 := bytesW hw1; clear hw1)
    go_ret2
    exact ⟨rfl, hb1⟩
  · have h1 : 0 ≤ v := by omega
    have h2 : ¬ v ≤ 255 := by omega
    go_wp2_with (go_at_call 28; refine (Any.strconv_Atoi_ok layAtoi s (by omega) v h _).mono ?_; rintro e w1 ⟨rfl, hw1⟩; have hb1 := bytesW hw1; clear hw1)
    go_ret2
    exact ⟨rfl, hb1⟩
/-- It is no number, nor one too great. -/
def isNone (s : ByteArray) : Bool := match Lib.atoiAll s.data.toList with | .ok _ => false | .range => false | _ => true
theorem number_bad (s : ByteArray) (hs : s.size ≤ 1000000) (v : Int) (h : isNone s = true ∧ v = 0 ∨ Lib.atoiAll s.data.toList = .range ∧ v = Lib.atoiSat s.data.toList) (w : World) (hG : GOk (OldB w) w) :
    Calls Tryd.prog 15 #[.string s] w (NumPost w (v % 256) false) := by
  go_enter Tryd.func15, Tryd.ntmps15
  rcases h with ⟨h, rfl⟩ | ⟨h, rfl⟩
  · obtain ⟨ev, hv, te, pe, hev⟩ := g_syn hG
    go_wp2_with (go_at_call 28; refine (Any.strconv_Atoi_syntax layAtoi s (by omega) (by unfold isNone at h; revert h; rcases Lib.atoiAll s.data.toList with v | _ | _ <;> intro h <;> first | rfl | cases h) ev _ hv (.inr ⟨te, pe, hev⟩)).mono ?_; rintro e w1 ⟨N, rfl, hN, hNh, hb1⟩)
    go_ret2
    exact ⟨rfl, hb1⟩
  · obtain ⟨ev, hv, te, pe, hev⟩ := g_ran hG
    go_wp2_with (go_at_call 28; refine (Any.strconv_Atoi_range layAtoi s (by omega) h ev _ hv (.inr ⟨te, pe, hev⟩)).mono ?_; rintro e w1 ⟨N, rfl, hN, hNh, hb1⟩)
    go_ret2
    exact ⟨rfl, hb1⟩
theorem wrap8 (v : Int) : IntKind.u8.wrap v = v % 256 := by simp [IntKind.wrap, IntKind.signed, IntKind.bits]
theorem number_calls (s : ByteArray) (hs : s.size ≤ 1000000) (w : World) (hG : GOk (OldB w) w) : Calls Tryd.prog 15 #[.string s] w fun e w' => e = .returned (.tuple #[.int .u8 (nbO s), .bool (numO s).isSome]) ∧ Below w.heap.size w w' := by
  have hp := g_pow hG
  show Calls Tryd.prog 15 #[.string s] w (NumPost w (nbO s) (numO s).isSome)
  rcases h : Lib.atoiAll s.data.toList with v | _ | _
  · have hnb : nbO s = v % 256 := by unfold nbO; rw [h]; exact wrap8 v
    have hno := numO_ok h
    by_cases hv : v < 0 ∨ 255 < v
    · rw [hnb, hno, if_neg (by omega)]
      exact number_out s hs v hv h w
    · obtain ⟨n, rfl⟩ : ∃ n : Nat, v = n := ⟨v.toNat, by omega⟩
      have hn : n < 256 := by omega
      have e2 : (numO s).isSome = ((bb (dgs n)).toList == s.toList) := by
        rw [hno, Go.ByteArray.toList_eq, Go.ByteArray.toList_eq, bb_list]
        by_cases hd : dgs n = s.data.toList
        · rw [if_pos ⟨by omega, by omega, by simpa using hd⟩]
          simp [hd]
        · rw [if_neg (fun h => hd (by simpa using h.2.2))]
          simp [hd]
      rw [hnb, e2, show (n : Int) % 256 = n by omega]
      exact number_in s hs n hn h w hp
  · have hnb : nbO s = 0 % 256 := by unfold nbO; rw [h]; exact wrap8 0
    have hno : numO s = none := by unfold numO; rw [h]
    rw [hnb, hno]
    exact number_bad s hs 0 (.inl ⟨(by unfold isNone; rw [h]), rfl⟩) w hG
  · have hnb : nbO s = Lib.atoiSat s.data.toList % 256 := by unfold nbO; rw [h]; exact wrap8 _
    have hno : numO s = none := by unfold numO; rw [h]
    rw [hnb, hno]
    exact number_bad s hs _ (.inr ⟨h, rfl⟩) w hG
theorem con_number (s : ByteArray) (hs : s.size ≤ 1000000) : Con Tryd.prog 15 [] [strV s] [] (.tup [u8 (nbO s), vb (numO s).isSome]) := by
  refine Con.of_belowR (v := .tuple #[.int .u8 (nbO s), .bool (numO s).isSome]) ⟨_, Tryd.func15, by kernel_rfl, by kernel_rfl⟩ (fun I w φ => ?_) fun w us hu hg => ?_
  · refine .tup (by simp) (fun i hi => ?_)
    rcases i with _ | _ | i
    · exact .val rfl
    · exact .val rfl
    · simp at hi; omega
  · cases hu with
    | cons h1 h2 =>
      cases h2
      cases h1
      exact number_calls s hs w hg
theorem con_itoa (n : Nat) (hn : n < 256) : Con Tryd.prog 26 [] [i64 (n : Int)] [] (strV (bb (dgs n))) := by
  refine Con.of_below ⟨_, Tryd.func26, by kernel_rfl, by kernel_rfl⟩ rfl fun w us hu hg => ?_
  cases hu with
  | cons h1 h2 =>
    cases h2
    cases h1
    exact itoa_calls n hn w (g_pow hg)
end Go.Proofs.YtieoaeidlcdggaaDoor
