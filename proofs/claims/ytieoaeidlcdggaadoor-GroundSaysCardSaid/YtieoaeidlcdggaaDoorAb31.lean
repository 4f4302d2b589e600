/- What is left of an own slice's cells may be let go. -/
import Derived.Test.YtieoaeidlcdggaaDoorAb30
set_option linter.unusedSimpArgs false
set_option linter.unusedVariables false
namespace Go.Ab
open Go.RowKit
theorem BlkRel.trunc {I : Nat → Prop} {w : World} {φ : Phi} {s : Slot} {cs : List V} {fl : Bool} {e sz k : Nat} (hsz : 0 < sz) (hk : k * sz ≤ cs.length) (h : BlkRel I w φ s ⟨cs, fl, 0, some (e, sz)⟩) : BlkRel I w φ s ⟨cs.take (k * sz), fl, 0, some (e, sz)⟩ := by
  cases s with
  | none => trivial
  | nil =>
    have hc : cs = [] := h.1
    subst hc
    exact ⟨by simp, h.2⟩
  | «at» b c =>
    have hm : isMp ⟨cs, fl, 0, some (e, sz)⟩ = false := isMp_some rfl hsz
    have hm' : isMp ⟨cs.take (k * sz), fl, 0, some (e, sz)⟩ = false := isMp_some rfl hsz
    simp only [BlkRel, hm] at h
    obtain ⟨us, el, h1, h2, h3, cap, n, h4, h5, h6, h7, h8⟩ := h
    refine CRel.blk ⟨us, el, h1, ?_, h3, cap, k, h4, ?_, ?_, h7, h8⟩ hm'
    · have := h2.take (k * sz)
      have e2 : (us.toList.take cs.length).take (k * sz) = us.toList.take (cs.take (k * sz)).length := by
        rw [List.take_take, List.length_take]
      show RelL I w (bFlat φ fl) (cs.take (k * sz)) (us.toList.take (cs.take (k * sz)).length)
      rw [← e2]
      exact this
    · show (cs.take (k * sz)).length = k * sz
      rw [List.length_take]; omega
    · have h5 : cs.length = n * sz := h5
      have : k * sz ≤ n * sz := by omega
      exact Nat.le_trans (Nat.le_of_mul_le_mul_right this hsz) h6
/-- .. at a point of the code. -/
theorem Inv.trunc {C : Cx} {G : Gl} {s : St} {φ : Phi} {a : Act} {w : World} (hI : Inv C G s φ a w) {id k e sz : Nat} {cs cs' : List V} {fl : Bool} (hb : lk s.H id = some ⟨cs, fl, 0, some (e, sz)⟩) (hsz : 0 < sz) (hk : k * sz ≤ cs.length) (he : cs.take (k * sz) = cs') :
    Inv C G ⟨s.tm, ins id ⟨cs', fl, 0, some (e, sz)⟩ s.H⟩ φ a w := by
  subst he
  refine ⟨hI.size, hI.defers, hI.tm, fun i blk hl => ?_, ⟨hI.ok.inj, hI.ok.lt, hI.ok.free, fun i hi => ?_⟩, hI.x, hI.frm, hI.own, fun i hq h0 => ?_⟩
  · rw [lk_ins] at hl
    split at hl
    · rename_i e1
      subst e1
      cases hl
      exact BlkRel.trunc hsz hk (hI.hr i _ hb)
    · exact hI.hr i blk hl
  · rw [lk_ins] at hi
    split at hi
    · cases hi
    · exact hI.ok.dom i hi
  · rcases hI.fix i hq h0 with h | h
    · exact .inl h
    · refine .inr ?_
      show lk (ins id _ s.H) i = none
      rw [lk_ins, if_neg (fun e => by subst e; rw [hb] at h; cases h)]
      exact h
theorem AWP.trunc {C : Cx} {c : Code} {s s' : St} {K : Exit → St → Prop} (id k : Nat) {e sz : Nat} {cs cs' : List V} {fl : Bool} (hb : lk s.H id = some ⟨cs, fl, 0, some (e, sz)⟩) (hsz : 0 < sz) (hk : k * sz ≤ cs.length) (he : cs.take (k * sz) = cs')
    (hs : (⟨s.tm, ins id ⟨cs', fl, 0, some (e, sz)⟩ s.H⟩ : St) = s') (h : AWP C c s' K) : AWP C c s K := ⟨fun G φ a w n hI => h.run G _ a w n (hs ▸ hI.trunc hb hsz hk he)⟩
/-- Of the block that is handed back the first elements alone are told. -/
theorem Con.trunc {P : Program} {f : FuncId} {Hin : List (Nat × Blk)} {args : List V} {id : Nat} {cs cs' : List V} {fl : Bool} {e sz k : Nat} {r : V} (h : Con P f Hin args [(id, ⟨cs, fl, 0, some (e, sz)⟩)] r) (hsz : 0 < sz) (hk : k * sz ≤ cs.length) (he : cs.take (k * sz) = cs') :
    Con P f Hin args [(id, ⟨cs', fl, 0, some (e, sz)⟩)] r := by
  subst he
  refine ⟨h.1, fun X φ w us a b c d g => (h.2 X φ w us a b c d g).mono ?_⟩
  rintro e' w' ⟨u, φ', he, hf, hok, hown, hhr, hrel, hfix⟩
  refine ⟨u, φ', he, hf, ⟨hok.inj, hok.lt, hok.free, fun i hi => hok.dom i ?_⟩, hown, fun i blk hl => ?_, hrel, fun i hb h0 => ?_⟩
  · simp only [lk] at hi ⊢
    split at hi
    · cases hi
    · rename_i hne; rw [if_neg hne]
  · simp only [lk] at hl
    split at hl
    · rename_i e1
      cases hl
      exact BlkRel.trunc hsz hk (hhr i _ (by simp only [lk]; rw [if_pos e1]))
    · cases hl
  · rcases hfix i hb h0 with h1 | h1
    · exact .inl h1
    · refine .inr ?_
      simp only [lk] at h1 ⊢
      split at h1
      · cases h1
      · rename_i hne; rw [if_neg hne]
end Go.Ab
namespace Go.Ab
theorem putAt_take {cs ds : List V} {off : Nat} (h : off ≤ cs.length) : (putAt cs off ds).take off = cs.take off := by
  unfold putAt
  rw [List.take_append_of_le_length (by rw [List.length_take]; omega), List.take_take, Nat.min_self]
theorem putAt_ge {cs ds : List V} {off : Nat} (h : off ≤ cs.length) : off ≤ (putAt cs off ds).length := by
  unfold putAt
  simp only [List.length_append, List.length_take]
  omega
end Go.Ab
