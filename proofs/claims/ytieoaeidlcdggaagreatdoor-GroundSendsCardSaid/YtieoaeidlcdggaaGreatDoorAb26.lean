/- A run on plain data in which each test is known: regions, code, functions. -/
import Derived.Test.YtieoaeidlcdggaaGreatDoorAb25
set_option linter.unusedSimpArgs false
set_option linter.unusedVariables false
namespace Go.Ab
open Go.RowKit

section
variable {C : Cx} {call : CallF} {ops : List Oper} {s s' : St} {o : Oper} {os : List Prop}
end
section
variable {C : Cx} {call : CallF} {ops : List Oper}
end
/-! ### A region -/
section
variable {C : Cx} {call : CallF} {ops : List Oper} {s sf : St} {K : Exit → St → Prop}
end
/-! ### Other numbers; what is not reached is let go -/
def Sim (C : Cx) (s s' : St) : Prop := ∀ G φ a w, Inv C G s φ a w → ∃ φ', Inv C G s' φ' a w
theorem Sim.refl {C : Cx} (s : St) : Sim C s s := fun _ φ _ _ h => ⟨φ, h⟩
theorem Sim.trans {C : Cx} {s1 s2 s3 : St} (h : Sim C s1 s2) (k : Sim C s2 s3) : Sim C s1 s3 := fun G φ a w hI => by
  obtain ⟨φ', h'⟩ := h G φ a w hI
  exact k G φ' a w h'
theorem AWP.post {C : Cx} {c : Code} {s : St} {K : Exit → St → Prop} (h : AWP C c s (fun e s' => ∃ s2, Sim C s' s2 ∧ K e s2)) : AWP C c s K := ⟨fun G φ a w n hI =>
  wpIn_mono (h.run G φ a w n hI) fun _ _ _ ⟨_, φ', G', h0, ⟨s2, hs, hk⟩, h2⟩ => by
    obtain ⟨φ2, h3⟩ := hs _ _ _ _ h2
    exact ⟨s2, φ2, G', h0, hk, h3⟩⟩
theorem keepS_sim {C : Cx} {l : List Tmp} {ids : List Nat} {s sf : St} (hk : keepS l ids s = some sf) : Sim C s sf := fun G φ a w hI => by
  unfold keepS at hk
  split at hk
  · rename_i hc
    cases hk
    simp only [Bool.and_eq_true] at hc
    have hI' : Inv C G (keepT l s) φ a w := ⟨hI.size, hI.defers, fun t x hx => hI.tm t x (lk_restr hx).2, hI.hr, hI.ok, hI.x, hI.frm, hI.own, hI.fix⟩
    exact ⟨_, hI'.only (okIds ids) hc.1 hc.2⟩
  · cases hk
end Go.Ab
