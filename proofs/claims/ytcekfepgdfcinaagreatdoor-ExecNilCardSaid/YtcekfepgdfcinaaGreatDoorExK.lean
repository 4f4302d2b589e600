/- What a run knows: the contracts, what sets hand over, what is let go. -/
import Derived.Test.YtcekfepgdfcinaaGreatDoorExA
import Derived.Test.YtcekfepgdfcinaaGreatDoorExT
import Derived.Test.YtcekfepgdfcinaaGreatDoorItB
namespace Go.Proofs.YtcekfepgdfcinaaGreatDoor
open Go Go.Ab
set_option linter.unusedSimpArgs false
set_option linter.unusedVariables false
set_option maxRecDepth 100000
def nullX : List (FuncId × List (Nat × Blk) × V) := [(217, [], .agg true tabV), (44, [(8, ⟨mcT, true, 0, some (0, 0)⟩)], .mp 8)]
theorem nullX_ok : (nullC nullX).Ok Tryz.prog := nullC_ok fun f Hout r h => by
  unfold nullX at h
  simp only [lk, beq_iff_eq] at h
  split at h
  · rename_i e
    subst e
    cases h
    exact con_makeE
  · split at h
    · rename_i e
      subst e
      cases h
      exact con_table
    · cases h
def kX : CallF := orC (nullC nullX) (orC (oneC 251 [] [.vs [] 0] [(5, ⟨[], true, 0, some (248, 3)⟩)] (.sl 5 0 0)) (orC (tabC 226 tabV appK) (orC (tabC 277 tabV rightK) (orC (tabC 218 tabV cutK) (orC (byteC 79 cloneK) packK)))))
theorem kX_ok : kX.Ok Tryz.prog := orC_ok nullX_ok (orC_ok (oneC_ok con_aclone0) (orC_ok appK_ok (orC_ok rightK_ok (orC_ok cutK_ok (orC_ok cloneK_ok packK_ok)))))
def itX : IterF := fun gf Hc ys => if gf = 165 then match Hc, ys with
  | [(i, ⟨[.val (.int .u16 s)], true, 1, none⟩)], [.ptr j o] => match (Nat.beq i 1000000000 && (Nat.beq j 1000000000 && Nat.beq o 0)) && (decide (0 ≤ s) && decide (s < 65536)) with
    | true => some (allV s)
    | false => none
  | _, _ => none else none
theorem itX_ok : itX.Ok Tryz.prog := fun gf Hc ys xs h => by
  unfold itX at h
  split at h
  · rename_i e
    subst e
    split at h
    · rename_i i s j o
      split at h
      · rename_i hc
        cases h
        simp only [Bool.and_eq_true, decide_eq_true_eq] at hc
        obtain ⟨⟨h1, h2, h3⟩, h4⟩ := hc
        rw [Nat.eq_of_beq_eq_true h1, Nat.eq_of_beq_eq_true h2, Nat.eq_of_beq_eq_true h3]
        exact it_all s h4
      · cases h
    · cases h
  · cases h
abbrev nilS_ : V := .val (.slice none 0 0)
/-- What is let go at the end of a function. -/
def fzX (f i : Nat) : List (Nat × Nat) := match i with
  | 0 => if f = 47 then [(104, 2)] else if [53, 112, 135, 136].contains f then [(5, 1)] else []
  | _ => []
noncomputable abbrev runX (fuel depth : Nat) : CallF := runFR kX itX (fun _ _ => none) fzX Tryz.prog tc fuel depth
theorem con_run {f : FuncId} {Hin Hout : List (Nat × Blk)} {args : List V} {r : V} (fuel n : Nat) (h : runX fuel n f Hin args = some (Hout, r)) : Con Tryz.prog f Hin args Hout r := run_conR tcok hmix kX_ok itX_ok fuel n h
end Go.Proofs.YtcekfepgdfcinaaGreatDoor
