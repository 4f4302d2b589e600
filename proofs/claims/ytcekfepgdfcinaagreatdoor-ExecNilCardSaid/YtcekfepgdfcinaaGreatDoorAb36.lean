/- A run on plain data, with contracts that are known: what they say is not run again. -/
import Derived.Test.YtcekfepgdfcinaaGreatDoorAb26
set_option linter.unusedSimpArgs false
set_option linter.unusedVariables false
namespace Go.Ab
open Go.RowKit
def orC (a b : CallF) : CallF := fun f Hin ys => match a f Hin ys with
  | some r => some r
  | none => b f Hin ys
theorem orC_ok {P : Program} {a b : CallF} (ha : a.Ok P) (hb : b.Ok P) : (orC a b).Ok P := fun f Hin ys Hout r h => by
  unfold orC at h
  split at h
  · rename_i r' h'
    cases h
    exact ha f Hin ys Hout r h'
  · exact hb f Hin ys Hout r h
/-- Functions without arguments whose contracts are known. -/
def nullC (l : List (FuncId × List (Nat × Blk) × V)) : CallF := fun f Hin ys => match Hin, ys with
  | [], [] => lk l f
  | _, _ => none
theorem nullC_ok {P : Program} {l : List (FuncId × List (Nat × Blk) × V)} (h : ∀ f Hout r, lk l f = some (Hout, r) → Con P f [] [] Hout r) : (nullC l).Ok P := fun f Hin ys Hout r he => by
  unfold nullC at he
  split at he
  · exact h f Hout r he
  · cases he
/-- Bytes that are written out. -/
def u8L : List V → Option (List Int)
  | [] => some []
  | .val (.int .u8 z) :: r => if 0 ≤ z ∧ z < 256 then (u8L r).map (z :: ·) else none
  | _ => none
theorem u8L_ok : ∀ {xs : List V} {l : List Int}, u8L xs = some l → xs = u8s l ∧ BL l
  | [], l, h => by
    cases h
    exact ⟨rfl, BL.nil⟩
  | x :: r, l, h => by
    unfold u8L at h
    split at h
    · cases ‹x :: r = []›
    · rename_i z r' e
      cases e
      split at h
      · rename_i hz
        obtain ⟨l', h1, h2⟩ := Option.map_eq_some_iff.1 h
        subst h2
        obtain ⟨e1, e2⟩ := u8L_ok h1
        exact ⟨by rw [e1]; rfl, BL.cons hz e2⟩
      · cases h
    · cases h
/-- A function of one slice of bytes whose contract is known. -/
def byteC (f : FuncId) (g : List Int → Option (List (Nat × Blk) × V)) : CallF := fun f' Hin ys => match Hin, ys with
  | [], [.vs xs n] => if f' = f then match u8L xs with
    | some l => if l.length = n then g l else none
    | none => none
    else none
  | _, _ => none
theorem byteC_ok {P : Program} {f : FuncId} {g : List Int → Option (List (Nat × Blk) × V)} (h : ∀ l Hout r, BL l → g l = some (Hout, r) → Con P f [] [.vs (u8s l) l.length] Hout r) : (byteC f g).Ok P := fun f' Hin ys Hout r he => by
  unfold byteC at he
  split at he
  · rename_i xs n
    split at he
    · rename_i e
      subst e
      split at he
      · rename_i l hl
        obtain ⟨rfl, hb⟩ := u8L_ok hl
        split at he
        · rename_i e2
          subst e2
          exact h l Hout r hb he
        · cases he
      · cases he
    · cases he
  · cases he
end Go.Ab
