/- Go's own functions for numbers in decimal, and for texts that are joined: their contracts at this program. -/
import Derived.Test.YtmeiemdnhjnpcaaDoorBitI
import Derived.Shelf.Strings.OnBuilder
import Derived.Shelf.Strconv.Itoa3
namespace Go.Proofs.YtmeiemdnhjnpcaaDoor
open Go Go.Ab Go.RowKit Go.Shelf
set_option linter.unusedSimpArgs false
set_option linter.unusedVariables false
set_option maxRecDepth 100000
def laysJoin_ren : Go.Shelf.Ren := ⟨fun | 156 => 31 | 165 => 35 | 166 => 36 | 169 => 37 | 240 => 39 | 241 => 40 | 276 => 45 | 277 => 46 | n => n, fun | 31 => 46 | 9 => 9 | 3 => 3 | 4 => 4 | 0 => 0 | 20 => 20 | 72 => 61 | 76 => 65 | 70 => 58 | 37 => 59 | 75 => 64 | 127 => 68 | 164 => 74 | 5 => 5 | 80 => 34 | n => n, fun | n => n⟩
theorem laysJoin : Lays.n156 Tryd.prog laysJoin_ren where
  mixed := by kernel_rfl
  f156 := Tryd.func31.trans (congrArg some (by kernel_rfl))
  f165 := Tryd.func35.trans (congrArg some (by kernel_rfl))
  f166 := Tryd.func36.trans (congrArg some (by kernel_rfl))
  f169 := Tryd.func37.trans (congrArg some (by kernel_rfl))
  f240 := Tryd.func39.trans (congrArg some (by kernel_rfl))
  f241 := Tryd.func40.trans (congrArg some (by kernel_rfl))
  f276 := Tryd.func45.trans (congrArg some (by kernel_rfl))
  f277 := Tryd.func46.trans (congrArg some (by kernel_rfl))
  t0 := Tryd.underlying0
  a0 := Tryd.isAgg0
  z0 := Tryd.sizeOf0
  v0 := Tryd.zeroValue0
  t3 := Tryd.underlying3
  a3 := Tryd.isAgg3
  z3 := Tryd.sizeOf3
  v3 := Tryd.zeroValue3
  t4 := Tryd.underlying4
  a4 := Tryd.isAgg4
  z4 := Tryd.sizeOf4
  v4 := Tryd.zeroValue4
  t9 := Tryd.underlying9
  a9 := Tryd.isAgg9
  z9 := Tryd.sizeOf9
  v9 := Tryd.zeroValue9
  t20 := Tryd.underlying20
  a20 := Tryd.isAgg20
  z20 := Tryd.sizeOf20
  v20 := Tryd.zeroValue20
  t31 := Tryd.underlying46
  a31 := Tryd.isAgg46
  z31 := Tryd.sizeOf46
  v31 := Tryd.zeroValue46
  t37 := Tryd.underlying59
  a37 := Tryd.isAgg59
  z37 := Tryd.sizeOf59
  v37 := Tryd.zeroValue59
  t70 := Tryd.underlying58
  a70 := Tryd.isAgg58
  z70 := Tryd.sizeOf58
  v70 := Tryd.zeroValue58
  t72 := Tryd.underlying61
  a72 := Tryd.isAgg61
  z72 := Tryd.sizeOf61
  v72 := Tryd.zeroValue61
  t75 := Tryd.underlying64
  a75 := Tryd.isAgg64
  z75 := Tryd.sizeOf64
  v75 := Tryd.zeroValue64
  t76 := Tryd.underlying65
  a76 := Tryd.isAgg65
  z76 := Tryd.sizeOf65
  v76 := Tryd.zeroValue65
  t127 := Tryd.underlying68
  a127 := Tryd.isAgg68
  z127 := Tryd.sizeOf68
  v127 := Tryd.zeroValue68
  t164 := Tryd.underlying74
  a164 := Tryd.isAgg74
  z164 := Tryd.sizeOf74
  v164 := Tryd.zeroValue74
def laysItoa_ren : Go.Shelf.Ren := ⟨fun | 171 => 30 | 243 => 34 | 246 => 38 | 283 => 41 | 284 => 42 | 285 => 43 | 286 => 44 | 129 => 48 | 317 => 47 | 318 => 49 | 319 => 50 | 320 => 51 | 337 => 52 | 338 => 53 | n => n, fun | 3 => 3 | 9 => 9 | 2 => 2 | 4 => 4 | 171 => 69 | 0 => 0 | 53 => 53 | 37 => 59 | 5 => 5 | 173 => 72 | 212 => 78 | 51 => 57 | 20 => 20 | 213 => 79 | 46 => 55 | 232 => 56 | 233 => 82 | n => n, fun | 17 => 1 | 18 => 0 | 19 => 3 | n => n⟩
theorem laysItoa : Lays.n171 Tryd.prog laysItoa_ren where
  mixed := by kernel_rfl
  f129 := Tryd.func48.trans (congrArg some (by kernel_rfl))
  f171 := Tryd.func30.trans (congrArg some (by kernel_rfl))
  f243 := Tryd.func34.trans (congrArg some (by kernel_rfl))
  f246 := Tryd.func38.trans (congrArg some (by kernel_rfl))
  f283 := Tryd.func41.trans (congrArg some (by kernel_rfl))
  f284 := Tryd.func42.trans (congrArg some (by kernel_rfl))
  f285 := Tryd.func43.trans (congrArg some (by kernel_rfl))
  f286 := Tryd.func44.trans (congrArg some (by kernel_rfl))
  f317 := Tryd.func47.trans (congrArg some (by kernel_rfl))
  f318 := Tryd.func49.trans (congrArg some (by kernel_rfl))
  f319 := Tryd.func50.trans (congrArg some (by kernel_rfl))
  f320 := Tryd.func51.trans (congrArg some (by kernel_rfl))
  f337 := Tryd.func52.trans (congrArg some (by kernel_rfl))
  f338 := Tryd.func53.trans (congrArg some (by kernel_rfl))
  t0 := Tryd.underlying0
  a0 := Tryd.isAgg0
  z0 := Tryd.sizeOf0
  v0 := Tryd.zeroValue0
  t2 := Tryd.underlying2
  a2 := Tryd.isAgg2
  z2 := Tryd.sizeOf2
  v2 := Tryd.zeroValue2
  t3 := Tryd.underlying3
  a3 := Tryd.isAgg3
  z3 := Tryd.sizeOf3
  v3 := Tryd.zeroValue3
  t4 := Tryd.underlying4
  a4 := Tryd.isAgg4
  z4 := Tryd.sizeOf4
  v4 := Tryd.zeroValue4
  t5 := Tryd.underlying5
  a5 := Tryd.isAgg5
  z5 := Tryd.sizeOf5
  v5 := Tryd.zeroValue5
  t9 := Tryd.underlying9
  a9 := Tryd.isAgg9
  z9 := Tryd.sizeOf9
  v9 := Tryd.zeroValue9
  t20 := Tryd.underlying20
  a20 := Tryd.isAgg20
  z20 := Tryd.sizeOf20
  v20 := Tryd.zeroValue20
  t37 := Tryd.underlying59
  a37 := Tryd.isAgg59
  z37 := Tryd.sizeOf59
  v37 := Tryd.zeroValue59
  t46 := Tryd.underlying55
  a46 := Tryd.isAgg55
  z46 := Tryd.sizeOf55
  v46 := Tryd.zeroValue55
  t51 := Tryd.underlying57
  a51 := Tryd.isAgg57
  z51 := Tryd.sizeOf57
  v51 := Tryd.zeroValue57
  t53 := Tryd.underlying53
  a53 := Tryd.isAgg53
  z53 := Tryd.sizeOf53
  v53 := Tryd.zeroValue53
  t171 := Tryd.underlying69
  a171 := Tryd.isAgg69
  z171 := Tryd.sizeOf69
  v171 := Tryd.zeroValue69
  t173 := Tryd.underlying72
  a173 := Tryd.isAgg72
  z173 := Tryd.sizeOf72
  v173 := Tryd.zeroValue72
  t212 := Tryd.underlying78
  a212 := Tryd.isAgg78
  z212 := Tryd.sizeOf78
  v212 := Tryd.zeroValue78
  t213 := Tryd.underlying79
  a213 := Tryd.isAgg79
  z213 := Tryd.sizeOf79
  t232 := Tryd.underlying56
  a232 := Tryd.isAgg56
  z232 := Tryd.sizeOf56
  v232 := Tryd.zeroValue56
  t233 := Tryd.underlying82
  a233 := Tryd.isAgg82
  z233 := Tryd.sizeOf82
  v233 := Tryd.zeroValue82
  g17 := by kernel_rfl
  g18 := by kernel_rfl
  g19 := by kernel_rfl
theorem extraJoin : Builder.Extra Tryd.prog laysJoin_ren where
  sizeBuilder := by kernel_rfl
  liesBuilder := by kernel_rfl
  t5 := Tryd.underlying5
  a5 := Tryd.isAgg5
  z5 := Tryd.sizeOf5
  v5 := Tryd.zeroValue5
  infoByte := by kernel_rfl
  cellsByte := by kernel_rfl
  sizeByte := by kernel_rfl
  neB5 := by decide
/-- A unit in decimal. -/
def dgL (u : Nat) : List UInt8 := if u < 10 then [UInt8.ofNat (48 + u)] else [49, UInt8.ofNat (48 + u % 10)]
def dg (x : Fin 16) : ByteArray := ⟨(dgL x.val).toArray⟩
theorem dec16 (u : Nat) (h : u < 16) : Lib.decDigits u = dgL u := by
  unfold dgL
  rw [Lib.decDigits]
  by_cases h1 : u < 10
  · rw [dif_pos h1, if_pos h1]
  · rw [dif_neg h1, if_neg h1, show u / 10 = 1 by omega, Lib.decDigits, dif_pos (by omega)]
    rfl
theorem itoa_calls (x : Fin 16) (w : World) : Calls Tryd.prog 30 #[.int .i64 ((x.val : Nat) : Int)] w fun e w' => e = .returned (.string (dg x)) ∧ w' = w := by
  have h := Any.strconv_Itoa_small laysItoa x.val (by omega) w
  rw [dec16 x.val x.isLt] at h
  exact h
/-- Units in decimal, a space between two. -/
def joinT (xs : List (Fin 16)) : ByteArray := ⟨(Lib.join ((xs.map dg).map (·.data.toList)) [32]).toArray⟩
theorem dg_len : ∀ x : Fin 16, (dg x).data.toList.length ≤ 2 := by decide
theorem join_le : ∀ xs : List (Fin 16), (Lib.join ((xs.map dg).map (·.data.toList)) [32]).length ≤ 3 * xs.length
  | [] => by simp [Lib.join]
  | [x] => by
    have := dg_len x
    simp [Lib.join] at this ⊢
    omega
  | x :: y :: r => by
    have := dg_len x
    have ih := join_le (y :: r)
    simp [Lib.join] at this ih ⊢
    omega
theorem join_calls (bk c : Nat) (xs : List (Fin 16)) (hx : xs.length ≤ 16) (w : World) (hcells : ∀ (j : Nat) x, xs[j]? = some x → w.cell? ⟨bk, j, none⟩ = some (.string (dg x))) (hbk : bk < w.heap.size) (hc : xs.length ≤ c) :
    Calls Tryd.prog 31 #[.slice (some ⟨bk, 0, none⟩) xs.length c, .string ⟨#[32]⟩] w fun e w' => e = .returned (.string (joinT xs)) ∧ Below w.heap.size w w' := by
  have h := Any.strings_Join laysJoin extraJoin bk 0 c (xs.map dg) ⟨#[32]⟩ w (fun j x hj => by
    rw [List.getElem?_map] at hj
    rcases hy : xs[j]? with _ | y
    · rw [hy] at hj; cases hj
    · rw [hy] at hj
      cases hj
      rw [Nat.zero_add]
      exact hcells j y hy) hbk (by rw [List.length_map]; omega) (by rw [List.length_map]; omega) (by have := join_le xs; exact Nat.le_trans this (by omega))
  rw [List.length_map] at h
  exact h
end Go.Proofs.YtmeiemdnhjnpcaaDoor
