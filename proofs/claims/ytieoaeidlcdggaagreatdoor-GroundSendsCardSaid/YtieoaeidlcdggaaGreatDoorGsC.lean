/- The ground's number, of a word. -/
import Derived.Test.YtieoaeidlcdggaaGreatDoorTc
import Derived.Test.YtieoaeidlcdggaaGreatDoorAb24
import Derived.Lib.SplitLaws
import Derived.Lib.AtoiAll
import Derived.Lib.ItoaNum
import Derived.Test.YtieoaeidlcdggaaGreatDoorAb29
import Derived.Shelf.Strings.SplitShaped
import Derived.Shelf.Strconv.AtoiAll
import Derived.Shelf.Strconv.Itoa3
import Derived.Shelf.Strings.OnBuilder
namespace Go.Proofs.YtieoaeidlcdggaaGreatDoor
open Go Go.Ab
set_option linter.unusedSimpArgs false
set_option linter.unusedVariables false
abbrev strV (s : ByteArray) : V := .val (.string s)
/-- Bytes as a text. -/
def bb (l : List UInt8) : ByteArray := ⟨l.toArray⟩
theorem bb_list (l : List UInt8) : (bb l).data.toList = l := rfl
theorem bb_of (s : ByteArray) : bb s.data.toList = s := rfl
theorem ba_ext {s t : ByteArray} (h : s.data.toList = t.data.toList) : s = t := by rw [← bb_of s, ← bb_of t, h]
theorem bb_size (l : List UInt8) : (bb l).size = l.length := by
  show l.toArray.size = _
  simp
theorem ba_len (s : ByteArray) : s.data.toList.length = s.size := by
  show _ = s.data.size
  simp
/-- Cut at spaces. -/
def spg (cur : List UInt8) : List UInt8 → List (List UInt8)
  | [] => [cur]
  | b :: r => if b = 32 then cur :: spg [] r else spg (cur ++ [b]) r
theorem spg_cur (x : UInt8) : ∀ (l cur : List UInt8), spg (x :: cur) l = (match spg cur l with | [] => [[x]] | h :: t => (x :: h) :: t)
  | [], cur => rfl
  | b :: r, cur => by
    unfold spg
    split
    · rfl
    · exact spg_cur x r (cur ++ [b])
theorem spg_ne : ∀ (l cur : List UInt8), spg cur l ≠ []
  | [], cur => by simp [spg]
  | b :: r, cur => by
    unfold spg
    split
    · simp
    · exact spg_ne r _
theorem index_cons (b : UInt8) (l : List UInt8) : Lib.index (b :: l) [32] = if b = 32 then 0 else if Lib.index l [32] == -1 then -1 else Lib.index l [32] + 1 := by
  rw [Lib.index]
  by_cases h : b = 32
  · subst h; simp [List.isPrefixOf]
  · have hp : ([32] : List UInt8).isPrefixOf (b :: l) = false := by simp [List.isPrefixOf, Ne.symm h]
    rw [hp, if_neg h]
    simp
theorem splitK_spg : ∀ l : List UInt8, Lib.splitK [32] 0 (Lib.count l [32]) l = spg [] l
  | [] => by rw [Lib.count_miss (by simp [Lib.index])]; rfl
  | b :: l => by
    have ih := splitK_spg l
    by_cases h : b = 32
    · subst h
      rw [Lib.count_cons_eq, Nat.add_comm, Lib.splitK, index_cons, if_pos rfl]
      simp only [spg, if_true]
      rw [if_neg (by decide)]
      simp [ih]
    · rw [Lib.count_cons_ne b 32 l h]
      unfold spg
      rw [if_neg h, List.nil_append, spg_cur, ← ih]
      cases hc : Lib.count l [32] with
      | zero => rfl
      | succ k =>
        rw [Lib.splitK, Lib.splitK, index_cons, if_neg h]
        by_cases hm : Lib.index l [32] = -1
        · simp [hm]
        · have hge := Lib.index_ge l [32]
          obtain ⟨j, hj⟩ : ∃ j : Nat, Lib.index l [32] = j := ⟨(Lib.index l [32]).toNat, by omega⟩
          have e1 : ((j : Int) == -1) = false := by first | (simp; done) | (simp; omega)
          have e2 : ((j : Int) + 1 == -1) = false := by first | (simp; done) | (simp; omega)
          have e3 : ((j : Int) + 1).toNat = j + 1 := by omega
          have e5 : ¬ (((j : Int) == -1) = true) := by rw [e1]; simp
          have e6 : ¬ (((j : Int) + 1 == -1) = true) := by rw [e2]; simp
          rw [hj, if_neg e5, if_neg e5, if_neg e6, e3]
          rfl
def spl (s : ByteArray) : List ByteArray := (spg [] s.data.toList).map bb
theorem splitB_spl (s : ByteArray) : Lib.splitB ⟨#[32]⟩ 0 (Lib.countB s ⟨#[32]⟩) s = spl s := by
  have h := Lib.splitB_data ⟨#[32]⟩ 0 (Lib.countB s ⟨#[32]⟩) s
  have e : Lib.splitK [32] 0 (Lib.countB s ⟨#[32]⟩) s.data.toList = spg [] s.data.toList := splitK_spg s.data.toList
  rw [show (⟨#[32]⟩ : ByteArray).data.toList = [32] from rfl, e] at h
  unfold spl
  rw [← h, List.map_map]
  conv => lhs; rw [← List.map_id (Lib.splitB _ _ _ _)]
  rfl
theorem spg_len : ∀ (l cur : List UInt8), (spg cur l).length ≤ l.length + 1
  | [], cur => by simp [spg]
  | b :: r, cur => by
    unfold spg
    split
    · have := spg_len r []; simp; omega
    · have := spg_len r (cur ++ [b]); simp; omega
theorem spg_small : ∀ (l cur : List UInt8), ∀ p ∈ spg cur l, p.length ≤ cur.length + l.length
  | [], cur, p, h => by simp [spg] at h; simp [h]
  | b :: r, cur, p, h => by
    unfold spg at h
    split at h
    · rcases List.mem_cons.1 h with rfl | h
      · omega
      · have := spg_small r [] p h; simp at this ⊢; omega
    · have := spg_small r _ p h; simp at this ⊢; omega
theorem spl_small (s : ByteArray) (p : ByteArray) (h : p ∈ spl s) : p.size ≤ s.size := by
  unfold spl at h
  obtain ⟨q, hq, rfl⟩ := List.mem_map.1 h
  have := spg_small _ _ q hq
  rw [bb_size, ← ba_len]
  simpa using this
theorem spl_len (s : ByteArray) : (spl s).length ≤ s.size + 1 := by
  unfold spl
  rw [List.length_map]
  have := spg_len s.data.toList []
  rwa [ba_len] at this
theorem spl_pos (s : ByteArray) : 1 ≤ (spl s).length := by
  unfold spl
  rw [List.length_map]
  have := spg_ne s.data.toList []
  cases h : spg [] s.data.toList with
  | nil => exact absurd h this
  | cons => simp
/-! Numbers. -/
/-- In decimal. -/
def dgs (n : Nat) : List UInt8 := if n < 10 then [UInt8.ofNat (48 + n)] else if n < 100 then [UInt8.ofNat (48 + n / 10), UInt8.ofNat (48 + n % 10)] else [UInt8.ofNat (48 + n / 100), UInt8.ofNat (48 + n / 10 % 10), UInt8.ofNat (48 + n % 10)]
theorem dgs_dec (n : Nat) (h : n < 1000) : Lib.decDigits n = dgs n := by
  unfold dgs
  by_cases h1 : n < 10
  · rw [if_pos h1, Lib.decDigits_one h1]
  · rw [if_neg h1]
    by_cases h2 : n < 100
    · rw [if_pos h2, Lib.decDigits_two h1 h2]
    · rw [if_neg h2, Lib.decDigits, dif_neg h1, Lib.decDigits_two (by omega) (by omega), Nat.div_div_eq_div_mul]
      rfl
theorem dgs_atoi : ∀ n : Fin 256, Lib.atoiAll (dgs n.val) = .ok (n.val : Int) := by decide +kernel
/-- The number, 0 to 255, that a text says. -/
def numO (s : ByteArray) : Option Nat := match Lib.atoiAll s.data.toList with
  | .ok v => if 0 ≤ v ∧ v ≤ 255 ∧ dgs v.toNat = s.data.toList then some v.toNat else none
  | _ => none
theorem numO_some {s : ByteArray} {n : Nat} (h : numO s = some n) : n < 256 ∧ s.data.toList = dgs n := by
  unfold numO at h
  split at h
  · split at h
    · rename_i v _ hv
      cases h
      exact ⟨by omega, hv.2.2.symm⟩
    · cases h
  · cases h
theorem numO_dgs {s : ByteArray} {n : Nat} (hn : n < 256) (h : s.data.toList = dgs n) : numO s = some n := by
  unfold numO
  have := dgs_atoi ⟨n, hn⟩
  rw [h, this]
  dsimp only
  rw [if_pos ⟨by omega, by omega, by simp⟩]
  simp
/-! Of a text of one to three digits, as the document reads it. -/
def isD (b : UInt8) : Bool := Nat.ble 48 b.toNat && Nat.ble b.toNat 57
theorem digs1 : ∀ a : Fin 10, dgs a.val = [UInt8.ofNat (48 + a.val)] := by decide +kernel
theorem digs2 : ∀ a b : Fin 10, a.val ≠ 0 → dgs (10 * a.val + b.val) = [UInt8.ofNat (48 + a.val), UInt8.ofNat (48 + b.val)] := by decide +kernel
theorem digs3 : ∀ a b c : Fin 10, a.val ≠ 0 → dgs (100 * a.val + 10 * b.val + c.val) = [UInt8.ofNat (48 + a.val), UInt8.ofNat (48 + b.val), UInt8.ofNat (48 + c.val)] := by decide +kernel
theorem dgs_dig : ∀ n : Fin 256, (dgs n.val).all isD = true ∧ 1 ≤ (dgs n.val).length ∧ (dgs n.val).length ≤ 3 ∧ ((dgs n.val).length ≠ 1 → (dgs n.val).head? ≠ some 48) := by decide +kernel
theorem dig_of {b : UInt8} (h1 : 48 ≤ b.toNat) (h2 : b.toNat ≤ 57) : ∃ d : Fin 10, b.toNat = 48 + d.val ∧ b = UInt8.ofNat (48 + d.val) :=
  ⟨⟨b.toNat - 48, by omega⟩, by show b.toNat = 48 + (b.toNat - 48); omega, by
    show b = UInt8.ofNat (48 + (b.toNat - 48))
    rw [show 48 + (b.toNat - 48) = b.toNat by omega]
    exact (UInt8.ofNat_toNat).symm⟩
end Go.Proofs.YtieoaeidlcdggaaGreatDoor

namespace Go.Proofs.YtieoaeidlcdggaaGreatDoor
open Go Go.Ab Go.RowKit Go.Shelf
set_option linter.unusedSimpArgs false
set_option linter.unusedVariables false
set_option maxRecDepth 100000
def laySplit_ren : Go.Shelf.Ren := ⟨fun | 146 => 24 | 221 => 36 | 268 => 46 | 138 => 47 | 143 => 48 | 195 => 65 | 197 => 66 | 218 => 67 | 219 => 68 | 260 => 87 | 217 => 88 | 225 => 89 | 224 => 90 | 267 => 91 | 266 => 99 | 314 => 100 | n => n, fun | 9 => 9 | 31 => 22 | 3 => 3 | 4 => 4 | 0 => 0 | 105 => 131 | 21 => 21 | 5 => 5 | 46 => 102 | 119 => 141 | 139 => 169 | 138 => 168 | 146 => 170 | 51 => 49 | n => n, fun | 1 => 2 | 3 => 6 | 4 => 7 | n => n⟩
theorem laySplit : LaysM.n146 Tryz.prog laySplit_ren where
  mixed := by kernel_rfl
  f138 := Tryz.func47.trans (congrArg some (by kernel_rfl))
  f143 := Tryz.func48.trans (congrArg some (by kernel_rfl))
  f146 := Tryz.func24.trans (congrArg some (by kernel_rfl))
  f195 := Tryz.func65.trans (congrArg some (by kernel_rfl))
  f197 := Tryz.func66.trans (congrArg some (by kernel_rfl))
  f217 := Tryz.func88.trans (congrArg some (by kernel_rfl))
  f218 := Tryz.func67.trans (congrArg some (by kernel_rfl))
  f219 := Tryz.func68.trans (congrArg some (by kernel_rfl))
  f221 := Tryz.func36.trans (congrArg some (by kernel_rfl))
  f224 := Tryz.func90.trans (congrArg some (by kernel_rfl))
  f225 := Tryz.func89.trans (congrArg some (by kernel_rfl))
  f260 := Tryz.func87.trans (congrArg some (by kernel_rfl))
  f266 := Tryz.func99.trans (congrArg some (by kernel_rfl))
  f267 := Tryz.func91.trans (congrArg some (by kernel_rfl))
  f268 := Tryz.func46.trans (congrArg some (by kernel_rfl))
  f314 := Tryz.func100.trans (congrArg some (by kernel_rfl))
  t0 := Tryz.underlying0
  a0 := Tryz.isAgg0
  z0 := Tryz.sizeOf0
  v0 := Tryz.zeroValue0
  t3 := Tryz.underlying3
  a3 := Tryz.isAgg3
  z3 := Tryz.sizeOf3
  v3 := Tryz.zeroValue3
  t4 := Tryz.underlying4
  a4 := Tryz.isAgg4
  z4 := Tryz.sizeOf4
  v4 := Tryz.zeroValue4
  t5 := Tryz.underlying5
  a5 := Tryz.isAgg5
  z5 := Tryz.sizeOf5
  v5 := Tryz.zeroValue5
  t9 := Tryz.underlying9
  a9 := Tryz.isAgg9
  z9 := Tryz.sizeOf9
  v9 := Tryz.zeroValue9
  t21 := Tryz.underlying21
  a21 := Tryz.isAgg21
  z21 := Tryz.sizeOf21
  v21 := Tryz.zeroValue21
  t31 := Tryz.underlying22
  a31 := Tryz.isAgg22
  z31 := Tryz.sizeOf22
  v31 := Tryz.zeroValue22
  t46 := Tryz.underlying102
  a46 := Tryz.isAgg102
  z46 := Tryz.sizeOf102
  v46 := Tryz.zeroValue102
  t51 := Tryz.underlying49
  a51 := Tryz.isAgg49
  z51 := Tryz.sizeOf49
  v51 := Tryz.zeroValue49
  t105 := Tryz.underlying131
  a105 := Tryz.isAgg131
  z105 := Tryz.sizeOf131
  v105 := Tryz.zeroValue131
  t119 := Tryz.underlying141
  a119 := Tryz.isAgg141
  z119 := Tryz.sizeOf141
  t138 := Tryz.underlying168
  a138 := Tryz.isAgg168
  z138 := Tryz.sizeOf168
  v138 := Tryz.zeroValue168
  t139 := Tryz.underlying169
  a139 := Tryz.isAgg169
  z139 := Tryz.sizeOf169
  v139 := Tryz.zeroValue169
  t146 := Tryz.underlying170
  a146 := Tryz.isAgg170
  z146 := Tryz.sizeOf170
  v146 := Tryz.zeroValue170
  g1 := by kernel_rfl
  g3 := by kernel_rfl
  g4 := by kernel_rfl
  i0 := by kernel_rfl
  i3 := by kernel_rfl
  i4 := by kernel_rfl
  i5 := by kernel_rfl
  i9 := by kernel_rfl
  i21 := by kernel_rfl
  i31 := by kernel_rfl
  i46 := by kernel_rfl
  i51 := by kernel_rfl
  i105 := by kernel_rfl
  i138 := by kernel_rfl
  i139 := by kernel_rfl
  i146 := by kernel_rfl
  m1 := by kernel_rfl
  s1_3 := fun w h => cell_of_shapedOpen_int h (of_decide_eq_true (Eq.refl true)) (Eq.refl (some (#[Value.int IntKind.i64 0], 3))) rfl (Eq.refl true) (Eq.refl (some [3])) Tryz.underlying3
  m3 := by kernel_rfl
  m4 := by kernel_rfl
def layAtoi_ren : Go.Shelf.Ren := ⟨fun | 172 => 37 | 244 => 49 | 245 => 50 | 247 => 69 | 279 => 70 | 280 => 71 | 281 => 72 | 282 => 73 | 287 => 92 | 316 => 93 | 171 => 32 | 205 => 94 | 321 => 101 | 322 => 102 | 243 => 43 | 246 => 60 | 283 => 56 | 284 => 57 | 285 => 58 | 286 => 59 | 129 => 79 | 317 => 78 | 318 => 80 | 319 => 81 | 320 => 82 | 337 => 97 | 338 => 98 | n => n, fun | 9 => 9 | 3 => 3 | 75 => 95 | 76 => 96 | 4 => 4 | 5 => 5 | 167 => 134 | 37 => 26 | 0 => 0 | 85 => 135 | 2 => 2 | 168 => 137 | 53 => 61 | 175 => 153 | 46 => 102 | 210 => 157 | 127 => 140 | 145 => 176 | 143 => 174 | 21 => 21 | 171 => 119 | 173 => 122 | 212 => 147 | 51 => 49 | 20 => 20 | 213 => 148 | 232 => 187 | 233 => 188 | 80 => 112 | n => n, fun | 15 => 3 | 16 => 4 | 17 => 1 | 18 => 8 | 19 => 9 | n => n⟩
theorem layAtoi : LaysC.n172 Tryz.prog layAtoi_ren where
  mixed := by kernel_rfl
  f129 := Tryz.func79.trans (congrArg some (by kernel_rfl))
  f171 := Tryz.func32.trans (congrArg some (by kernel_rfl))
  f172 := Tryz.func37.trans (congrArg some (by kernel_rfl))
  f205 := Tryz.func94.trans (congrArg some (by kernel_rfl))
  f243 := Tryz.func43.trans (congrArg some (by kernel_rfl))
  f244 := Tryz.func49.trans (congrArg some (by kernel_rfl))
  f245 := Tryz.func50.trans (congrArg some (by kernel_rfl))
  f246 := Tryz.func60.trans (congrArg some (by kernel_rfl))
  f247 := Tryz.func69.trans (congrArg some (by kernel_rfl))
  f279 := Tryz.func70.trans (congrArg some (by kernel_rfl))
  f280 := Tryz.func71.trans (congrArg some (by kernel_rfl))
  f281 := Tryz.func72.trans (congrArg some (by kernel_rfl))
  f282 := Tryz.func73.trans (congrArg some (by kernel_rfl))
  f283 := Tryz.func56.trans (congrArg some (by kernel_rfl))
  f284 := Tryz.func57.trans (congrArg some (by kernel_rfl))
  f285 := Tryz.func58.trans (congrArg some (by kernel_rfl))
  f286 := Tryz.func59.trans (congrArg some (by kernel_rfl))
  f287 := Tryz.func92.trans (congrArg some (by kernel_rfl))
  f316 := Tryz.func93.trans (congrArg some (by kernel_rfl))
  f317 := Tryz.func78.trans (congrArg some (by kernel_rfl))
  f318 := Tryz.func80.trans (congrArg some (by kernel_rfl))
  f319 := Tryz.func81.trans (congrArg some (by kernel_rfl))
  f320 := Tryz.func82.trans (congrArg some (by kernel_rfl))
  f321 := Tryz.func101.trans (congrArg some (by kernel_rfl))
  f322 := Tryz.func102.trans (congrArg some (by kernel_rfl))
  f337 := Tryz.func97.trans (congrArg some (by kernel_rfl))
  f338 := Tryz.func98.trans (congrArg some (by kernel_rfl))
  t0 := Tryz.underlying0
  a0 := Tryz.isAgg0
  z0 := Tryz.sizeOf0
  v0 := Tryz.zeroValue0
  t2 := Tryz.underlying2
  a2 := Tryz.isAgg2
  z2 := Tryz.sizeOf2
  v2 := Tryz.zeroValue2
  t3 := Tryz.underlying3
  a3 := Tryz.isAgg3
  z3 := Tryz.sizeOf3
  v3 := Tryz.zeroValue3
  t4 := Tryz.underlying4
  a4 := Tryz.isAgg4
  z4 := Tryz.sizeOf4
  v4 := Tryz.zeroValue4
  t5 := Tryz.underlying5
  a5 := Tryz.isAgg5
  z5 := Tryz.sizeOf5
  v5 := Tryz.zeroValue5
  t9 := Tryz.underlying9
  a9 := Tryz.isAgg9
  z9 := Tryz.sizeOf9
  v9 := Tryz.zeroValue9
  t20 := Tryz.underlying20
  a20 := Tryz.isAgg20
  z20 := Tryz.sizeOf20
  v20 := Tryz.zeroValue20
  t21 := Tryz.underlying21
  a21 := Tryz.isAgg21
  z21 := Tryz.sizeOf21
  v21 := Tryz.zeroValue21
  t37 := Tryz.underlying26
  a37 := Tryz.isAgg26
  z37 := Tryz.sizeOf26
  v37 := Tryz.zeroValue26
  t46 := Tryz.underlying102
  a46 := Tryz.isAgg102
  z46 := Tryz.sizeOf102
  v46 := Tryz.zeroValue102
  t51 := Tryz.underlying49
  a51 := Tryz.isAgg49
  z51 := Tryz.sizeOf49
  v51 := Tryz.zeroValue49
  t53 := Tryz.underlying61
  a53 := Tryz.isAgg61
  z53 := Tryz.sizeOf61
  v53 := Tryz.zeroValue61
  t75 := Tryz.underlying95
  a75 := Tryz.isAgg95
  z75 := Tryz.sizeOf95
  v75 := Tryz.zeroValue95
  t76 := Tryz.underlying96
  a76 := Tryz.isAgg96
  z76 := Tryz.sizeOf96
  v76 := Tryz.zeroValue96
  t85 := Tryz.underlying135
  a85 := Tryz.isAgg135
  z85 := Tryz.sizeOf135
  v85 := Tryz.zeroValue135
  t127 := Tryz.underlying140
  a127 := Tryz.isAgg140
  z127 := Tryz.sizeOf140
  v127 := Tryz.zeroValue140
  t143 := Tryz.underlying174
  a143 := Tryz.isAgg174
  z143 := Tryz.sizeOf174
  v143 := Tryz.zeroValue174
  t145 := Tryz.underlying176
  a145 := Tryz.isAgg176
  z145 := Tryz.sizeOf176
  v145 := Tryz.zeroValue176
  t167 := Tryz.underlying134
  a167 := Tryz.isAgg134
  z167 := Tryz.sizeOf134
  v167 := Tryz.zeroValue134
  t168 := Tryz.underlying137
  a168 := Tryz.isAgg137
  z168 := Tryz.sizeOf137
  v168 := Tryz.zeroValue137
  t171 := Tryz.underlying119
  a171 := Tryz.isAgg119
  z171 := Tryz.sizeOf119
  v171 := Tryz.zeroValue119
  t173 := Tryz.underlying122
  a173 := Tryz.isAgg122
  z173 := Tryz.sizeOf122
  v173 := Tryz.zeroValue122
  t175 := Tryz.underlying153
  a175 := Tryz.isAgg153
  z175 := Tryz.sizeOf153
  v175 := Tryz.zeroValue153
  t210 := Tryz.underlying157
  a210 := Tryz.isAgg157
  z210 := Tryz.sizeOf157
  v210 := Tryz.zeroValue157
  t212 := Tryz.underlying147
  a212 := Tryz.isAgg147
  z212 := Tryz.sizeOf147
  v212 := Tryz.zeroValue147
  t213 := Tryz.underlying148
  a213 := Tryz.isAgg148
  z213 := Tryz.sizeOf148
  t232 := Tryz.underlying187
  a232 := Tryz.isAgg187
  z232 := Tryz.sizeOf187
  v232 := Tryz.zeroValue187
  t233 := Tryz.underlying188
  a233 := Tryz.isAgg188
  z233 := Tryz.sizeOf188
  v233 := Tryz.zeroValue188
  g15 := by kernel_rfl
  g16 := by kernel_rfl
  g17 := by kernel_rfl
  g18 := by kernel_rfl
  g19 := by kernel_rfl
  t80 := Tryz.underlying112
  a80 := Tryz.isAgg112
  z80 := Tryz.sizeOf112
  v80 := Tryz.zeroValue112
  i0 := by kernel_rfl
  i2 := by kernel_rfl
  i3 := by kernel_rfl
  i4 := by kernel_rfl
  i5 := by kernel_rfl
  i9 := by kernel_rfl
  i20 := by kernel_rfl
  i21 := by kernel_rfl
  i37 := by kernel_rfl
  i46 := by kernel_rfl
  i51 := by kernel_rfl
  i53 := by kernel_rfl
  i75 := by kernel_rfl
  i76 := by kernel_rfl
  i80 := by kernel_rfl
  i85 := by kernel_rfl
  i127 := by kernel_rfl
  i143 := by kernel_rfl
  i145 := by kernel_rfl
  i167 := by kernel_rfl
  i168 := by kernel_rfl
  i171 := by kernel_rfl
  i173 := by kernel_rfl
  i175 := by kernel_rfl
  i210 := by kernel_rfl
  i212 := by kernel_rfl
  i232 := by kernel_rfl
  i233 := by kernel_rfl
  m15 := by kernel_rfl
  m16 := by kernel_rfl
  m17 := by kernel_rfl
  m18 := by kernel_rfl
  m19 := by kernel_rfl
  c0 := by kernel_rfl
  c2 := by kernel_rfl
  c3 := by kernel_rfl
  c4 := by kernel_rfl
  c5 := by kernel_rfl
  c9 := by kernel_rfl
  c20 := by kernel_rfl
  c21 := by kernel_rfl
  c37 := by kernel_rfl
  c46 := by kernel_rfl
  c51 := by kernel_rfl
  c53 := by kernel_rfl
  c75 := by kernel_rfl
  c76 := by kernel_rfl
  c80 := by kernel_rfl
  c85 := by kernel_rfl
  c127 := by kernel_rfl
  c143 := by kernel_rfl
  c145 := by kernel_rfl
  c167 := by kernel_rfl
  c168 := by kernel_rfl
  c171 := by kernel_rfl
  c173 := by kernel_rfl
  c175 := by kernel_rfl
  c210 := by kernel_rfl
  c212 := by kernel_rfl
  c213 := by kernel_rfl
  c232 := by kernel_rfl
  c233 := by kernel_rfl
def layItoa_ren : Go.Shelf.Ren := ⟨fun | 171 => 32 | 243 => 43 | 246 => 60 | 283 => 56 | 284 => 57 | 285 => 58 | 286 => 59 | 129 => 79 | 317 => 78 | 318 => 80 | 319 => 81 | 320 => 82 | 337 => 97 | 338 => 98 | n => n, fun | 3 => 3 | 9 => 9 | 2 => 2 | 4 => 4 | 171 => 119 | 0 => 0 | 53 => 61 | 37 => 26 | 5 => 5 | 173 => 122 | 212 => 147 | 51 => 49 | 20 => 20 | 213 => 148 | 46 => 102 | 232 => 187 | 233 => 188 | n => n, fun | 17 => 1 | 18 => 8 | 19 => 9 | n => n⟩
theorem layItoa : LaysM.n171 Tryz.prog layItoa_ren where
  mixed := by kernel_rfl
  f129 := Tryz.func79.trans (congrArg some (by kernel_rfl))
  f171 := Tryz.func32.trans (congrArg some (by kernel_rfl))
  f243 := Tryz.func43.trans (congrArg some (by kernel_rfl))
  f246 := Tryz.func60.trans (congrArg some (by kernel_rfl))
  f283 := Tryz.func56.trans (congrArg some (by kernel_rfl))
  f284 := Tryz.func57.trans (congrArg some (by kernel_rfl))
  f285 := Tryz.func58.trans (congrArg some (by kernel_rfl))
  f286 := Tryz.func59.trans (congrArg some (by kernel_rfl))
  f317 := Tryz.func78.trans (congrArg some (by kernel_rfl))
  f318 := Tryz.func80.trans (congrArg some (by kernel_rfl))
  f319 := Tryz.func81.trans (congrArg some (by kernel_rfl))
  f320 := Tryz.func82.trans (congrArg some (by kernel_rfl))
  f337 := Tryz.func97.trans (congrArg some (by kernel_rfl))
  f338 := Tryz.func98.trans (congrArg some (by kernel_rfl))
  t0 := Tryz.underlying0
  a0 := Tryz.isAgg0
  z0 := Tryz.sizeOf0
  v0 := Tryz.zeroValue0
  t2 := Tryz.underlying2
  a2 := Tryz.isAgg2
  z2 := Tryz.sizeOf2
  v2 := Tryz.zeroValue2
  t3 := Tryz.underlying3
  a3 := Tryz.isAgg3
  z3 := Tryz.sizeOf3
  v3 := Tryz.zeroValue3
  t4 := Tryz.underlying4
  a4 := Tryz.isAgg4
  z4 := Tryz.sizeOf4
  v4 := Tryz.zeroValue4
  t5 := Tryz.underlying5
  a5 := Tryz.isAgg5
  z5 := Tryz.sizeOf5
  v5 := Tryz.zeroValue5
  t9 := Tryz.underlying9
  a9 := Tryz.isAgg9
  z9 := Tryz.sizeOf9
  v9 := Tryz.zeroValue9
  t20 := Tryz.underlying20
  a20 := Tryz.isAgg20
  z20 := Tryz.sizeOf20
  v20 := Tryz.zeroValue20
  t37 := Tryz.underlying26
  a37 := Tryz.isAgg26
  z37 := Tryz.sizeOf26
  v37 := Tryz.zeroValue26
  t46 := Tryz.underlying102
  a46 := Tryz.isAgg102
  z46 := Tryz.sizeOf102
  v46 := Tryz.zeroValue102
  t51 := Tryz.underlying49
  a51 := Tryz.isAgg49
  z51 := Tryz.sizeOf49
  v51 := Tryz.zeroValue49
  t53 := Tryz.underlying61
  a53 := Tryz.isAgg61
  z53 := Tryz.sizeOf61
  v53 := Tryz.zeroValue61
  t171 := Tryz.underlying119
  a171 := Tryz.isAgg119
  z171 := Tryz.sizeOf119
  v171 := Tryz.zeroValue119
  t173 := Tryz.underlying122
  a173 := Tryz.isAgg122
  z173 := Tryz.sizeOf122
  v173 := Tryz.zeroValue122
  t212 := Tryz.underlying147
  a212 := Tryz.isAgg147
  z212 := Tryz.sizeOf147
  v212 := Tryz.zeroValue147
  t213 := Tryz.underlying148
  a213 := Tryz.isAgg148
  z213 := Tryz.sizeOf148
  t232 := Tryz.underlying187
  a232 := Tryz.isAgg187
  z232 := Tryz.sizeOf187
  v232 := Tryz.zeroValue187
  t233 := Tryz.underlying188
  a233 := Tryz.isAgg188
  z233 := Tryz.sizeOf188
  v233 := Tryz.zeroValue188
  g17 := by kernel_rfl
  g18 := by kernel_rfl
  g19 := by kernel_rfl
  i0 := by kernel_rfl
  i2 := by kernel_rfl
  i3 := by kernel_rfl
  i4 := by kernel_rfl
  i5 := by kernel_rfl
  i9 := by kernel_rfl
  i20 := by kernel_rfl
  i37 := by kernel_rfl
  i46 := by kernel_rfl
  i51 := by kernel_rfl
  i53 := by kernel_rfl
  i171 := by kernel_rfl
  i173 := by kernel_rfl
  i212 := by kernel_rfl
  i232 := by kernel_rfl
  i233 := by kernel_rfl
  m17 := by kernel_rfl
  m18 := by kernel_rfl
  m19 := by kernel_rfl
def layWB_ren : Go.Shelf.Ren := ⟨fun | 167 => 51 | 240 => 74 | 276 => 95 | 169 => 52 | n => n, fun | 0 => 0 | 4 => 4 | 5 => 5 | 9 => 9 | 20 => 20 | 37 => 26 | 70 => 108 | 72 => 110 | 75 => 95 | 164 => 159 | 127 => 140 | 3 => 3 | 80 => 112 | n => n, fun n => n⟩
theorem layWB : Lays.n167 Tryz.prog layWB_ren where
  mixed := by kernel_rfl
  f167 := Tryz.func51.trans (congrArg some (by kernel_rfl))
  f240 := Tryz.func74.trans (congrArg some (by kernel_rfl))
  f276 := Tryz.func95.trans (congrArg some (by kernel_rfl))
  t0 := Tryz.underlying0
  a0 := Tryz.isAgg0
  z0 := Tryz.sizeOf0
  v0 := Tryz.zeroValue0
  t4 := Tryz.underlying4
  a4 := Tryz.isAgg4
  z4 := Tryz.sizeOf4
  v4 := Tryz.zeroValue4
  t5 := Tryz.underlying5
  a5 := Tryz.isAgg5
  z5 := Tryz.sizeOf5
  v5 := Tryz.zeroValue5
  t9 := Tryz.underlying9
  a9 := Tryz.isAgg9
  z9 := Tryz.sizeOf9
  v9 := Tryz.zeroValue9
  t20 := Tryz.underlying20
  a20 := Tryz.isAgg20
  z20 := Tryz.sizeOf20
  v20 := Tryz.zeroValue20
  t37 := Tryz.underlying26
  a37 := Tryz.isAgg26
  z37 := Tryz.sizeOf26
  v37 := Tryz.zeroValue26
  t70 := Tryz.underlying108
  a70 := Tryz.isAgg108
  z70 := Tryz.sizeOf108
  v70 := Tryz.zeroValue108
  t72 := Tryz.underlying110
  a72 := Tryz.isAgg110
  z72 := Tryz.sizeOf110
  v72 := Tryz.zeroValue110
  t75 := Tryz.underlying95
  a75 := Tryz.isAgg95
  z75 := Tryz.sizeOf95
  v75 := Tryz.zeroValue95
  t164 := Tryz.underlying159
  a164 := Tryz.isAgg159
  z164 := Tryz.sizeOf159
  v164 := Tryz.zeroValue159
theorem layStr : Lays.n169 Tryz.prog layWB_ren where
  mixed := by kernel_rfl
  f169 := Tryz.func52.trans (congrArg some (by kernel_rfl))
  t0 := Tryz.underlying0
  a0 := Tryz.isAgg0
  z0 := Tryz.sizeOf0
  v0 := Tryz.zeroValue0
  t3 := Tryz.underlying3
  a3 := Tryz.isAgg3
  z3 := Tryz.sizeOf3
  v3 := Tryz.zeroValue3
  t9 := Tryz.underlying9
  a9 := Tryz.isAgg9
  z9 := Tryz.sizeOf9
  v9 := Tryz.zeroValue9
  t37 := Tryz.underlying26
  a37 := Tryz.isAgg26
  z37 := Tryz.sizeOf26
  v37 := Tryz.zeroValue26
  t70 := Tryz.underlying108
  a70 := Tryz.isAgg108
  z70 := Tryz.sizeOf108
  v70 := Tryz.zeroValue108
  t72 := Tryz.underlying110
  a72 := Tryz.isAgg110
  z72 := Tryz.sizeOf110
  v72 := Tryz.zeroValue110
  t127 := Tryz.underlying140
  a127 := Tryz.isAgg140
  z127 := Tryz.sizeOf140
  v127 := Tryz.zeroValue140
theorem extraB : Builder.Extra Tryz.prog layWB_ren where
  sizeBuilder := by kernel_rfl
  liesBuilder := by kernel_rfl
  t5 := Tryz.underlying5
  a5 := Tryz.isAgg5
  z5 := Tryz.sizeOf5
  v5 := Tryz.zeroValue5
  infoByte := by kernel_rfl
  cellsByte := by kernel_rfl
  sizeByte := by kernel_rfl
  neB5 := by decide
/-! What the variables hold. -/
theorem g_max {w : World} (h : GOk (OldB w) w) : ∃ m, w.cell? ⟨2, 0, none⟩ = some (.int .i64 m) := (h.2 2 _ rfl).2
theorem g_syn {w : World} (h : GOk (OldB w) w) : ∃ ev, w.cell? ⟨3, 0, none⟩ = some ev ∧ ∃ t p, ev = .iface t p := by
  obtain ⟨t, p, hc⟩ := (h.2 4 _ rfl).2
  obtain ⟨t, p, hc⟩ := (h.2 3 _ rfl).2
  exact ⟨_, hc, t, p, rfl⟩
theorem g_ran {w : World} (h : GOk (OldB w) w) : ∃ ev, w.cell? ⟨4, 0, none⟩ = some ev ∧ ∃ t p, ev = .iface t p := by
  obtain ⟨t, p, hc⟩ := (h.2 4 _ rfl).2
  exact ⟨_, hc, t, p, rfl⟩
theorem g_pow {w : World} (h : GOk (OldB w) w) : Lib.TabIs Tryz.prog w "internal/strconv.uint64pow10" .u64 Lib.pow10Tab := by
  obtain ⟨t, f, hc⟩ := (h.2 1 _ rfl).2
  unfold Lib.TabIs World.var?
  rw [show Tryz.prog.globalNamed "internal/strconv.uint64pow10" = some 1 by kernel_rfl]
  simp only [Option.bind_some, hc]
  rfl
theorem split_calls (s : ByteArray) (hs : s.size ≤ 1000000) (w : World) (hG : GOk (OldB w) w) : Calls Tryz.prog 24 #[.string s, .string ⟨#[32]⟩] w fun e w' => e = .returned (.slice (some ⟨w.heap.size, 0, none⟩) (spl s).length (spl s).length) ∧ w' = w.alloc (.cells ((spl s).map Value.string).toArray 9) := by
  obtain ⟨m, hm⟩ := g_max hG
  have h := Any.strings_Split { laySplit with } laySplit.i9 s ⟨#[32]⟩ m w (by omega) hm (by decide)
  have e : Lib.countB s ⟨#[32]⟩ + 1 = (spl s).length := by rw [← splitB_spl]; exact (Lib.splitB_all ⟨#[32]⟩ (by decide) 0 _ s rfl).symm
  rw [splitB_spl, e] at h
  exact h
theorem ownsRow_new {w : World} {t : TypeId} {us : List Value} {k : Nat} (hk : us.length = k) (hm : k ≤ 1000001) : (w.alloc (.cells us.toArray t)).ownsRow w.heap.size t 1 (.slice (some ⟨w.heap.size, 0, none⟩) k k) k us :=
  ⟨by omega, .inr ⟨_, k, us.toArray, rfl, Nat.le_refl _, World.alloc_heap_new _ _, Nat.le_refl _, Nat.le_trans hm (by decide), by simp [hk], by simp [← hk]⟩⟩
theorem con_split (s : ByteArray) (hs : s.size ≤ 1000000) : Con Tryz.prog 24 [] [strV s, strV ⟨#[32]⟩] [(5, ⟨(spl s).map strV, true, 0, some (9, 1)⟩)] (.sl 5 0 (spl s).length) := by
  have e : (spl s).map strV = ((spl s).map Value.string).map V.val := by rw [List.map_map]; rfl
  rw [e]
  refine Con.of_row ⟨_, Tryz.func24, by kernel_rfl, by kernel_rfl⟩ (by decide) (fun x hx => ?_) (by simp) fun w us hu hg => ?_
  · obtain ⟨y, _, rfl⟩ := List.mem_map.1 hx
    rfl
  · cases hu with
    | cons h1 h2 =>
      cases h2 with
      | cons h3 h4 =>
        cases h4
        cases h1
        cases h3
        refine (split_calls s hs w hg).mono ?_
        rintro e w' ⟨rfl, rfl⟩
        exact ⟨_, rfl, ownsRow_new (by simp) (by have := spl_len s; omega), (Below.refl _ w).alloc (Nat.le_refl _) _⟩
/-- The byte beside a number. -/
def nbO (s : ByteArray) : Int := IntKind.u8.wrap (match Lib.atoiAll s.data.toList with | .ok v => v | .range => Lib.atoiSat s.data.toList | _ => 0)
theorem nbO_some {s : ByteArray} {n : Nat} (h : numO s = some n) : nbO s = n := by
  have hd := numO_some h
  have := dgs_atoi ⟨n, hd.1⟩
  unfold nbO
  rw [hd.2, this]
  show IntKind.u8.wrap (n : Int) = n
  have := hd.1
  simp [IntKind.wrap, IntKind.signed, IntKind.bits]
  omega
theorem below_grow (w : World) : ∀ (k : Nat) (os : Array Obj), Below w.heap.size w (Go.Sort.grow (w.drewN k) os) := fun k os => by
  have hh : (w.drewN k).heap = w.heap := by cases k <;> rfl
  refine ⟨by cases k <;> rfl, by cases k <;> rfl, by cases k <;> rfl, ?_, fun j hj => ?_⟩
  · simp [Go.Sort.grow, hh]
  · simp [Go.Sort.grow, hh, Array.getElem?_append, hj]
theorem itoa_calls (n : Nat) (hn : n < 256) (w : World) (hp : Lib.TabIs Tryz.prog w "internal/strconv.uint64pow10" .u64 Lib.pow10Tab) : Calls Tryz.prog 32 #[.int .i64 (n : Int)] w fun e w' => e = .returned (.string (bb (dgs n))) ∧ Below w.heap.size w w' := by
  refine (Any.strconv_Itoa layItoa (n : Int) (by omega) (by omega) w hp).mono ?_
  rintro e w' ⟨rfl, k, os, rfl⟩
  refine ⟨?_, ?_⟩
  · unfold Lib.itoa bb
    rw [if_neg (by omega), show ((n : Int)).toNat = n by omega, dgs_dec n (by omega)]
  · exact below_grow _ _ _
end Go.Proofs.YtieoaeidlcdggaaGreatDoor

namespace Go.Proofs.YtieoaeidlcdggaaGreatDoor
open Go Go.Ab Go.RowKit Go.Shelf
set_option linter.unusedSimpArgs false
set_option linter.unusedVariables false
set_option maxRecDepth 100000
set_option maxHeartbeats 4000000
theorem numO_ok {s : ByteArray} {v : Int} (h : Lib.atoiAll s.data.toList = .ok v) : numO s = if 0 ≤ v ∧ v ≤ 255 ∧ dgs v.toNat = s.data.toList then some v.toNat else none := by
  unfold numO
  rw [h]
def NumPost (w : World) (x : Int) (b : Bool) (e : Ending) (w' : World) : Prop := e = .returned (.tuple #[.int .u8 x, .bool b]) ∧ Below w.heap.size w w'
theorem bytesW {w w1 : World} {t : TypeId} (h : w1 = w ∨ ∃ z, w1 = Lib.bytesWorld w t z) : Below w.heap.size w w1 := by
  rcases h with rfl | ⟨z, rfl⟩
  · exact Below.refl _ _
  · exact Lib.bytesWorld_below _ _ _
theorem tabB {P : Program} {w w1 : World} {name : String} {k : IntKind} {zs : List Int} (h : Lib.TabIs P w name k zs) (hb : Below w.heap.size w w1) : Lib.TabIs P w1 name k zs := by
  unfold Lib.TabIs World.var? at h ⊢
  cases hg : P.globalNamed name with
  | none => rw [hg] at h; cases h
  | some g =>
    rw [hg] at h
    simp only [Option.bind_some] at h ⊢
    cases ho : w.heap[g]? with
    | none => rw [ho] at h; cases h
    | some o =>
      rw [hb.block g (Array.getElem?_eq_some_iff.1 ho).1]
      exact h
theorem number_in (s : ByteArray) (hs : s.size ≤ 1000000) (n : Nat) (hn : n < 256) (h : Lib.atoiAll s.data.toList = .ok (n : Int)) (w : World) (hp : Lib.TabIs Tryz.prog w "internal/strconv.uint64pow10" .u64 Lib.pow10Tab) :
    Calls Tryz.prog 25 #[.string s] w (NumPost w n ((bb (dgs n)).toList == s.toList)) := by
  go_enter Tryz.func25, Tryz.ntmps25
  go_wp2_with (first
    | (go_at_call 37; refine (Any.strconv_Atoi_ok layAtoi s (by omega) (n : Int) h _).mono ?_; rintro e w1 ⟨rfl, hw1⟩; have hb1 := bytesW hw1; clear hw1; have hp1 := tabB hp hb1)
    | (go_at_call 32; refine (itoa_calls n hn _ hp1).mono ?_; rintro e w2 ⟨rfl, hb2⟩))
  go_ret2
  exact ⟨rfl, hb1.trans (hb2.mono hb1.size)⟩
theorem number_out (s : ByteArray) (hs : s.size ≤ 1000000) (v : Int) (hv : v < 0 ∨ 255 < v) (h : Lib.atoiAll s.data.toList = .ok v) (w : World) :
    Calls Tryz.prog 25 #[.string s] w (NumPost w (v % 256) false) := by
  go_enter Tryz.func25, Tryz.ntmps25
  rcases hv with hv | hv
  · have h1 : ¬ 0 ≤ v := by omega
    go_wp2_with (go_at_call 37; refine (Any.strconv_Atoi_ok layAtoi s (by omega) v h _).mono ?_; rintro e w1 ⟨rfl, hw1⟩; have hb1 := bytesW hw1; clear hw1)
    go_ret2
    exact ⟨rfl, hb1⟩
  · have h1 : 0 ≤ v := by omega
    have h2 : ¬ v ≤ 255 := by omega
    go_wp2_with (go_at_call 37; refine (Any.strconv_Atoi_ok layAtoi s (by omega) v h _).mono ?_; rintro e w1 ⟨rfl, hw1⟩; have hb1 := bytesW hw1; clear hw1)
    go_ret2
    exact ⟨rfl, hb1⟩
/-- It is no number, nor one too great. -/
def isNone (s : ByteArray) : Bool := match Lib.atoiAll s.data.toList with | .ok _ => false | .range => false | _ => true
theorem number_bad (s : ByteArray) (hs : s.size ≤ 1000000) (v : Int) (h : isNone s = true ∧ v = 0 ∨ Lib.atoiAll s.data.toList = .range ∧ v = Lib.atoiSat s.data.toList) (w : World) (hG : GOk (OldB w) w) :
    Calls Tryz.prog 25 #[.string s] w (NumPost w (v % 256) false) := by
  go_enter Tryz.func25, Tryz.ntmps25
  rcases h with ⟨h, rfl⟩ | ⟨h, rfl⟩
  · obtain ⟨ev, hv, te, pe, hev⟩ := g_syn hG
    go_wp2_with (go_at_call 37; refine (Any.strconv_Atoi_syntax layAtoi s (by omega) (by unfold isNone at h; revert h; rcases Lib.atoiAll s.data.toList with v | _ | _ <;> intro h <;> first | rfl | cases h) ev _ hv (.inr ⟨te, pe, hev⟩)).mono ?_; rintro e w1 ⟨N, rfl, hN, hNh, hb1⟩)
    go_ret2
    exact ⟨rfl, hb1⟩
  · obtain ⟨ev, hv, te, pe, hev⟩ := g_ran hG
    go_wp2_with (go_at_call 37; refine (Any.strconv_Atoi_range layAtoi s (by omega) h ev _ hv (.inr ⟨te, pe, hev⟩)).mono ?_; rintro e w1 ⟨N, rfl, hN, hNh, hb1⟩)
    go_ret2
    exact ⟨rfl, hb1⟩
theorem wrap8 (v : Int) : IntKind.u8.wrap v = v % 256 := by simp [IntKind.wrap, IntKind.signed, IntKind.bits]
theorem number_calls (s : ByteArray) (hs : s.size ≤ 1000000) (w : World) (hG : GOk (OldB w) w) : Calls Tryz.prog 25 #[.string s] w fun e w' => e = .returned (.tuple #[.int .u8 (nbO s), .bool (numO s).isSome]) ∧ Below w.heap.size w w' := by
  have hp := g_pow hG
  show Calls Tryz.prog 25 #[.string s] w (NumPost w (nbO s) (numO s).isSome)
  rcases h : Lib.atoiAll s.data.toList with v | _ | _
  · have hnb : nbO s = v % 256 := by unfold nbO; rw [h]; exact wrap8 v
    have hno := numO_ok h
    by_cases hv : v < 0 ∨ 255 < v
    · rw [hnb, hno, if_neg (by omega)]
      exact number_out s hs v hv h w
    · obtain ⟨n, rfl⟩ : ∃ n : Nat, v = n := ⟨v.toNat, by omega⟩
      have hn : n < 256 := by omega
      have e2 : (numO s).isSome = ((bb (dgs n)).toList == s.toList) := by
        rw [hno, Go.ByteArray.toList_eq, Go.ByteArray.toList_eq, bb_list]
        by_cases hd : dgs n = s.data.toList
        · rw [if_pos ⟨by omega, by omega, by simpa using hd⟩]
          simp [hd]
        · rw [if_neg (fun h => hd (by simpa using h.2.2))]
          simp [hd]
      rw [hnb, e2, show (n : Int) % 256 = n by omega]
      exact number_in s hs n hn h w hp
  · have hnb : nbO s = 0 % 256 := by unfold nbO; rw [h]; exact wrap8 0
    have hno : numO s = none := by unfold numO; rw [h]
    rw [hnb, hno]
    exact number_bad s hs 0 (.inl ⟨(by unfold isNone; rw [h]), rfl⟩) w hG
  · have hnb : nbO s = Lib.atoiSat s.data.toList % 256 := by unfold nbO; rw [h]; exact wrap8 _
    have hno : numO s = none := by unfold numO; rw [h]
    rw [hnb, hno]
    exact number_bad s hs _ (.inr ⟨h, rfl⟩) w hG
theorem con_number (s : ByteArray) (hs : s.size ≤ 1000000) : Con Tryz.prog 25 [] [strV s] [] (.tup [u8 (nbO s), vb (numO s).isSome]) := by
  refine Con.of_belowR (v := .tuple #[.int .u8 (nbO s), .bool (numO s).isSome]) ⟨_, Tryz.func25, by kernel_rfl, by kernel_rfl⟩ (fun I w φ => ?_) fun w us hu hg => ?_
  · refine .tup (by simp) (fun i hi => ?_)
    rcases i with _ | _ | i
    · exact .val rfl
    · exact .val rfl
    · simp at hi; omega
  · cases hu with
    | cons h1 h2 =>
      cases h2
      cases h1
      exact number_calls s hs w hg
theorem con_itoa (n : Nat) (hn : n < 256) : Con Tryz.prog 32 [] [i64 (n : Int)] [] (strV (bb (dgs n))) := by
  refine Con.of_below ⟨_, Tryz.func32, by kernel_rfl, by kernel_rfl⟩ rfl fun w us hu hg => ?_
  cases hu with
  | cons h1 h2 =>
    cases h2
    cases h1
    exact itoa_calls n hn w (g_pow hg)
end Go.Proofs.YtieoaeidlcdggaaGreatDoor
