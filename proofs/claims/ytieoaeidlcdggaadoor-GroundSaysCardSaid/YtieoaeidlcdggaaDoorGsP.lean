/- What is said by a phrase is the command that has it. -/
import Derived.Test.YtieoaeidlcdggaaDoorGsO
namespace Go.Proofs.YtieoaeidlcdggaaDoor
open Go Go.Ab
set_option linter.unusedSimpArgs false
set_option linter.unusedVariables false
set_option maxRecDepth 100000
theorem spg_app : ∀ (l cur r : List UInt8), (∀ b ∈ l, b ≠ 32) → spg cur (l ++ r) = spg (cur ++ l) r
  | [], cur, r, _ => by simp
  | b :: l, cur, r, h => by
    rw [List.cons_append, spg, if_neg (h b (by simp)), spg_app l _ r (fun x hx => h x (by simp [hx]))]
    simp
theorem dgs_ne32 : ∀ n : Fin 256, ∀ b ∈ dgs n.val, b ≠ 32 := by decide +kernel
theorem spd_list (nm : ByteArray) : ∀ l : List Int, (spd nm l).data.toList = nm.data.toList ++ l.flatMap fun n => 32 :: dgs n.toNat := by
  intro l
  suffices h : ∀ (l : List Int) (nm : ByteArray), (l.foldl (fun a n => a ++ ((⟨#[32]⟩ : ByteArray) ++ bb (dgs n.toNat))) nm).data.toList = nm.data.toList ++ l.flatMap fun n => 32 :: dgs n.toNat from h l nm
  intro l
  induction l with
  | nil => intro nm; simp
  | cons x r ih =>
    intro nm
    rw [List.foldl_cons, ih]
    have e : (nm ++ ((⟨#[32]⟩ : ByteArray) ++ bb (dgs x.toNat))).data.toList = nm.data.toList ++ (32 :: dgs x.toNat) := by
      rw [ByteArray.data_append, ByteArray.data_append, Array.toList_append, Array.toList_append]
      rfl
    rw [e, List.flatMap_cons, List.append_assoc]
theorem spg_nums : ∀ (l : List Int) (cur : List UInt8), (∀ x ∈ l, 0 ≤ x ∧ x < 256) → spg cur (l.flatMap fun n => 32 :: dgs n.toNat) = cur :: l.map fun n => dgs n.toNat
  | [], cur, _ => rfl
  | x :: r, cur, h => by
    rw [List.flatMap_cons, List.cons_append, spg, if_pos rfl]
    have hx := h x (by simp)
    rw [spg_app _ _ _ (dgs_ne32 ⟨x.toNat, by omega⟩), List.nil_append, spg_nums r _ (fun y hy => h y (by simp [hy]))]
    rfl
theorem numsO_dgs : ∀ l : List Int, (∀ x ∈ l, 0 ≤ x ∧ x < 256) → numsO ((l.map fun n => dgs n.toNat).map bb) = some l
  | [], _ => rfl
  | x :: r, h => by
    have hx := h x (by simp)
    rw [List.map_cons, List.map_cons, numsO, numO_dgs (n := x.toNat) (by omega) (bb_list _), numsO_dgs r (fun y hy => h y (by simp [hy]))]
    show some (((x.toNat : Nat) : Int) :: r) = _
    rw [show ((x.toNat : Nat) : Int) = x by omega]
theorem wds_ne32 : ∀ i : Fin 18, ∀ b ∈ (wds.getD i.val ⟨⟨#[]⟩, 0, 0, 0⟩).nm.data.toList, b ≠ 32 := by decide +kernel
theorem wds_pos : ∀ i : Fin 18, 0 < (wds.getD i.val ⟨⟨#[]⟩, 0, 0, 0⟩).nm.data.toList.length := by decide +kernel
theorem say_spd {w : Wd} (hw : w ∈ wds) (d : List Int) (hd : ∀ x ∈ d, 0 ≤ x ∧ x < 256) (hn : w.n = d.length) : sayO (spd w.nm d) = some (w, d) := by
  obtain ⟨i, hi, rfl⟩ := List.getElem_of_mem hw
  have h32 := wds_ne32 ⟨i, hi⟩
  rw [List.getD_eq_getElem?_getD, List.getElem?_eq_getElem hi, Option.getD_some] at h32
  generalize wds[i] = w at hw hn h32
  have hs : spl (spd w.nm d) = bb w.nm.data.toList :: (d.map fun n => dgs n.toNat).map bb := by
    unfold spl
    rw [spd_list, spg_app _ _ _ h32, List.nil_append, spg_nums d _ hd]
    rfl
  unfold sayO
  rw [hs]
  dsimp only
  rw [numsO_dgs d hd]
  dsimp only
  cases hf : wds.find? (isWd (bb w.nm.data.toList) d.length) with
  | none => exact absurd (isWd_iff.2 ⟨rfl, hn⟩) (List.find?_eq_none.1 hf w hw)
  | some w1 =>
    have h1 := isWd_iff.1 (List.find?_some hf)
    obtain rfl := wds_uniq (List.mem_of_find?_eq_some hf) hw h1.1
    rfl
theorem spd_pos {w : Wd} (hw : w ∈ wds) (d : List Int) : (spd w.nm d).data.toList ≠ [] := by
  obtain ⟨i, hi, rfl⟩ := List.getElem_of_mem hw
  have h1 := wds_pos ⟨i, hi⟩
  rw [List.getD_eq_getElem?_getD, List.getElem?_eq_getElem hi, Option.getD_some] at h1
  intro e
  rw [spd_list] at e
  have := congrArg List.length e
  rw [List.length_append] at this
  simp only [List.length_nil] at this
  omega
theorem sayO_bytes {s : ByteArray} {w : Wd} {ds : List Int} (h : sayO s = some (w, ds)) : (∀ x ∈ ds, 0 ≤ x ∧ x < 256) ∧ w ∈ wds := by
  obtain ⟨hd, tl, _, hn, hw⟩ := sayO_parts h
  refine ⟨fun x hx => ?_, List.mem_of_find?_eq_some hw⟩
  obtain ⟨i, hi, rfl⟩ := List.getElem_of_mem hx
  obtain ⟨q1, q2⟩ := numsO_all hn
  obtain ⟨k, hk1, hk2⟩ := q2 i _ (List.getElem?_eq_getElem (by omega))
  rw [List.getElem?_eq_getElem hi] at hk2
  have := (numO_some hk1).1
  rw [Option.some.inj hk2]
  omega
end Go.Proofs.YtieoaeidlcdggaaDoor
