/- Lists of bytes. -/
import Derived.Test.YtmeiemdnhjnpcaaAb22
set_option linter.unusedSimpArgs false
set_option linter.unusedVariables false
namespace Go.Ab
open Go.RowKit
def u8s (l : List Int) : List V := l.map u8
def BL (l : List Int) : Prop := ∀ b ∈ l, 0 ≤ b ∧ b < 256
theorem len_u8s (l : List Int) : (u8s l).length = l.length := by simp [u8s]
theorem u8s_app (a b : List Int) : u8s a ++ u8s b = u8s (a ++ b) := by simp [u8s]
theorem u8s_take (l : List Int) (n : Nat) : (u8s l).take n = u8s (l.take n) := by simp [u8s]
theorem u8s_drop (l : List Int) (n : Nat) : (u8s l).drop n = u8s (l.drop n) := by simp [u8s]
theorem u8s_at (l : List Int) (i : Nat) (h : i < l.length) : (u8s l).drop (i * 1) = u8 (l.getD i 0) :: u8s (l.drop (i + 1)) := by
  rw [Nat.mul_one, u8s_drop, List.drop_eq_getElem_cons h]
  have e : l.getD i 0 = l[i] := by simp [List.getD_eq_getElem?_getD, h]
  rw [e]
  rfl
theorem BL.at_ {l : List Int} (h : BL l) (i : Nat) : 0 ≤ l.getD i 0 ∧ l.getD i 0 < 256 := by
  rw [List.getD_eq_getElem?_getD]
  cases hi : l[i]? with
  | none => simp
  | some b => exact h b (List.mem_of_getElem? hi)
theorem BL.nil : BL [] := fun b h => by simp at h
theorem BL.cons {b : Int} {l : List Int} (h : 0 ≤ b ∧ b < 256) (k : BL l) : BL (b :: l) := fun x hx => by
  rcases List.mem_cons.1 hx with rfl | hx
  · exact h
  · exact k x hx
theorem BL.app {a b : List Int} (h : BL a) (k : BL b) : BL (a ++ b) := fun x hx => (List.mem_append.1 hx).elim (h x) (k x)
theorem BL.take {l : List Int} (h : BL l) (n : Nat) : BL (l.take n) := fun x hx => h x (List.mem_of_mem_take hx)
theorem BL.drop {l : List Int} (h : BL l) (n : Nat) : BL (l.drop n) := fun x hx => h x (List.mem_of_mem_drop hx)
theorem VOL.u8s (l : List Int) : VOL (u8s l) := fun x hx => by
  obtain ⟨b, _, rfl⟩ := List.mem_map.1 hx
  exact VO.val _
theorem VOL.app {a b : List V} (h : VOL a) (k : VOL b) : VOL (a ++ b) := fun x hx => (List.mem_append.1 hx).elim (h x) (k x)
theorem gI_u8s {l : List Int} {k : Nat} (h : k < l.length) : gI (u8s l) k = u8 (l.getD k 0) := by
  unfold gI u8s
  rw [List.getD_eq_getElem?_getD, List.getD_eq_getElem?_getD, List.getElem?_map, List.getElem?_eq_getElem h]
  rfl
theorem part_u8s {l : List Int} {k s : Nat} {fl : Bool} (h : k < l.length) : part_ fl false (u8s l) k s = u8 (l.getD k 0) := gI_u8s h
theorem gI_u8e {cs : List V} {l : List Int} {k : Nat} (e : cs = u8s l) (h : k < l.length) : gI cs k = u8 (l.getD k 0) := by rw [e]; exact gI_u8s h
theorem part_u8e {cs : List V} {l : List Int} {k s : Nat} {fl : Bool} (e : cs = u8s l) (h : k < l.length) : part_ fl false cs k s = u8 (l.getD k 0) := by rw [e]; exact part_u8s h
theorem set_u8s (l : List Int) (k : Nat) (z : Int) : (u8s l).set k (u8 z) = u8s (l.set k z) := by
  unfold u8s
  rw [List.map_set]
theorem BL.set {l : List Int} (h : BL l) {k : Nat} {z : Int} (hz : 0 ≤ z ∧ z < 256) : BL (l.set k z) := fun x hx => by
  rcases List.mem_or_eq_of_mem_set hx with h1 | h1
  · exact h x h1
  · subst h1
    exact hz
theorem allU8_u8s (l : List Int) : allU8 (u8s l) = true := by
  simp [allU8, Ab.u8s, byteOf]
theorem strOf_u8s (l : List Int) : (strOf (u8s l)).data.toList = l.map fun n => UInt8.ofNat n.toNat := by
  have key : ∀ (l : List Int) (s : ByteArray), (l.foldl (fun r n => r.push (UInt8.ofNat n.toNat)) s).data.toList = s.data.toList ++ l.map fun n => UInt8.ofNat n.toNat := by
    intro l
    induction l with
    | nil => intro s; simp
    | cons n l ih =>
      intro s
      rw [List.foldl_cons, ih]
      simp
  unfold strOf
  have e : ((u8s l).map fun x => (byteOf x).getD 0) = l := by
    have : (fun x => (byteOf x).getD 0) ∘ u8 = id := by
      funext z
      rfl
    rw [Ab.u8s, List.map_map, this, List.map_id]
  rw [e, key]
  rfl
theorem map_u8_inj {a b : List Int} (ha : BL a) (hb : BL b) (h : (a.map fun n => UInt8.ofNat n.toNat) = b.map fun n => UInt8.ofNat n.toNat) : a = b := by
  induction a generalizing b with
  | nil => cases b with
    | nil => rfl
    | cons y b => simp at h
  | cons x a ih =>
    cases b with
    | nil => simp at h
    | cons y b =>
      simp only [List.map_cons, List.cons.injEq] at h
      have h1 := ha x (by simp)
      have h2 := hb y (by simp)
      have h3 := congrArg UInt8.toNat h.1
      simp only [UInt8.toNat_ofNat'] at h3
      have h4 : x = y := by omega
      rw [h4, ih (fun z hz => ha z (by simp [hz])) (fun z hz => hb z (by simp [hz])) h.2]
theorem strOf_eq {a b : List Int} (ha : BL a) (hb : BL b) : ((strOf (u8s a)).data.toList == (strOf (u8s b)).data.toList) = decide (a = b) := by
  rw [strOf_u8s, strOf_u8s]
  by_cases h : a = b
  · subst h
    simp
  · have : ¬ (a.map fun n => UInt8.ofNat n.toNat) = b.map fun n => UInt8.ofNat n.toNat := fun e => h (map_u8_inj ha hb e)
    simp [h, this]
theorem bytes_rows {ty : List V → Prop} (hty : ∀ r, ty r → ∃ z : Int, r = [u8 z] ∧ 0 ≤ z ∧ z < 256) : ∀ {n : Nat} {xs : List V}, Rows ty n xs → ∃ l, xs = u8s l ∧ l.length = n ∧ BL l
  | 0, xs, h => by
    obtain rfl := rows_nil h
    exact ⟨[], rfl, rfl, BL.nil⟩
  | n + 1, xs, h => by
    obtain ⟨a, b, rfl, h1, h2⟩ := rows_cons h
    obtain ⟨z, rfl, hz⟩ := hty a h1
    obtain ⟨l, rfl, hl, hb⟩ := bytes_rows hty h2
    exact ⟨z :: l, rfl, by simp [hl], BL.cons hz hb⟩
end Go.Ab
