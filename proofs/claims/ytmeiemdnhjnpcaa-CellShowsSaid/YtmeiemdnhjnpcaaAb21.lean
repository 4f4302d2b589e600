/- The arguments of a statement, as values. -/
import Derived.Test.YtmeiemdnhjnpcaaAb20
import Derived.Carry
set_option linter.unusedSimpArgs false
set_option linter.unusedVariables false
namespace Go.Ab
open Go.RowKit

/-- Values that are of a type: numbers within their kind, slices with as many elements as their length says. -/
def TyFs (tc : List (Nat × TI)) (ty : TypeId → List V → Prop) : List Field → List V → Prop
  | [], xs => xs = []
  | f :: fs, xs => ∃ a b, xs = a ++ b ∧ ty f.type a ∧ TyFs tc ty fs b
def Rows (ty : List V → Prop) (n : Nat) (xs : List V) : Prop := ∃ rows : List (List V), rows.length = n ∧ xs = rows.flatten ∧ ∀ r ∈ rows, ty r
def Ty (tc : List (Nat × TI)) : Nat → TypeId → List V → Prop
  | 0, _, _ => False
  | n + 1, t, xs => match lk tc t with
    | some ti => match ti.desc with
      | .bool => ∃ b, xs = [.val (.bool b)]
      | .int k => ∃ z, xs = [.val (.int k z)] ∧ k.min ≤ z ∧ z ≤ k.max
      | .string => ∃ s : ByteArray, xs = [.val (.string s)] ∧ s.size ≤ 9223372036854775807
      | .struct fs => TyFs tc (Ty tc n) fs.toList xs
      | .array m e => Rows (Ty tc n e) m xs
      | .slice e => ∃ cs len, xs = [.vs cs len] ∧ len ≤ 9223372036854775807 ∧ Rows (Ty tc n e) len cs
      | _ => False
    | none => False
/-- Types that are read so. -/
def fsOk (tc : List (Nat × TI)) (ok : TypeId → Bool) : List Field → Nat → Nat → Bool
  | [], p, n => p == n
  | f :: fs, p, n => f.offset == p && ok f.type && (match lk tc f.type with | some ti => fsOk tc ok fs (p + ti.size) n | none => false)
def tyOk (tc : List (Nat × TI)) : Nat → TypeId → Bool
  | 0, _ => false
  | n + 1, t => match lk tc t with
    | some ti => match ti.desc with
      | .bool | .int _ | .string => ti.size == 1
      | .struct fs => fsOk tc (tyOk tc n) fs.toList 0 ti.size
      | .array m e => tyOk tc n e && (match lk tc e with | some ei => m * ei.size == ti.size | none => false)
      | .slice e => ti.size == 1 && tyOk tc n e && (match lk tc e with | some _ => true | none => false)
      | _ => false
    | none => false

def Lo (w : World) (b : Nat) : Prop := b < w.heap.size
section
variable {P : Program} {w : World} {tc : List (Nat × TI)} {H : Type} {enc : TypeId × Value → H} {spare : Nat → Bool}
theorem mapM_get {α β : Type} {f : α → Option β} : ∀ {l : List α} {r : List β}, l.mapM f = some r → r.length = l.length ∧ ∀ i (h : i < l.length) (h' : i < r.length), f l[i] = some r[i]
  | [], r, h => by
    simp at h
    subst h
    exact ⟨rfl, fun i h => by simp at h⟩
  | x :: l, r, h => by
    rw [List.mapM_cons] at h
    simp only [bind, Option.bind_eq_some_iff, pure, Option.some.injEq] at h
    obtain ⟨y, hy, ys, hys, rfl⟩ := h
    obtain ⟨h1, h2⟩ := mapM_get hys
    refine ⟨by simp [h1], fun i hi hi' => ?_⟩
    cases i with
    | zero => exact hy
    | succ i => exact h2 i (by simpa using hi) (by simpa using hi')
theorem RelL.flat {I : Nat → Prop} {φ : Phi} : ∀ {rows : List (List V)} {cells : List (List Value)}, rows.length = cells.length → (∀ i (h : i < rows.length) (h' : i < cells.length), RelL I w φ rows[i] cells[i]) → RelL I w φ rows.flatten cells.flatten
  | [], cells, hl, _ => by
    obtain rfl : cells = [] := List.eq_nil_of_length_eq_zero (by simpa using hl.symm)
    exact RelL.nil
  | r :: rows, [], hl, _ => by simp at hl
  | r :: rows, c :: cells, hl, h => by
    simp only [List.flatten_cons]
    exact RelL.append (h 0 (by simp) (by simp)) (RelL.flat (by simpa using hl) fun i hi hi' => h (i + 1) (by simpa using hi) (by simpa using hi'))

/-- n rows. -/
theorem rows_read (ty : List V → Prop) {I : Nat → Prop} : ∀ (n : Nat) (f : Nat → List Value), (∀ i, i < n → ∃ xs, RelL I w Phi.emp xs (f i) ∧ ty xs) →
    ∃ rows : List (List V), rows.length = n ∧ (∀ r ∈ rows, ty r) ∧ ∀ i (h : i < rows.length), RelL I w Phi.emp rows[i] (f i)
  | 0, f, _ => ⟨[], rfl, by simp, fun i h => by simp at h⟩
  | n + 1, f, h => by
    obtain ⟨rows, h1, h2, h3⟩ := rows_read ty n f (fun i hi => h i (by omega))
    obtain ⟨xs, k1, k2⟩ := h n (by omega)
    refine ⟨rows ++ [xs], by simp [h1], fun r hr => ?_, fun i hi => ?_⟩
    · rcases List.mem_append.1 hr with hr | hr
      · exact h2 r hr
      · simp at hr; exact hr ▸ k2
    · rw [List.getElem_append]
      split
      · exact h3 i _
      · have : i = n := by simp at hi; omega
        subst this
        simpa using k1
/-- Where a cell of the rows' chain lies. -/
theorem flat_at {α : Type} {s : Nat} (hs : 0 < s) : ∀ (rows : List (List α)), (∀ c ∈ rows, c.length = s) → ∀ (j : Nat) (u : α), rows.flatten[j]? = some u → ∃ i k, rows[i]? = some (rows.getD i []) ∧ (rows.getD i [])[k]? = some u ∧ i * s + k = j
  | [], _, j, u, h => by simp at h
  | c :: rows, hl, j, u, h => by
    simp only [List.flatten_cons] at h
    have hc := hl c (by simp)
    by_cases hj : j < c.length
    · rw [List.getElem?_append_left hj] at h
      exact ⟨0, j, by simp, by simpa using h, by omega⟩
    · rw [List.getElem?_append_right (by omega)] at h
      obtain ⟨i, k, h1, h2, h3⟩ := flat_at hs rows (fun c hc => hl c (by simp [hc])) _ u h
      refine ⟨i + 1, k, by simpa using h1, by simpa using h2, ?_⟩
      rw [Nat.add_mul]
      omega
theorem chunks (s : Nat) : ∀ (n : Nat) (cs : List Value), cs.length = n * s → ((List.range n).map fun i => (cs.drop (i * s)).take s).flatten = cs
  | 0, cs, h => by
    have : cs = [] := List.eq_nil_of_length_eq_zero (by simpa using h)
    simp [this]
  | n + 1, cs, h => by
    have hl : cs.length = n * s + s := by rw [h, Nat.add_mul, Nat.one_mul]
    rw [List.range_succ, List.map_append, List.flatten_append]
    have h1 : ((List.range n).map fun i => (cs.drop (i * s)).take s) = (List.range n).map fun i => ((cs.take (n * s)).drop (i * s)).take s := by
      apply List.map_congr_left
      intro i hi
      have hi' : i < n := List.mem_range.1 hi
      have : i * s + s ≤ n * s := by
        have := Nat.mul_le_mul_right s (show i + 1 ≤ n by omega)
        rwa [Nat.add_mul, Nat.one_mul] at this
      rw [List.drop_take, List.take_take, Nat.min_eq_left (by omega)]
    rw [h1, chunks s n (cs.take (n * s)) (by simp; omega)]
    simp only [List.map_cons, List.map_nil, List.flatten_cons, List.flatten_nil, List.append_nil]
    rw [show (cs.drop (n * s)).take s = cs.drop (n * s) from List.take_of_length_le (by rw [List.length_drop]; omega)]
    exact List.take_append_drop _ _

theorem addr_add (a : Addr) (m k : Nat) : a.add (m + k) = (a.add m).add k := by
  unfold Addr.add
  by_cases hm : m = 0
  · subst hm
    simp
  · by_cases hk : k = 0
    · subst hk
      simp
    · have : m + k ≠ 0 := by omega
      simp [hm, hk, Nat.add_assoc]

theorem trod_ty (hT : TCok P tc) : ∀ (fuel : Nat) (n : Nat) (t : TypeId) (cs : List Value) (d : DataW H) (ps : List MemPlace), DataW.trod enc P w 0 spare true fuel t cs = some (d, ps) → tyOk tc n t = true →
    ∃ xs, RelL (Lo w) w Phi.emp xs cs ∧ Ty tc n t xs
  | 0, n, t, cs, d, ps, h, _ => by simp [DataW.trod] at h
  | fuel + 1, 0, t, cs, d, ps, h, hok => by simp [tyOk] at hok
  | fuel + 1, n + 1, t, cs, d, ps, h, hok => by
    unfold tyOk at hok
    split at hok
    case h_2 => cases hok
    rename_i ti hti
    have ht := hT.get hti
    have hd := ht.desc
    unfold Ty
    simp only [hti]
    have hcells : ∀ {e : TypeId} {ei : TI}, lk tc e = some ei → P.cellsOf e = ei.size := fun {e ei} he => by
      obtain ⟨i, h1, h2, _⟩ := (hT.get he).info
      simp [Program.cellsOf, h1, h2]
    split at hok
    · -- bool
      rename_i hdesc
      rw [hdesc] at hd
      unfold DataW.trod at h
      rw [hd] at h
      split at h <;> first | (rename_i e _; cases e; done) | skip
      all_goals (try (simp at *; done))
      rename_i b _
      exact ⟨[.val (.bool b)], RelL.cons (.val rfl) rfl RelL.nil, b, rfl⟩
    · -- int
      rename_i k hdesc
      rw [hdesc] at hd
      unfold DataW.trod at h
      rw [hd] at h
      split at h <;> first | (rename_i e _; cases e; done) | skip
      all_goals (try (simp at *; done))
      rename_i k1 k' z he
      cases he
      split at h
      · rename_i hk
        obtain ⟨rfl, hwf⟩ := hk
        simp only [Lit.wf, Bool.and_eq_true, decide_eq_true_eq] at hwf
        exact ⟨[.val (.int k' z)], RelL.cons (.val rfl) rfl RelL.nil, z, rfl, hwf⟩
      · cases h
    · -- string
      rename_i hdesc
      rw [hdesc] at hd
      unfold DataW.trod at h
      rw [hd] at h
      split at h <;> first | (rename_i e _; cases e; done) | skip
      all_goals (try (simp at *; done))
      rename_i s _
      split at h
      · rename_i hs
        exact ⟨[.val (.string s)], RelL.cons (.val rfl) rfl RelL.nil, s, rfl, hs⟩
      · cases h
    · -- struct
      rename_i fs hdesc
      rw [hdesc] at hd
      have heq : DataW.trod enc P w 0 spare true (fuel + 1) t cs = (if cs.length = P.cellsOf t then (fs.toList.mapM fun f => DataW.trod enc P w 0 spare true fuel f.type ((cs.drop f.offset).take (P.cellsOf f.type))).map fun xs => (.agg (xs.map (·.1)), xs.flatMap (·.2)) else none) := by
        conv => lhs; unfold DataW.trod
        rw [hd]
      rw [heq] at h
      split at h
      · rename_i hlen
        rw [hcells hti] at hlen
        simp only [Option.map_eq_some_iff] at h
        obtain ⟨xs, hxs, _⟩ := h
        obtain ⟨_, hget⟩ := mapM_get hxs
        have key : ∀ (gs : List Field) (p : Nat), fsOk tc (tyOk tc n) gs p ti.size = true → (∀ f ∈ gs, ∃ d ps, DataW.trod enc P w 0 spare true fuel f.type ((cs.drop f.offset).take (P.cellsOf f.type)) = some (d, ps)) →
            ∃ xs, RelL (Lo w) w Phi.emp xs (cs.drop p) ∧ TyFs tc (Ty tc n) gs xs := by
          intro gs
          induction gs with
          | nil =>
            intro p hp _
            simp only [fsOk, beq_iff_eq] at hp
            refine ⟨[], ?_, rfl⟩
            rw [List.drop_eq_nil_of_le (by omega)]
            exact RelL.nil
          | cons f gs ih =>
            intro p hp hf
            simp only [fsOk, Bool.and_eq_true, beq_iff_eq] at hp
            obtain ⟨⟨hp1, hp2⟩, hp3⟩ := hp
            split at hp3
            · rename_i fi hfi
              obtain ⟨ys, h1, h2⟩ := ih (p + fi.size) hp3 (fun g hg => hf g (by simp [hg]))
              obtain ⟨d', ps', hd'⟩ := hf f (by simp)
              obtain ⟨zs, k1, k2⟩ := trod_ty hT fuel n f.type _ _ _ hd' hp2
              rw [hcells hfi, hp1] at k1
              refine ⟨zs ++ ys, ?_, zs, ys, rfl, k2, h2⟩
              have := k1.append h1
              rwa [← List.drop_drop, List.take_append_drop] at this
            · cases hp3
        obtain ⟨xs', h1, h2⟩ := key fs.toList 0 hok (fun f hf => by
          obtain ⟨i, hi, rfl⟩ := List.getElem_of_mem hf
          have hi' : i < xs.length := by rw [(mapM_get hxs).1]; exact hi
          exact ⟨_, _, hget i hi hi'⟩)
        exact ⟨xs', by simpa using h1, h2⟩
      · cases h
    · -- array
      rename_i m e hdesc
      rw [hdesc] at hd
      simp only [Bool.and_eq_true] at hok
      obtain ⟨hok1, hok2⟩ := hok
      split at hok2
      case h_2 => cases hok2
      rename_i ei hei
      simp only [beq_iff_eq] at hok2
      have heq : DataW.trod enc P w 0 spare true (fuel + 1) t cs = (if cs.length = P.cellsOf t then ((List.range m).mapM fun i => DataW.trod enc P w 0 spare true fuel e ((cs.drop (i * P.cellsOf e)).take (P.cellsOf e))).map fun xs => (.agg (xs.map (·.1)), xs.flatMap (·.2)) else none) := by
        conv => lhs; unfold DataW.trod
        rw [hd]
      rw [heq] at h
      split at h
      · rename_i hlen
        rw [hcells hti] at hlen
        simp only [Option.map_eq_some_iff] at h
        obtain ⟨xs, hxs, _⟩ := h
        obtain ⟨hl, hget⟩ := mapM_get hxs
        simp only [List.length_range, hcells hei] at hl hget
        obtain ⟨rows, r1, r2, r3⟩ := rows_read (w := w) (I := Lo w) (Ty tc n e) m (fun i => (cs.drop (i * ei.size)).take ei.size) (fun i hi => by
          have := hget i hi (by omega)
          simp only [List.getElem_range] at this
          exact trod_ty hT fuel n e _ _ _ this hok1)
        refine ⟨rows.flatten, ?_, rows, r1, rfl, r2⟩
        have := RelL.flat (w := w) (I := Lo w) (φ := Phi.emp) (rows := rows) (cells := (List.range m).map fun i => (cs.drop (i * ei.size)).take ei.size) (by simp [r1]) (fun i hi hi' => by simpa using r3 i hi)
        rwa [chunks ei.size m cs (by omega)] at this
      · cases h
    · -- slice
      rename_i e hdesc
      rw [hdesc] at hd
      simp only [Bool.and_eq_true] at hok
      obtain ⟨⟨_, hok1⟩, hok2⟩ := hok
      split at hok2
      case h_2 => cases hok2
      rename_i ei hei
      unfold DataW.trod at h
      rw [hd] at h
      split at h <;> first | (rename_i e _; cases e; done) | skip
      all_goals (try (simp at *; done))
      · refine ⟨[.vs [] 0], RelL.cons (.vs (us := []) rfl (fun i h => by simp at h) (fun u h => by simp at h) (fun j u hu => by simp at hu) (fun _ => rfl) (Nat.le_refl _) (by omega)) rfl RelL.nil, [], 0, rfl, by omega, [], rfl, rfl, by simp⟩
      · rename_i e' a len cap he
        cases he
        split at h
        · rename_i hb
          obtain ⟨_, hlc, hcm⟩ := hb
          simp only [Option.bind_eq_some_iff] at h
          obtain ⟨elems, hel, _⟩ := h
          obtain ⟨hl, hget⟩ := mapM_get hel
          simp only [List.length_range, hcells hei, Option.bind_eq_some_iff] at hl hget
          have hget' : ∀ i, i < len → ∃ cs, w.cells? 0 (a.add (i * ei.size)) ei.size = some cs ∧ ∃ d ps, DataW.trod enc P w 0 spare true fuel e cs = some (d, ps) := fun i hi => by
            obtain ⟨cs, h1, h2⟩ := hget i hi (by omega)
            simp only [List.getElem_range] at h1
            exact ⟨cs, h1, _, _, h2⟩
          -- the cells of each element
          have hch : ∃ f : Nat → List Value, ∀ i, i < len → w.cells? 0 (a.add (i * ei.size)) ei.size = some (f i) ∧ ∃ d ps, DataW.trod enc P w 0 spare true fuel e (f i) = some (d, ps) := by
            refine ⟨fun i => if hi : i < len then (hget' i hi).choose else [], fun i hi => ?_⟩
            simp only [hi, dif_pos]
            exact (hget' i hi).choose_spec
          obtain ⟨f, hf⟩ := hch
          obtain ⟨rows, r1, r2, r3⟩ := rows_read (w := w) (I := Lo w) (Ty tc n e) len f (fun i hi => by
            obtain ⟨_, d', ps', hd'⟩ := hf i hi
            exact trod_ty hT fuel n e _ _ _ hd' hok1)
          have hfl : ∀ i, i < len → (f i).length = ei.size ∧ ∀ k u, (f i)[k]? = some u → w.cell? ((a.add (i * ei.size)).add k) = some u := fun i hi => by
            have := (hf i hi).1
            unfold World.cells? at this
            rw [if_pos (Nat.zero_le _)] at this
            obtain ⟨h1, h2⟩ := mapM_get this
            simp only [List.length_range] at h1 h2
            refine ⟨h1, fun k u hk => ?_⟩
            obtain ⟨hk', rfl⟩ := List.getElem?_eq_some_iff.1 hk
            have := h2 k (by omega) hk'
            simpa using this
          have hrel := RelL.flat (w := w) (I := Lo w) (φ := Phi.emp) (rows := rows) (cells := (List.range len).map f) (by simp [r1]) (fun i hi hi' => by simpa using r3 i hi)
          refine ⟨[.vs rows.flatten len], RelL.cons (.vs hrel.1 hrel.2.1 hrel.2.2 (fun j u hu => ?_) (fun e => by cases e) hlc (by simpa [maxLen] using hcm)) rfl RelL.nil, rows.flatten, len, rfl, by simp only [maxLen] at hcm; omega, rows, r1, rfl, r2⟩
          -- where a cell lies
          have hcell : ∀ j u, ((List.range len).map f).flatten[j]? = some u → w.cell? (a.add j) = some u := by
            intro j u hu
            have hlen' : ∀ c ∈ (List.range len).map f, c.length = ei.size := fun c hc => by
              obtain ⟨i, hi, rfl⟩ := List.mem_map.1 hc
              exact (hfl i (List.mem_range.1 hi)).1
            have hs : 0 < ei.size := by
              refine Nat.pos_of_ne_zero fun h0 => ?_
              have : ((List.range len).map f).flatten = [] := by
                rw [List.flatten_eq_nil_iff]
                intro c hc
                exact List.eq_nil_of_length_eq_zero ((hlen' c hc).trans h0)
              rw [this] at hu
              simp at hu
            obtain ⟨i, k, hi, hk, hik⟩ := flat_at hs _ hlen' j u hu
            simp only [List.getElem?_map, Option.map_eq_some_iff] at hi
            obtain ⟨i', hi', hfi⟩ := hi
            have hi2 : i < len := by have := (List.getElem?_eq_some_iff.1 hi').1; simpa using this
            have : i' = i := by have := (List.getElem?_eq_some_iff.1 hi').2; simpa using this.symm
            subst this
            have := (hfl i' hi2).2 k u (by rw [hfi]; exact hk)
            rw [← hik, ← this]
            congr 1
            exact addr_add a _ k
          have hlt := World.block_lt_of_cell? w _ (hcell j u hu)
          have hb2 := hcell j u hu
          obtain ⟨ab, ao, asp⟩ := a
          have hblk : ∀ k, ((⟨ab, ao, asp⟩ : Addr).add k).block = ab := fun k => by unfold Addr.add; split <;> rfl
          rw [hblk] at hlt
          -- no spot
          have hsp : asp = none := by
            cases asp with
            | none => rfl
            | some q =>
              exfalso
              have hl0 : 0 < ((List.range len).map f).flatten.length := by have := (List.getElem?_eq_some_iff.1 hu).1; omega
              have h0 := hcell 0 _ (List.getElem?_eq_getElem hl0)
              have h1 : w.cell? ⟨ab, ao, some q⟩ = none := by
                unfold World.cell?
                split <;> simp
              have h2 : (⟨ab, ao, some q⟩ : Addr).add 0 = ⟨ab, ao, some q⟩ := rfl
              rw [h2, h1] at h0
              cases h0
          subst hsp
          refine ⟨ab, ao, rfl, hlt, ?_⟩
          rw [Addr.add_mid] at hb2
          exact hb2
        · cases h
    · cases hok
end
end Go.Ab
