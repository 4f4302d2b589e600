/- General words for the walks of this seat: a slice that reads as a list, appends, whole arrays. No program is named but in the last section. -/
import Derived.Test.YthpogmkhfgkgoaaRows
import Derived.WalkKit
import Derived.WalkSpells
import Derived.WalkLawsBesides
import Derived.Maps.AppendAt
import Derived.Deep.WholeRow
import Derived.Deep.MidRow
import Derived.Deep.RegionHeld3
import Derived.Deep.QuietTactic
import Derived.BigQuiet
import Derived.StillTailTactics
import Derived.Deep.DeepCutAuto
import Derived.Deep.DeepFit
import Derived.Deep.DeepMust
import Derived.Deep.LoopGhost
import Derived.Lib.Hide
import Derived.Lib.SlBytesConst
namespace Go.Proofs.Ythpogmkhfgkgoaa
open Go.RowKit

/-- The cells xs lie one behind another from address A on. -/
def Rd (w : World) (A : Option Addr) (xs : List Value) : Prop :=
  0 < xs.length → ∃ b o, A = some ⟨b, o, none⟩ ∧ b < w.heap.size ∧ ∀ j u, xs[j]? = some u → w.cell? ⟨b, o + j, none⟩ = some u

theorem Rd.below {w w' : World} {A : Option Addr} {xs : List Value} {B : Nat} (h : Rd w A xs) (hB : w.heap.size ≤ B) (hb : Below B w w') : Rd w' A xs := fun hl => by
  obtain ⟨b, o, e, hlt, hc⟩ := h hl
  exact ⟨b, o, e, Nat.lt_of_lt_of_le hlt hb.size, fun j u hj => (hb.cell (p := ⟨b, o + j, none⟩) (Nat.lt_of_lt_of_le hlt hB)).trans (hc j u hj)⟩
theorem Rd.nil_ (w : World) (A : Option Addr) : Rd w A [] := fun h => absurd h (by simp)
theorem Rd.alloc {w : World} {A : Option Addr} {xs : List Value} (h : Rd w A xs) (ob : Obj) : Rd (w.alloc ob) A xs :=
  h.below (Nat.le_refl _) ((Below.refl _ _).alloc (Nat.le_refl _) _)
theorem Rd.drew {w : World} {A : Option Addr} {xs : List Value} (h : Rd w A xs) : Rd w.drew A xs := h
theorem Rd.get {w : World} {A : Option Addr} {xs : List Value} (h : Rd w A xs) {k : Nat} (hk : k < xs.length) :
    ∃ b o, A = some ⟨b, o, none⟩ ∧ b < w.heap.size ∧ w.cell? ⟨b, o + k, none⟩ = some xs[k] := by
  obtain ⟨b, o, e, hlt, hc⟩ := h (by omega)
  exact ⟨b, o, e, hlt, hc k _ (List.getElem?_eq_getElem hk)⟩
/-- Cut off at the front. -/
theorem Rd.drop {w : World} {A : Option Addr} {xs : List Value} (h : Rd w A xs) (k c : Nat) (hc : xs.length ≤ c) :
    Rd w (if c = k then A else A.map (·.add k)) (xs.drop k) := fun hl => by
  have hk : k < xs.length := by simp at hl; omega
  obtain ⟨b, o, e, hlt, hcell⟩ := h (by omega)
  subst e
  rw [if_neg (by omega)]
  refine ⟨b, o + k, ?_, hlt, fun j u hj => ?_⟩
  · simp only [Option.map_some, Addr.add_mid]
  · rw [List.getElem?_drop] at hj
    rw [Nat.add_assoc]
    exact hcell _ _ hj
theorem Rd.take {w : World} {A : Option Addr} {xs : List Value} (h : Rd w A xs) (k : Nat) : Rd w A (xs.take k) := fun hl => by
  obtain ⟨b, o, e, hlt, hcell⟩ := h (by simp at hl; omega)
  refine ⟨b, o, e, hlt, fun j u hj => hcell j u ?_⟩
  rw [List.getElem?_take] at hj
  split at hj
  · exact hj
  · cases hj

/-- From w to w' nothing that was there has turned. -/
def Ext (w w' : World) : Prop := Below w.heap.size w w'
section
variable {w w' W : World}
theorem Ext.below (h : Ext w w') : Below w.heap.size w w' := h
theorem Ext.size (h : Ext w w') : w.heap.size ≤ w'.heap.size := Below.size h
theorem Ext.refl (w : World) : Ext w w := Below.refl _ _
theorem Ext.trans (h : Ext w w') (k : Ext w' W) : Ext w W := Below.trans h (Below.mono k h.size)
theorem Ext.drew (h : Ext w w') : Ext w w'.drew := Below.drew h
theorem Ext.of_drew (h : Ext w w') : Ext w.drew w' := ⟨h.below.os, h.below.tape, h.below.output, h.below.size, h.below.block⟩
theorem Ext.of_drewN (n : Nat) (h : Ext w w') : Ext (w.drewN n) w' := ⟨h.below.os, h.below.tape, h.below.output, h.below.size, h.below.block⟩
theorem Ext.drewN (h : Ext w w') (n : Nat) : Ext w (w'.drewN n) := Below.trans h ⟨rfl, rfl, rfl, Nat.le_refl _, fun _ _ => rfl⟩
theorem Ext.alloc (h : Ext w w') (o : Obj) : Ext w (w'.alloc o) := Below.alloc h h.size o
theorem Ext.setCell (h : Ext w w') {p : Addr} (hp : w.heap.size ≤ p.block) (u : Value) : Ext w (w'.setCell p u) := Below.setCell h hp u
theorem Ext.setRow (h : Ext w w') {g : Nat} (hg : w.heap.size ≤ g) (cs : Array Value) : Ext w (w'.setRow g cs) :=
  Below.trans h ⟨rfl, rfl, rfl, by simp, fun k hk => setRow_other w' g k cs (by omega)⟩
theorem Ext.grown (h : Ext w w') {row : Option Nat} (hg : w'.grownBy W row) (hr : ∀ k, row = some k → w.heap.size ≤ k) : Ext w W := Below.grown h hg h.size hr
/-- Behind an append or a make onto a row of the call's own. -/
theorem Ext.own (h : Ext w w') {v : Value} {base e size n : Nat} {xs : List Value} (hown : w'.ownsRow base e size v n xs) (hg : w'.grownBy W v.ownBlock) (hB : w.heap.size ≤ base) : Ext w W :=
  h.grown hg fun k hk => Nat.le_trans hB (hown.lt k hk).1
theorem Ext.cell (h : Ext w w') {p : Addr} (hp : p.block < w.heap.size) : w'.cell? p = w.cell? p := Below.cell h hp
theorem Ext.cell_some (h : Ext w w') {p : Addr} {v : Value} (hc : w.cell? p = some v) : w'.cell? p = some v := (h.cell (World.block_lt_of_cell? w _ hc)).trans hc
theorem Ext.frozen (h : Ext w w') {p : Addr} (hp : p.block < w.heap.size) : w'.frozen? p = w.frozen? p := Below.frozen h hp
theorem Ext.heap (h : Ext w w') {g : Nat} {o : Obj} (hg : w.heap[g]? = some o) : w'.heap[g]? = some o :=
  (Below.block h g (Array.getElem?_eq_some_iff.1 hg).1).trans hg
theorem Rd.ext {A : Option Addr} {xs : List Value} (h : Rd w A xs) (hb : Ext w w') : Rd w' A xs := h.below (Nat.le_refl _) hb
theorem Ext.range {b o : Nat} {cs : List Value} (h : Ext w w') (hr : w.rangeAt b o cs) : w'.rangeAt b o cs := fun j v hv => h.cell_some (hr j v hv)
theorem own_ext {base e size n : Nat} {v : Value} {xs : List Value} (h : w.ownsRow base e size v n xs) (hb : Ext w w') : w'.ownsRow base e size v n xs := by
  refine ⟨h.1, ?_⟩
  rcases h.2 with h2 | ⟨g, cap, cur, hv, hg, hh, r⟩
  · exact .inl h2
  · exact .inr ⟨g, cap, cur, hv, hg, hb.heap hh, r⟩
end

/-- A slice of one-cell elements that reads as xs. -/
structure Sl (w : World) (A : Option Addr) (n c : Nat) (xs : List Value) : Prop where
  len : xs.length = n
  le : n ≤ c
  cap : c ≤ 9223372036854775807
  nil_ : A = none → c = 0
  rd : Rd w A xs

section
variable {w w' : World} {A : Option Addr} {n c : Nat} {xs : List Value}
theorem Sl.below {B : Nat} (h : Sl w A n c xs) (hB : w.heap.size ≤ B) (hb : Below B w w') : Sl w' A n c xs :=
  ⟨h.len, h.le, h.cap, h.nil_, h.rd.below hB hb⟩
theorem Sl.ext (h : Sl w A n c xs) (hb : Ext w w') : Sl w' A n c xs := h.below (Nat.le_refl _) hb
theorem Sl.alloc (h : Sl w A n c xs) (ob : Obj) : Sl (w.alloc ob) A n c xs := ⟨h.len, h.le, h.cap, h.nil_, h.rd.alloc ob⟩
theorem Sl.drew (h : Sl w A n c xs) : Sl w.drew A n c xs := ⟨h.len, h.le, h.cap, h.nil_, h.rd⟩
theorem Sl.drewN (h : Sl w A n c xs) (k : Nat) : Sl (w.drewN k) A n c xs := ⟨h.len, h.le, h.cap, h.nil_, h.rd⟩
theorem Sl.nil (w : World) : Sl w none 0 0 [] := ⟨rfl, by simp, by omega, fun _ => rfl, Rd.nil_ _ _⟩
theorem Sl.max (h : Sl w A n c xs) : n ≤ 9223372036854775807 := Nat.le_trans h.le h.cap
theorem Sl.get (h : Sl w A n c xs) {k : Nat} (hk : k < xs.length) :
    ∃ b o, A = some ⟨b, o, none⟩ ∧ b < w.heap.size ∧ w.cell? ⟨b, o + k, none⟩ = some xs[k] := h.rd.get hk
theorem Sl.drop (h : Sl w A n c xs) (k : Nat) (hk : k ≤ n) :
    Sl w (if c = k then A else A.map (·.add k)) (n - k) (c - k) (xs.drop k) := by
  have h1 := h.le
  have h2 := h.cap
  have h3 := h.len
  refine ⟨by simp; omega, by omega, by omega, fun e => ?_, h.rd.drop k c (by omega)⟩
  by_cases hc : c = k
  · omega
  · rw [if_neg hc] at e
    have := h.nil_ (by simpa using e)
    omega
/-- Cut off at the front, where it is known that something is left. -/
theorem Sl.drop' (h : Sl w A n c xs) (k : Nat) (hk : k < c) (hk' : k ≤ n) : Sl w (A.map (·.add k)) (n - k) (c - k) (xs.drop k) := by
  have := h.drop k hk'
  rwa [if_neg (by omega)] at this
theorem Sl.take (h : Sl w A n c xs) (k : Nat) (hk : k ≤ n) : Sl w A k c (xs.take k) :=
  ⟨by have := h.len; simp; omega, by have := h.le; omega, h.cap, h.nil_, h.rd.take k⟩
/-- What the call owns reads so. -/
theorem Sl.of_own {base e : Nat} (h : w.ownsRow base e 1 (.slice A n c) n xs) : Sl w A n c xs := by
  have hl : xs.length = n := by simpa using h.1
  rcases h.2 with ⟨h', _⟩ | ⟨g, cap, cur, h', hb, hg, hnc, hcm, hcs, htake⟩
  · cases h'
    have : xs = [] := List.eq_nil_of_length_eq_zero hl
    subst this
    exact Sl.nil w
  · cases h'
    refine ⟨hl, by omega, by simpa [maxLen] using hcm, (fun e => by cases e), fun _ => ⟨g, 0, rfl, (Array.getElem?_eq_some_iff.1 hg).1, fun j u hj => ?_⟩⟩
    have := h.cells (g := g) rfl j u hj
    rw [Addr.add_mid] at this
    exact this
end
theorem own_nil (w : World) (base e : Nat) : w.ownsRow base e 1 (.slice Option.none 0 0) 0 [] := World.ownsRow_nil w base e 1

theorem own_mono {w : World} {base base' e size n : Nat} {v : Value} {xs : List Value} (h : w.ownsRow base e size v n xs) (hb : base' ≤ base) : w.ownsRow base' e size v n xs := by
  refine ⟨h.1, ?_⟩
  rcases h.2 with h2 | ⟨g, cap, cur, hv, hg, r⟩
  · exact .inl h2
  · exact .inr ⟨g, cap, cur, hv, Nat.le_trans hb hg, r⟩
/-- What is owned and isn't empty lies at its block's head. -/
theorem own_form {w : World} {base e size n c : Nat} {A : Option Addr} {xs : List Value} (h : w.ownsRow base e size (.slice A n c) n xs) (hn : 0 < n) : ∃ g, A = some ⟨g, 0, Option.none⟩ := by
  rcases h.2 with ⟨h', h0⟩ | ⟨g, cap, cur, h', _⟩
  · omega
  · cases h'
    exact ⟨g, rfl⟩

/-- What is asked of an element type: its slice's row of the table, its zero, its cells and bytes. -/
structure ElemTy (P : Program) (t e size bytes : Nat) : Prop where
  ht : P.underlying t = some (.slice e)
  info : ∃ i z, P.info? e = some i ∧ i.zero = some z ∧ i.size = size ∧ i.bytes = bytes ∧ z.cells.size = size
  pos : 0 < size

theorem elemTy_mk {P : Program} {t e size bytes : Nat} {z : Value} (ht : P.underlying t = some (.slice e)) (h : (P.info? e).map (fun i => (i.zero, i.size, i.bytes)) = some (some z, size, bytes)) (hz : z.cells.size = size) (hp : 0 < size) : ElemTy P t e size bytes := by
  obtain ⟨i, h1, h2, h3, h4⟩ := info_parts h
  exact ⟨ht, ⟨i, z, h1, h2, h3, h4, hz⟩, hp⟩

section
variable {P : Program} {w : World}

theorem run_append_of_nil (base : Nat) {t ty e size bytes : Nat} (E : ElemTy P t e size bytes)
    (v : Value) (n : Nat) (xs : List Value) (hown : w.ownsRow base e size v n xs) (c : Nat) : (Builtin.append_ #[t, t] ty #[v, .slice none 0 c]).run P w = .ok v w := by
  obtain ⟨i, z, hi, hz, hs, hb, hzs⟩ := E.info
  rcases hown.2 with ⟨rfl, rfl⟩ | ⟨g, cap, cur, rfl, _, _, hnc, _⟩
  · simp [Builtin.append_, run_underlying E.ht, sizeOf, typeInfo, hi, Builtin.lenOf, Builtin.firstCells]
  · simp [Builtin.append_, run_underlying E.ht, sizeOf, typeInfo, hi, Builtin.lenOf, Builtin.firstCells, hnc, storeCells]

/-- append onto what the call owns, whatever the source. -/
theorem run_app (base : Nat) {t ty e size bytes : Nat} (E : ElemTy P t e size bytes)
    (v : Value) (n : Nat) (xs : List Value) (hown : w.ownsRow base e size v n xs)
    (A : Option Addr) (m c : Nat) (news : List Value) (hr : Rd w A news) (hl : news.length = m * size) (h1 : ∀ u ∈ news, u.oneCell' = true)
    (h63 : n + m ≤ 9223372036854775807) (hbytes : (n + m) * bytes ≤ 140737488355328) (hbase : base ≤ w.heap.size) :
    ∃ v' w', (Builtin.append_ #[t, t] ty #[v, .slice A m c]).run P w = .ok v' w' ∧ w'.ownsRow base e size v' (n + m) (xs ++ news) ∧ w.grownBy w' v.ownBlock ∧
      (v'.ownBlock = v.ownBlock ∨ v'.ownBlock = some w.heap.size) := by
  obtain ⟨i, z, hi, hz, hs, hb, hzs⟩ := E.info
  have h63' : n + m ≤ maxLen := by simp only [maxLen]; omega
  rcases A with _ | ad
  · have hn : news = [] := by
      rcases Nat.eq_zero_or_pos news.length with h0 | h0
      · exact List.eq_nil_of_length_eq_zero h0
      · obtain ⟨_, _, h, _⟩ := hr h0
        cases h
    subst hn
    have hm : m = 0 := by
      have := E.pos
      rcases Nat.eq_zero_or_pos m with h0 | h0
      · exact h0
      · have := Nat.mul_pos h0 this
        simp at hl
        omega
    subst hm
    exact ⟨v, w, run_append_of_nil base E v n xs hown c, by simpa using hown, World.grownBy.refl w _, .inl rfl⟩
  · have hcells : ∀ j u, news[j]? = some u → w.cell? (ad.add j) = some u := by
      intro j u hu
      have hlt : 0 < news.length := by have := (List.getElem?_eq_some_iff.1 hu).1; omega
      obtain ⟨b, o, h, _, hc⟩ := hr hlt
      injection h with h
      subst h
      rw [Addr.add_mid]
      exact hc j u hu
    obtain ⟨v', w', hrun, h2, h3, _, h5⟩ := run_append_own_at (P := P) w base t ty e i z size bytes E.ht hi hz hs hb hzs E.pos v n xs hown ad m c news hl hcells h1 h63' hbytes hbase
    exact ⟨v', w', hrun, h2, h3, h5⟩

theorem wp_app {o : Oper} {a : Act} {K : Act → World → Prop} {Q : Exit → Act → World → Prop} {t e size bytes : Nat} (E : ElemTy P t e size bytes) (s x : Operand)
    (ho : o.op = .call { callee := .builtin .append, args := #[s, x], argTypes := #[t, t] })
    (base : Nat) (v : Value) (n : Nat) (xs : List Value) (hs : a.eval s = v) (hown : w.ownsRow base e size v n xs)
    (A : Option Addr) (m c : Nat) (news : List Value) (hx : a.eval x = .slice A m c) (hr : Rd w A news) (hl : news.length = m * size) (h1 : ∀ u ∈ news, u.oneCell' = true)
    (h63 : n + m ≤ 9223372036854775807) (hbytes : (n + m) * bytes ≤ 140737488355328) (hbase : base ≤ w.heap.size)
    (h : ∀ A' c' w', w'.ownsRow base e size (.slice A' (n + m) c') (n + m) (xs ++ news) → w.grownBy w' v.ownBlock → (Value.ownBlock (.slice A' (n + m) c') = v.ownBlock ∨ Value.ownBlock (.slice A' (n + m) c') = some w.heap.size) → K (a.put o.dst (.slice A' (n + m) c')) w') : o.wp P a w K Q := by
  obtain ⟨v', w', hrun, h2, h3, h4⟩ := run_app (P := P) base (ty := o.type) E v n xs hown A m c news hr hl h1 h63 hbytes hbase
  have hv : ∃ A' c', v' = .slice A' (n + m) c' := by
    rcases h2.2 with ⟨rfl, h0⟩ | ⟨g, cap, cur, rfl, _⟩
    · exact ⟨none, 0, by rw [h0]⟩
    · exact ⟨_, _, rfl⟩
  obtain ⟨A', c', rfl⟩ := hv
  unfold Oper.wp execOp
  simp only [ho, resolve, invoke, builtin, Sem.run_bind, Sem.run_pure, Result.andThen_ok, List.map_toArray, List.map_cons, List.map_nil, hs, hx, hrun]
  exact h A' c' w' h2 h3 h4

theorem wpList_app {ops : Array Oper} {rest : List Oper} {o : Oper} {a : Act} {Q : Exit → Act → World → Prop} {t e size bytes : Nat} (E : ElemTy P t e size bytes) (hgd : o.guard = none) (s x : Operand)
    (ho : o.op = .call { callee := .builtin .append, args := #[s, x], argTypes := #[t, t] })
    (base : Nat) (v : Value) (n : Nat) (xs : List Value) (hs : a.eval s = v) (hown : w.ownsRow base e size v n xs)
    (A : Option Addr) (m c : Nat) (news : List Value) (hx : a.eval x = .slice A m c) (hr : Rd w A news) (hl : news.length = m * size) (h1 : ∀ u ∈ news, u.oneCell' = true)
    (h63 : n + m ≤ 9223372036854775807) (hbytes : (n + m) * bytes ≤ 140737488355328) (hbase : base ≤ w.heap.size)
    (h : ∀ A' c' w', w'.ownsRow base e size (.slice A' (n + m) c') (n + m) (xs ++ news) → w.grownBy w' v.ownBlock → (Value.ownBlock (.slice A' (n + m) c') = v.ownBlock ∨ Value.ownBlock (.slice A' (n + m) c') = some w.heap.size) → wpList P ops Q rest (a.put o.dst (.slice A' (n + m) c')) w') : wpList P ops Q (o :: rest) a w :=
  wpList_plain hgd fun _ hK => wp_app E s x ho base v n xs hs hown A m c news hx hr hl h1 h63 hbytes hbase fun A' c' w' h2 h3 h4 => hK _ _ (h A' c' w' h2 h3 h4)
end

/-- A callee that leaves the world alone, in a region that draws its order. -/
theorem quiet_same {P : Program} {f : FuncId} {args : Array Value} {w : World} {n : Nat} {v : Value}
    (h : Calls P f args (w.drewN n) fun e w' => e = .returned v ∧ w.drewN n = w') : Calls P f args (w.drewN n) fun e w'' => e = .returned v ∧ ∃ m, w'' = w.drewN m :=
  h.mono fun _ _ ⟨he, hm⟩ => ⟨he, n, hm.symm⟩

/-- A byte as a value. -/
abbrev B8 (x : UInt8) : Value := .int .u8 (x.toNat : Int)
theorem one_B8 (xs : List UInt8) : ∀ u ∈ xs.map B8, u.oneCell' = true := by
  intro u hu
  obtain ⟨x, _, rfl⟩ := List.mem_map.1 hu
  rfl
theorem map_get {α : Type} (f : α → Value) (xs : List α) (k : Nat) (h : k < (xs.map f).length) : (xs.map f)[k] = f (xs[k]'(by simpa using h)) := by simp
theorem cell_new (w : World) (c : Array Value) (t : TypeId) (fr : Nat × Nat) (i : Nat) : (w.alloc (.cells c t fr)).cell? ⟨w.heap.size, i, none⟩ = c[i]? :=
  cell_of_row _ _ _ _ _ _ (heap_alloc_new w _)
theorem rd_lit (w : World) (xs : List Value) (t : Nat) (fr : Nat × Nat := (0, 0)) : Rd (w.alloc (.cells xs.toArray t fr)) (some ⟨w.heap.size, 0, none⟩) xs := fun _ => by
  refine ⟨w.heap.size, 0, rfl, by simp, fun j x hj => ?_⟩
  rw [cell_new]
  simpa using hj
theorem rd_one (w : World) (u : Value) (t : Nat) (fr : Nat × Nat := (0, 0)) : Rd (w.alloc (.cells #[u] t fr)) (some ⟨w.heap.size, 0, none⟩) [u] := rd_lit w [u] t fr
theorem sl_lit (w : World) (xs : List Value) (t n c : Nat) (hn : xs.length = n) (hc : c = n) (h : n ≤ 9223372036854775807) (fr : Nat × Nat := (0, 0)) : Sl (w.alloc (.cells xs.toArray t fr)) (some ⟨w.heap.size, 0, none⟩) n c xs :=
  ⟨hn, by omega, by omega, (fun e => by cases e), rd_lit w xs t fr⟩
/-- A slice of bytes. -/
abbrev SlB (w : World) (A : Option Addr) (n c : Nat) (xs : List UInt8) : Prop := Sl w A n c (xs.map B8)
theorem SlB.size {w : World} {A : Option Addr} {n c : Nat} {xs : List UInt8} (h : SlB w A n c xs) : xs.length = n := by simpa using h.len
section
variable {w w' : World} {A : Option Addr} {n c : Nat} {xs : List UInt8}
theorem SlB.ext (h : SlB w A n c xs) (hb : Ext w w') : SlB w' A n c xs := Sl.ext h hb
theorem SlB.alloc (h : SlB w A n c xs) (o : Obj) : SlB (w.alloc o) A n c xs := Sl.alloc h o
theorem SlB.drew (h : SlB w A n c xs) : SlB w.drew A n c xs := Sl.drew h
theorem SlB.drewN (h : SlB w A n c xs) (k : Nat) : SlB (w.drewN k) A n c xs := Sl.drewN h k
end
theorem SlB.of_own {w : World} {base e n c : Nat} {A : Option Addr} {xs : List UInt8} (h : w.ownsRow base e 1 (.slice A n c) n (xs.map B8)) : SlB w A n c xs := Sl.of_own h
theorem SlB.drop' {w : World} {A : Option Addr} {n c : Nat} {xs : List UInt8} (h : SlB w A n c xs) (k : Nat) (hk : k < c) (hk' : k ≤ n) : SlB w (A.map (·.add k)) (n - k) (c - k) (xs.drop k) := by
  have := Sl.drop' h k hk hk'
  rwa [← List.map_drop] at this
theorem SlB.drop {w : World} {A : Option Addr} {n c : Nat} {xs : List UInt8} (h : SlB w A n c xs) (k : Nat) (hk' : k ≤ n) : SlB w (if c = k then A else A.map (·.add k)) (n - k) (c - k) (xs.drop k) := by
  have := Sl.drop h k hk'
  rwa [← List.map_drop] at this
theorem SlB.take {w : World} {A : Option Addr} {n c : Nat} {xs : List UInt8} (h : SlB w A n c xs) (k : Nat) (hk : k ≤ n) : SlB w A k c (xs.take k) := by
  have := Sl.take h k hk
  rwa [← List.map_take] at this
/-- A constant text as bytes. -/
theorem conv_const {P : Program} {t e : Nat} (ht : P.underlying t = some (.slice e)) (he : P.underlying e = some (.int .u8)) (w : World) (C : Array Value) (n c g : Nat) (hg : g = w.heap.size) :
    (convert t t (.slice (some ⟨g, 0, none⟩) n c)).run P (w.alloc (.cells C e)) = .ok (.slice (some ⟨g, 0, none⟩) n c) (w.alloc (.cells C e (C.size, C.size + 1))) := by
  subst hg
  exact Lib.run_convert_bytes_const w t e C n c ht he
theorem min_two (ts : Array TypeId) (ty : TypeId) (k k' : IntKind) (x y z : Int) (hz : z = if y < x then y else x) : Builtin.min_ ts ty #[.int k x, .int k' y] = pure (.int k z) := by
  subst hz
  simp [Builtin.min_, Builtin.min2]
theorem max_two (ts : Array TypeId) (ty : TypeId) (k k' : IntKind) (x y z : Int) (hz : z = if y > x then y else x) : Builtin.max_ ts ty #[.int k x, .int k' y] = pure (.int k z) := by
  subst hz
  simp [Builtin.max_, Builtin.max2]
theorem ret_int {k : IntKind} {a b : Int} (h : a = b) : Ending.returned (.int k a) = .returned (.int k b) := by rw [h]
theorem ret_bool {a b : Bool} (h : a = b) : Ending.returned (.bool a) = .returned (.bool b) := by rw [h]


/-! What comes in: integers, slices of integers. -/
/-- A slice of integers that came in, as a row's frame hands it over. -/
def IsRow (k : IntKind) (w : World) (a : Option Addr) (len cap : Nat) (zs : List Int) : Prop :=
  (a = Option.none ∧ len = 0 ∧ cap = 0 ∧ zs = []) ∨
  ∃ x, a = some x ∧ len ≤ cap ∧ cap ≤ maxLen ∧ zs.length = cap ∧ (∀ i, i < zs.length → w.cell? (x.add i) = some (.int k (zs.getD i 0))) ∧ ∀ n ∈ zs, (Lit.int k n).wf = true
theorem bd_u8 {n : Int} (h : (Lit.int .u8 n).wf = true) : 0 ≤ n ∧ n < 256 := by
  simp [Lit.wf, IntKind.min, IntKind.max, IntKind.signed, IntKind.bits] at h; omega
theorem bd_u16 {n : Int} (h : (Lit.int .u16 n).wf = true) : 0 ≤ n ∧ n < 65536 := by
  simp [Lit.wf, IntKind.min, IntKind.max, IntKind.signed, IntKind.bits] at h; omega
theorem bd_u32 {n : Int} (h : (Lit.int .u32 n).wf = true) : 0 ≤ n ∧ n < 4294967296 := by
  simp [Lit.wf, IntKind.min, IntKind.max, IntKind.signed, IntKind.bits] at h; omega
theorem bd_i64 {n : Int} (h : (Lit.int .i64 n).wf = true) : -9223372036854775808 ≤ n ∧ n ≤ 9223372036854775807 := by
  simp [Lit.wf, IntKind.min, IntKind.max, IntKind.signed, IntKind.bits] at h; omega
theorem bd_i32 {n : Int} (h : (Lit.int .i32 n).wf = true) : -2147483648 ≤ n ∧ n ≤ 2147483647 := by
  simp [Lit.wf, IntKind.min, IntKind.max, IntKind.signed, IntKind.bits] at h; omega
theorem bd_i8 {n : Int} (h : (Lit.int .i8 n).wf = true) : -128 ≤ n ∧ n ≤ 127 := by
  simp [Lit.wf, IntKind.min, IntKind.max, IntKind.signed, IntKind.bits] at h; omega
/-- A slice of integers reads as its numbers; addresses are plain, as every cell's is. -/
theorem IsRow.sl {k : IntKind} {w : World} {a : Option Addr} {len cap : Nat} {zs : List Int} (h : IsRow k w a len cap zs) : Sl w a len cap ((zs.take len).map (Value.int k)) := by
  rcases h with ⟨rfl, rfl, rfl, rfl⟩ | ⟨x, rfl, hl, hm, hz, hcell, hwf⟩
  · exact Sl.nil w
  · refine ⟨by simp; omega, hl, by simpa [maxLen] using hm, (fun e => by cases e), fun hlt => ?_⟩
    have hpos : 0 < zs.length := by simp at hlt; omega
    have hc0 := hcell 0 hpos
    have hx0 : x.add 0 = x := by simp [Addr.add]
    rw [hx0] at hc0
    have hsp : x.spot = Option.none := by
      unfold World.cell? at hc0
      cases hs : x.spot with
      | none => rfl
      | some s => rw [hs] at hc0; simp at hc0; split at hc0 <;> simp at hc0
    obtain ⟨b, o, s⟩ := x
    simp only at hsp
    subst hsp
    refine ⟨b, o, rfl, World.block_lt_of_cell? w _ hc0, fun j u hj => ?_⟩
    have hj' : j < zs.length ∧ j < len := by
      have := (List.getElem?_eq_some_iff.1 hj).1
      simp at this
      omega
    have := hcell j hj'.1
    rw [Addr.add_mid] at this
    rw [this]
    simp [hj'.1, hj'.2] at hj
    rw [← hj]
    simp [List.getD, hj'.1]
theorem IsRow.slB {w : World} {a : Option Addr} {len cap : Nat} {zs : List Int} (h : IsRow .u8 w a len cap zs) : ∃ xs : List UInt8, SlB w a len cap xs := by
  refine ⟨(zs.take len).map (fun z => UInt8.ofNat z.toNat), ?_⟩
  have h1 := h.sl
  have e : ((zs.take len).map (fun z => UInt8.ofNat z.toNat)).map B8 = (zs.take len).map (Value.int .u8) := by
    rw [List.map_map]
    refine List.map_congr_left fun z hz => ?_
    have hw : 0 ≤ z ∧ z < 256 := by
      rcases h with ⟨_, _, _, rfl⟩ | ⟨x, _, _, _, _, _, hwf⟩
      · simp at hz
      · exact bd_u8 (hwf z (List.mem_of_mem_take hz))
    obtain ⟨k, rfl⟩ := Int.eq_ofNat_of_zero_le hw.1
    simp [B8]
    omega
  show Sl w a len cap _
  rw [e]
  exact h1

end Go.Proofs.Ythpogmkhfgkgoaa
