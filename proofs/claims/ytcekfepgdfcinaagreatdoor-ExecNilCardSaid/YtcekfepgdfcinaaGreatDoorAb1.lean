/- A reader of the program's code on plain data: values, a heap of the call's own, and what it means that they stand for what is in memory. -/
import Derived.WalkKit
import Derived.Maps.AppendAt
set_option linter.unusedSimpArgs false
set_option linter.unusedVariables false
namespace Go.Ab
open Go.RowKit

/-- A value, as the reader sees it. -/
inductive V where
  | val (v : Value)
  | ptr (id off : Nat)
  | sl (id off len : Nat)
  | vs (cs : List V) (len : Nat)
  | vp (cs : List V)
  | agg (fl : Bool) (cs : List V)
  | tup (cs : List V)
  | clo (fn : Fn) (fs cap : List V)
  | mp (id : Nat)
  | bo
  | top
instance : Inhabited V := ⟨.top⟩

/-- Where an own block lies. -/
inductive Slot where
  | none
  | nil
  | at (b : Nat) (c : Option Nat)

abbrev Phi := Nat → Slot
def Phi.emp : Phi := fun _ => .none
def Phi.upd (φ : Phi) (d : Nat) (s : Slot) : Phi := fun i => if i = d then s else φ i

def scalar : Value → Bool
  | .bool _ | .int _ _ | .float _ _ | .complex _ _ _ | .string _ | .pointer _ | .map none | .chan none | .nilFunc | .nilIface => true
  | .slice none 0 0 => true
  | .func _ ⟨[]⟩ ⟨[]⟩ => true
  | _ => false

/-- The cells us lie one behind another from A on, in blocks that nobody writes. -/
def Rds (I : Nat → Prop) (w : World) (A : Option Addr) (us : List Value) : Prop :=
  ∀ j u, us[j]? = some u → ∃ b o, A = some ⟨b, o, none⟩ ∧ I b ∧ w.cell? ⟨b, o + j, none⟩ = some u

def ones (us : List Value) : Prop := ∀ u ∈ us, u.oneCell' = true

inductive Rel (I : Nat → Prop) (w : World) : Phi → V → Value → Prop
  | val {φ v} : scalar v = true → Rel I w φ (.val v) v
  | ptr {φ id off b c} : φ id = .at b c → Rel I w φ (.ptr id off) (.pointer (some ⟨b, off, none⟩))
  | sl {φ id off len cap b c} : φ id = .at b c → len ≤ cap → cap ≤ 9223372036854775807 → (∀ k, c = some k → off = 0 → cap = k) →
      Rel I w φ (.sl id off len) (.slice (some ⟨b, off, none⟩) len cap)
  | slnil {φ id} : φ id = .nil → Rel I w φ (.sl id 0 0) (.slice none 0 0)
  | vs {φ cs us len cap A} : us.length = cs.length → (∀ i (h : i < cs.length), Rel I w Phi.emp cs[i] (us.getD i undef)) → ones us → Rds I w A us →
      (A = none → cap = 0) → len ≤ cap → cap ≤ 9223372036854775807 → Rel I w φ (.vs cs len) (.slice A len cap)
  | vp {φ cs us a} : us.length = cs.length → (∀ i (h : i < cs.length), Rel I w Phi.emp cs[i] (us.getD i undef)) → ones us → Rds I w (some a) us →
      Rel I w φ (.vp cs) (.pointer (some a))
  | agg {φ fl cs us} : us.size = cs.length → (∀ i (h : i < cs.length), Rel I w (if fl then Phi.emp else φ) cs[i] (us.toList.getD i undef)) → ones us.toList →
      Rel I w φ (.agg fl cs) (.agg us)
  | tup {φ cs us} : us.size = cs.length → (∀ i (h : i < cs.length), Rel I w φ cs[i] (us.toList.getD i undef)) → Rel I w φ (.tup cs) (.tuple us)
  | clo {φ fn fs cap us vs} : us.size = fs.length → (∀ i (h : i < fs.length), Rel I w φ fs[i] (us.toList.getD i undef)) →
      vs.size = cap.length → (∀ i (h : i < cap.length), Rel I w φ cap[i] (vs.toList.getD i undef)) → Rel I w φ (.clo fn fs cap) (.func fn us vs)
  | mp {φ id b c} : φ id = .at b c → Rel I w φ (.mp id) (.map (some b))
  | bo {φ b} : Rel I w φ .bo (.bool b)
  | top {φ v} : Rel I w φ .top v

/-- From one state of things to a later one. -/
structure XT (I : Nat → Prop) (w : World) (φ : Phi) (I' : Nat → Prop) (w' : World) (φ' : Phi) : Prop where
  at_ : ∀ id b c, φ id = .at b c → φ' id = .at b c
  nil_ : ∀ id, φ id = .nil → φ' id = .nil
  im : ∀ b, I b → I' b ∧ w'.heap[b]? = w.heap[b]?

theorem cell_of_heap {w w' : World} {b o : Nat} (h : w'.heap[b]? = w.heap[b]?) : w'.cell? ⟨b, o, none⟩ = w.cell? ⟨b, o, none⟩ := by
  simp [World.cell?, h]
theorem Rds.mono {I I' : Nat → Prop} {w w' : World} {A : Option Addr} {us : List Value} (im : ∀ b, I b → I' b ∧ w'.heap[b]? = w.heap[b]?) (h : Rds I w A us) : Rds I' w' A us := fun j u hu => by
  obtain ⟨b, o, e, hi, hc⟩ := h j u hu
  exact ⟨b, o, e, (im b hi).1, (cell_of_heap (im b hi).2).trans hc⟩

theorem Rel.mono {I I' : Nat → Prop} {w w' : World} (im : ∀ b, I b → I' b ∧ w'.heap[b]? = w.heap[b]?) {φ : Phi} {x : V} {v : Value} (h : Rel I w φ x v) :
    ∀ φ' : Phi, (∀ id b c, φ id = .at b c → φ' id = .at b c) → (∀ id, φ id = .nil → φ' id = .nil) → Rel I' w' φ' x v := by
  induction h with
  | val h => exact fun _ _ _ => .val h
  | ptr h => exact fun _ ha _ => .ptr (ha _ _ _ h)
  | sl h h1 h2 h3 => exact fun _ ha _ => .sl (ha _ _ _ h) h1 h2 h3
  | slnil h => exact fun _ _ hn => .slnil (hn _ h)
  | vs hl _ h1 hr hA hlc hc ih => exact fun _ _ _ => .vs hl (fun i h => ih i h _ (fun _ _ _ h => h) (fun _ h => h)) h1 (hr.mono im) hA hlc hc
  | vp hl _ h1 hr ih => exact fun _ _ _ => .vp hl (fun i h => ih i h _ (fun _ _ _ h => h) (fun _ h => h)) h1 (hr.mono im)
  | @agg φ fl cs us hl _ h1 ih =>
    intro φ' ha hn
    refine .agg hl (fun i h => ih i h _ ?_ ?_) h1
    · cases fl
      · exact ha
      · exact fun _ _ _ h => h
    · cases fl
      · exact hn
      · exact fun _ h => h
  | tup hl _ ih => exact fun _ ha hn => .tup hl (fun i h => ih i h _ ha hn)
  | clo hl _ hl2 _ ih ih2 => exact fun _ ha hn => .clo hl (fun i h => ih i h _ ha hn) hl2 (fun i h => ih2 i h _ ha hn)
  | mp h => exact fun _ ha _ => .mp (ha _ _ _ h)
  | bo => exact fun _ _ _ => .bo
  | top => exact fun _ _ _ => .top
theorem Rel.xt {I I' : Nat → Prop} {w w' : World} {φ φ' : Phi} {x : V} {v : Value} (h : Rel I w φ x v) (hx : XT I w φ I' w' φ') : Rel I' w' φ' x v :=
  h.mono hx.im _ hx.at_ hx.nil_
theorem Rel.of_emp {I : Nat → Prop} {w : World} {φ : Phi} {x : V} {v : Value} (h : Rel I w Phi.emp x v) : Rel I w φ x v :=
  h.mono (fun _ hb => ⟨hb, rfl⟩) _ (fun _ _ _ h => by cases h) (fun _ h => by cases h)

def flat : V → Bool
  | .val _ | .vs _ _ | .vp _ | .bo | .top => true
  | .agg fl _ => fl
  | _ => false
theorem Rel.emp {I : Nat → Prop} {w : World} {φ : Phi} {x : V} {v : Value} (h : Rel I w φ x v) (hf : flat x = true) : Rel I w Phi.emp x v := by
  cases h with
  | val h => exact .val h
  | vs a b c d e f g => exact .vs a b c d e f g
  | vp a b c d => exact .vp a b c d
  | agg hl hr h1 =>
    simp only [flat] at hf
    subst hf
    exact .agg hl (fun i h => by simpa using hr i h) h1
  | bo => exact .bo
  | top => exact .top
  | ptr => simp [flat] at hf
  | sl => simp [flat] at hf
  | slnil => simp [flat] at hf
  | tup => simp [flat] at hf
  | clo => simp [flat] at hf
  | mp => simp [flat] at hf

theorem scalar_one {v : Value} (h : scalar v = true) : v.oneCell' = true := by
  cases v <;> simp_all [scalar, Value.oneCell']
/-- One cell: neither an aggregate nor several results nor unknown. -/
def V.one : V → Bool
  | .val _ | .ptr _ _ | .sl _ _ _ | .vs _ _ | .vp _ | .clo _ _ _ | .mp _ | .bo => true
  | _ => false
theorem Rel.one {I : Nat → Prop} {w : World} {φ : Phi} {x : V} {v : Value} (h : Rel I w φ x v) (h1 : x.one = true) : v.oneCell' = true := by
  cases h <;> first | exact scalar_one ‹_› | rfl | simp [V.one] at h1

/-- The cells that a value is laid as. -/
def V.cells : V → Option (List V)
  | .agg _ cs => some cs
  | x => if x.one then some [x] else none

/-- A block of the call's own. bld: it is what a slice was made of or appended to: the element's type and cells. -/
structure Blk where
  cells : List V
  flat : Bool
  size : Nat
  bld : Option (Nat × Nat)

def RelL (I : Nat → Prop) (w : World) (φ : Phi) (cs : List V) (us : List Value) : Prop :=
  us.length = cs.length ∧ (∀ i (h : i < cs.length), Rel I w φ cs[i] (us.getD i undef)) ∧ ones us

theorem RelL.mono {I I' : Nat → Prop} {w w' : World} (im : ∀ b, I b → I' b ∧ w'.heap[b]? = w.heap[b]?) {φ φ' : Phi} {cs : List V} {us : List Value} (h : RelL I w φ cs us)
    (ha : ∀ id b c, φ id = .at b c → φ' id = .at b c) (hn : ∀ id, φ id = .nil → φ' id = .nil) : RelL I' w' φ' cs us :=
  ⟨h.1, fun i hi => (h.2.1 i hi).mono im _ ha hn, h.2.2⟩
theorem RelL.nil {I : Nat → Prop} {w : World} {φ : Phi} : RelL I w φ [] [] := ⟨rfl, fun i h => by simp at h, fun u h => by simp at h⟩
theorem RelL.cons {I : Nat → Prop} {w : World} {φ : Phi} {x : V} {u : Value} {cs : List V} {us : List Value} (hx : Rel I w φ x u) (h1 : u.oneCell' = true) (h : RelL I w φ cs us) : RelL I w φ (x :: cs) (u :: us) := by
  refine ⟨by simp [h.1], fun i hi => ?_, fun y hy => ?_⟩
  · cases i with
    | zero => simpa using hx
    | succ i => simpa using h.2.1 i (by simpa using hi)
  · rcases List.mem_cons.1 hy with rfl | hy
    · exact h1
    · exact h.2.2 y hy
theorem getD_append {α : Type} (l r : List α) (i : Nat) (d : α) : (l ++ r).getD i d = if i < l.length then l.getD i d else r.getD (i - l.length) d := by
  simp only [List.getD_eq_getElem?_getD, List.getElem?_append]
  split <;> rfl
theorem RelL.append {I : Nat → Prop} {w : World} {φ : Phi} {cs ds : List V} {us vs : List Value} (h : RelL I w φ cs us) (k : RelL I w φ ds vs) : RelL I w φ (cs ++ ds) (us ++ vs) := by
  refine ⟨by simp [h.1, k.1], fun i hi => ?_, fun u hu => ?_⟩
  · rw [getD_append, List.getElem_append, h.1]
    split
    · exact h.2.1 i ‹_›
    · exact k.2.1 _ _
  · rcases List.mem_append.1 hu with hu | hu
    · exact h.2.2 u hu
    · exact k.2.2 u hu
theorem RelL.drop {I : Nat → Prop} {w : World} {φ : Phi} {cs : List V} {us : List Value} (h : RelL I w φ cs us) (n : Nat) : RelL I w φ (cs.drop n) (us.drop n) := by
  refine ⟨by simp [h.1], fun i hi => ?_, fun u hu => h.2.2 u (List.mem_of_mem_drop hu)⟩
  rw [List.getElem_drop]
  have : (us.drop n).getD i undef = us.getD (n + i) undef := by simp [List.getD_eq_getElem?_getD, List.getElem?_drop]
  rw [this]
  exact h.2.1 _ _
theorem RelL.take {I : Nat → Prop} {w : World} {φ : Phi} {cs : List V} {us : List Value} (h : RelL I w φ cs us) (n : Nat) : RelL I w φ (cs.take n) (us.take n) := by
  refine ⟨by simp [h.1], fun i hi => ?_, fun u hu => h.2.2 u (List.mem_of_mem_take hu)⟩
  rw [List.getElem_take]
  have hn : i < n := by simp at hi; omega
  have : (us.take n).getD i undef = us.getD i undef := by simp [List.getD_eq_getElem?_getD, hn]
  rw [this]
  exact h.2.1 _ _
theorem RelL.get {I : Nat → Prop} {w : World} {φ : Phi} {cs : List V} {us : List Value} (h : RelL I w φ cs us) {i : Nat} {x : V} (hx : cs[i]? = some x) : ∃ u, us[i]? = some u ∧ Rel I w φ x u ∧ u.oneCell' = true := by
  obtain ⟨hi, rfl⟩ := List.getElem?_eq_some_iff.1 hx
  have hi' : i < us.length := by rw [h.1]; exact hi
  refine ⟨us[i], List.getElem?_eq_getElem hi', ?_, h.2.2 _ (List.getElem_mem hi')⟩
  have := h.2.1 i hi
  simpa [List.getD_eq_getElem?_getD, List.getElem?_eq_getElem hi'] using this
theorem RelL.set {I : Nat → Prop} {w : World} {φ : Phi} {cs : List V} {us : List Value} (h : RelL I w φ cs us) {i : Nat} {x : V} {u : Value} (hx : Rel I w φ x u) (h1 : u.oneCell' = true) : RelL I w φ (cs.set i x) (us.set i u) := by
  refine ⟨by simp [h.1], fun k hk => ?_, fun y hy => ?_⟩
  · have hk' : k < cs.length := by simpa using hk
    rw [List.getElem_set]
    have hku : k < us.length := by rw [h.1]; exact hk'
    rw [List.getD_eq_getElem?_getD, List.getElem?_set]
    split
    · rename_i e; subst e; simp [hku]; exact hx
    · have := h.2.1 k hk'
      rwa [List.getD_eq_getElem?_getD] at this
  · rcases List.mem_or_eq_of_mem_set hy with hy | rfl
    · exact h.2.2 y hy
    · exact h1
def bFlat (φ : Phi) (fl : Bool) : Phi := if fl then Phi.emp else φ
theorem Rel.cellsB {I : Nat → Prop} {w : World} {φ : Phi} {x : V} {v : Value} {cs : List V} (h : Rel I w φ x v) (hc : x.cells = some cs) :
    RelL I w (bFlat φ (flat x)) cs v.cells.toList := by
  cases h with
  | agg hl hr h1 =>
    rename_i fl cs' us
    simp only [V.cells, Option.some.injEq] at hc
    subst hc
    exact ⟨by simpa [Value.cells] using hl, fun i hi => hr i hi, h1⟩
  | val h =>
    simp [V.cells, V.one] at hc
    subst hc
    have h1 := scalar_one h
    have hcells : v.cells = #[v] := by cases v <;> first | rfl | simp [scalar] at h
    rw [hcells]
    exact RelL.cons (.val h) h1 RelL.nil
  | ptr h => simp [V.cells, V.one] at hc; subst hc; exact RelL.cons (.ptr h) rfl RelL.nil
  | sl a b c d => simp [V.cells, V.one] at hc; subst hc; exact RelL.cons (.sl a b c d) rfl RelL.nil
  | slnil a => simp [V.cells, V.one] at hc; subst hc; exact RelL.cons (.slnil a) rfl RelL.nil
  | vs a b c d e f g => simp [V.cells, V.one] at hc; subst hc; exact RelL.cons (.vs a b c d e f g) rfl RelL.nil
  | vp a b c d => simp [V.cells, V.one] at hc; subst hc; exact RelL.cons (.vp a b c d) rfl RelL.nil
  | clo a b c d => simp [V.cells, V.one] at hc; subst hc; exact RelL.cons (.clo a b c d) rfl RelL.nil
  | tup => simp [V.cells, V.one] at hc
  | mp h => simp [V.cells, V.one] at hc; subst hc; exact RelL.cons (.mp h) rfl RelL.nil
  | bo => simp [V.cells, V.one] at hc; subst hc; exact RelL.cons .bo rfl RelL.nil
  | top => simp [V.cells, V.one] at hc

def lk {α : Type} : List (Nat × α) → Nat → Option α
  | [], _ => none
  | (k, x) :: r, t => if t == k then some x else lk r t
/-- Values one behind another. -/
inductive RelV (I : Nat → Prop) (w : World) (φ : Phi) : List V → List Value → Prop
  | nil : RelV I w φ [] []
  | cons {x u xs us} : Rel I w φ x u → RelV I w φ xs us → RelV I w φ (x :: xs) (u :: us)
theorem RelV.imp {I I' : Nat → Prop} {w w' : World} {φ φ' : Phi} {f : V → V} (hf : ∀ x u, Rel I w φ x u → Rel I' w' φ' (f x) u) {xs : List V} {us : List Value} (h : RelV I w φ xs us) : RelV I' w' φ' (xs.map f) us := by
  induction h with
  | nil => exact .nil
  | cons hx _ ih => exact .cons (hf _ _ hx) ih
theorem RelV.impMem {I I' : Nat → Prop} {w w' : World} {φ φ' : Phi} {f : V → V} {xs : List V} {us : List Value} (h : RelV I w φ xs us) (hf : ∀ x ∈ xs, ∀ u, Rel I w φ x u → Rel I' w' φ' (f x) u) : RelV I' w' φ' (xs.map f) us := by
  induction h with
  | nil => exact .nil
  | cons hx _ ih => exact .cons (hf _ (List.mem_cons_self ..) _ hx) (ih fun x hm => hf x (List.mem_cons_of_mem _ hm))
theorem RelV.mono {I I' : Nat → Prop} {w w' : World} (im : ∀ b, I b → I' b ∧ w'.heap[b]? = w.heap[b]?) {φ φ' : Phi} {cs : List V} {us : List Value} (h : RelV I w φ cs us)
    (ha : ∀ id b c, φ id = .at b c → φ' id = .at b c) (hn : ∀ id, φ id = .nil → φ' id = .nil) : RelV I' w' φ' cs us := by
  have := h.imp (f := fun x => x) (fun x u hx => hx.mono im φ' ha hn)
  rwa [List.map_id'] at this
/-- Is it a map's block? -/
def isMp (blk : Blk) : Bool := match blk.bld with
  | some (_, 0) => true
  | _ => false
/-- May it come to lie elsewhere? -/
def mv (blk : Blk) : Bool := blk.bld.isSome && !(isMp blk)
/-- A map's entries, keys and values by turns. -/
def ents (es : Array MapEntry) : List Value := es.toList.flatMap fun e => [e.key, e.val]
/-- Each entry has a stamp of its own, below the clock. -/
def Stamps (es : Array MapEntry) (clock : Nat) : Prop := (∀ e ∈ es.toList, e.born < clock) ∧ es.toList.Pairwise fun a b => a.born ≠ b.born
/-- Pairs one behind another. -/
def flatP (ks : List (V × V)) : List V := ks.flatMap fun p => [p.1, p.2]
theorem flatP_cons (p : V × V) (ks : List (V × V)) : flatP (p :: ks) = p.1 :: p.2 :: flatP ks := rfl
theorem flatP_app (a b : List (V × V)) : flatP (a ++ b) = flatP a ++ flatP b := by simp [flatP]
theorem flatP_map (f : V → V) : ∀ ks : List (V × V), (flatP ks).map f = flatP (ks.map fun p => (f p.1, f p.2))
  | [] => rfl
  | p :: r => by rw [flatP_cons, List.map_cons, List.map_cons, List.map_cons, flatP_cons, flatP_map f r]
theorem flatP_mem {x : V} {ks : List (V × V)} : x ∈ flatP ks ↔ ∃ p ∈ ks, x = p.1 ∨ x = p.2 := by simp [flatP]
theorem flatP_perm {ks ks' : List (V × V)} (h : ks.Perm ks') {x : V} (hx : x ∈ flatP ks') : x ∈ flatP ks := by
  obtain ⟨p, hp, he⟩ := flatP_mem.1 hx
  exact flatP_mem.2 ⟨p, h.mem_iff.2 hp, he⟩
/-- A map's block: its pairs in whatever order. -/
def MRel (I : Nat → Prop) (w : World) (φ : Phi) (b : Nat) (c : Option Nat) (blk : Blk) : Prop :=
  c = none ∧ ∃ es clock ks ks', w.heap[b]? = some (.map es clock) ∧ blk.cells = flatP ks ∧ ks.Perm ks' ∧ RelV I w (bFlat φ blk.flat) (flatP ks') (ents es) ∧ Stamps es clock
def CRel (I : Nat → Prop) (w : World) (φ : Phi) (b : Nat) (c : Option Nat) (blk : Blk) : Prop :=
  ∃ us el, w.heap[b]? = some (.cells us el) ∧ RelL I w (bFlat φ blk.flat) blk.cells (us.toList.take blk.cells.length) ∧
      match blk.bld with
      | none => us.size = blk.cells.length ∧ blk.cells.length = blk.size ∧ c = none
      | some (e, sz) => el = e ∧ ∃ cap n, c = some cap ∧ blk.cells.length = n * sz ∧ n ≤ cap ∧ cap ≤ 9223372036854775807 ∧ us.size = cap * sz
def BlkRel (I : Nat → Prop) (w : World) (φ : Phi) (s : Slot) (blk : Blk) : Prop :=
  match s with
  | .none => True
  | .nil => blk.cells = [] ∧ mv blk = true
  | .at b c => match isMp blk with
    | true => MRel I w φ b c blk
    | false => CRel I w φ b c blk
theorem RelL.impMem {I I' : Nat → Prop} {w w' : World} {φ φ' : Phi} {f : V → V} {xs : List V} {us : List Value} (h : RelL I w φ xs us) (hf : ∀ x ∈ xs, ∀ u, Rel I w φ x u → Rel I' w' φ' (f x) u) : RelL I' w' φ' (xs.map f) us := by
  refine ⟨by simpa using h.1, fun i hi => ?_, h.2.2⟩
  have hi' : i < xs.length := by simpa using hi
  rw [List.getElem_map]
  exact hf _ (List.getElem_mem hi') _ (h.2.1 i hi')
theorem isMp_congr {b b' : Blk} (h : b'.bld = b.bld) : isMp b' = isMp b := by
  unfold isMp
  rw [h]
/-- A block stands as it did, each cell in other words. -/
theorem BlkRel.imp {I I' : Nat → Prop} {w w' : World} {φ φ' : Phi} {s : Slot} {blk : Blk} (f : V → V) (fl' : Bool) (h : BlkRel I w φ s blk) (hw : ∀ b c, s = .at b c → w'.heap[b]? = w.heap[b]?)
    (hf : ∀ x ∈ blk.cells, ∀ u, Rel I w (bFlat φ blk.flat) x u → Rel I' w' (bFlat φ' fl') (f x) u) : BlkRel I' w' φ' s { blk with cells := blk.cells.map f, flat := fl' } := by
  cases s with
  | none => trivial
  | nil =>
    obtain ⟨h1, h2⟩ := h
    exact ⟨by simp [h1], h2⟩
  | «at» b c =>
    have hm : isMp { blk with cells := blk.cells.map f, flat := fl' } = isMp blk := isMp_congr rfl
    simp only [BlkRel, hm] at h ⊢
    cases hmp : isMp blk with
    | true =>
      rw [hmp] at h
      obtain ⟨h1, es, cl, ks, ks', h2, h3, h4, h5, h6⟩ := h
      refine ⟨h1, es, cl, ks.map fun p => (f p.1, f p.2), ks'.map fun p => (f p.1, f p.2), (hw b c rfl).trans h2, ?_, h4.map _, ?_, h6⟩
      · show blk.cells.map f = _
        rw [h3, flatP_map]
      · show RelV I' w' (bFlat φ' fl') _ _
        rw [← flatP_map]
        exact h5.impMem fun x hx u hu => hf x (by rw [h3]; exact flatP_perm h4 hx) u hu
    | false =>
      rw [hmp] at h
      obtain ⟨us, el, h1, h2, h3⟩ := h
      refine ⟨us, el, (hw b c rfl).trans h1, ?_, ?_⟩
      · simp only [List.length_map]
        exact h2.impMem hf
      · simp only [List.length_map]
        exact h3
theorem BlkRel.to {I I' : Nat → Prop} {w w' : World} {φ φ' : Phi} {s : Slot} {blk : Blk} (h : BlkRel I w φ s blk) (hw : ∀ b c, s = .at b c → w'.heap[b]? = w.heap[b]?)
    (hf : ∀ x ∈ blk.cells, ∀ u, Rel I w (bFlat φ blk.flat) x u → Rel I' w' (bFlat φ' blk.flat) x u) : BlkRel I' w' φ' s blk := by
  have := h.imp (fun x => x) blk.flat hw hf
  simpa only [List.map_id'] using this
theorem mv_some {blk : Blk} {e sz : Nat} (h : blk.bld = some (e, sz)) (hs : 0 < sz) : mv blk = true := by
  unfold mv isMp
  rw [h]
  cases sz with
  | zero => omega
  | succ n => rfl
theorem isMp_some {blk : Blk} {e sz : Nat} (h : blk.bld = some (e, sz)) (hs : 0 < sz) : isMp blk = false := by
  unfold isMp
  rw [h]
  cases sz with
  | zero => omega
  | succ n => rfl
theorem CRel.blk {I : Nat → Prop} {w : World} {φ : Phi} {b : Nat} {c : Option Nat} {blk : Blk} (h : CRel I w φ b c blk) (hm : isMp blk = false) : BlkRel I w φ (.at b c) blk := by
  simp only [BlkRel, hm]
  exact h
/-- A block of cells. -/
def lkC (H : List (Nat × Blk)) (id : Nat) : Option Blk := match lk H id with
  | some blk => match isMp blk with
    | true => none
    | false => some blk
  | none => none
theorem lkC_lk {H : List (Nat × Blk)} {id : Nat} {blk : Blk} (h : lkC H id = some blk) : lk H id = some blk ∧ isMp blk = false := by
  unfold lkC at h
  split at h
  · rename_i b hb
    split at h
    · cases h
    · rename_i hm
      cases h
      exact ⟨hb, hm⟩
  · cases h

/-! The reader's state. -/
/-- Put in, the keys rising. -/
def ins {α : Type} (t : Nat) (x : α) : List (Nat × α) → List (Nat × α)
  | [] => [(t, x)]
  | (k, y) :: r => if t == k then (t, x) :: r else if Nat.blt t k then (t, x) :: (k, y) :: r else (k, y) :: ins t x r
theorem lk_ins {α : Type} (t : Nat) (x : α) (l : List (Nat × α)) (k : Nat) : lk (ins t x l) k = if k = t then some x else lk l k := by
  induction l with
  | nil => simp [ins, lk]
  | cons p r ih =>
    obtain ⟨q, y⟩ := p
    simp only [ins]
    by_cases h : t = q
    · subst h
      simp only [beq_self_eq_true, if_true, lk, beq_iff_eq]
      split <;> rfl
    · simp only [beq_iff_eq, h, if_false]
      split
      · simp only [lk, beq_iff_eq]
      · simp only [lk, beq_iff_eq, ih]
        by_cases hk : k = q
        · subst hk
          simp [show ¬ k = t from fun e => h e.symm]
        · simp [hk]
inductive T where
  | plain (x : V)
  | gd (d : Nat) (want : Bool) (x : V)

structure St where
  tm : List (Nat × T)
  H : List (Nat × Blk)

def TRel (I : Nat → Prop) (w : World) (φ : Phi) (tmps : Array Value) (t : Nat) : T → Prop
  | .plain x => Rel I w φ x (tmps.getD t undef)
  | .gd d want x => (tmps.getD d undef = .bool want → Rel I w φ x (tmps.getD t undef)) ∧ (tmps.getD d undef ≠ .bool want → tmps.getD t undef = undef)

def Imm (φ : Phi) (X : Nat → Prop) (w : World) (b : Nat) : Prop := b < w.heap.size ∧ (∀ id c, φ id ≠ .at b c) ∧ ¬X b

/-- Old memory is as it was, but for some blocks. -/
structure Frm (φ0 : Phi) (w w' : World) : Prop where
  os : w'.os = w.os
  tape : w'.tape = w.tape
  output : w'.output = w.output
  size : w.heap.size ≤ w'.heap.size
  block : ∀ b, b < w.heap.size → (∀ id c, φ0 id ≠ .at b c) → w'.heap[b]? = w.heap[b]?

def HR (I : Nat → Prop) (w : World) (φ : Phi) (H : List (Nat × Blk)) : Prop := ∀ id blk, lk H id = some blk → BlkRel I w φ (φ id) blk

/-- How own ids lie: no two alike, none protected, and each known to H. -/
structure Phi.ok (φ : Phi) (X : Nat → Prop) (w : World) (H : List (Nat × Blk)) : Prop where
  inj : ∀ i j b c c', φ i = .at b c → φ j = .at b c' → i = j
  lt : ∀ i b c, φ i = .at b c → b < w.heap.size
  free : ∀ i b c, φ i = .at b c → ¬X b
  dom : ∀ i, lk H i = none → φ i = .none

def dropC : Nat → List V → List V
  | 0, cs => cs
  | n, cs => cs.drop n
theorem dropC_eq (n : Nat) (cs : List V) : dropC n cs = cs.drop n := by cases n <;> rfl
/-- Own numbers from here on are those of blocks that the caller lends to be written. -/
def BIG : Nat := 1000000000
/-- .. and from here on those that stay where they are. -/
def BIG2 : Nat := 2000000000
def stayS (id : Nat) : Slot → Prop
  | .none => False
  | .nil => BIG2 ≤ id
  | .at _ c => c = .none ∨ BIG2 ≤ id
theorem Frm.refl (φ : Phi) (w : World) : Frm φ w w := ⟨rfl, rfl, rfl, Nat.le_refl _, fun _ _ _ => rfl⟩
end Go.Ab
