/- Operations one behind another; the order that is drawn. -/
import Derived.Test.YtmeiemdnhjnpcaaAb10
set_option linter.unusedSimpArgs false
set_option linter.unusedVariables false
namespace Go.Ab
open Go.RowKit

/-- What holds where an operation of this guard comes up. -/
def chainOf (tm : List (Nat × T)) : Nat → Tmp → Bool → List (Nat × Bool)
  | 0, _, _ => []
  | n + 1, d, want => (d, want) :: match lk tm d with
    | some (.gd d2 w2 _) => chainOf tm n d2 w2
    | _ => []
def hasP (ch : List (Nat × Bool)) (d : Nat) (w : Bool) : Bool := ch.any fun p => p.1 == d && p.2 == w
def rdT (tm : List (Nat × T)) (ch : List (Nat × Bool)) (t : Tmp) : Option V :=
  match lk tm t with
  | some (.plain x) => some x
  | some (.gd d w x) => if hasP ch d w then some x else none
  | none => none
def rdA (tm : List (Nat × T)) (ch : List (Nat × Bool)) : Operand → Option V
  | .tmp t => rdT tm ch t
  | .const v => if scalar v then some (.val v) else none
  | .func f => some (.val (.func (.func f) #[] #[]))
  | .global g => (lk gTab g).map .vp
def rdC (tm : List (Nat × T)) (ch : List (Nat × Bool)) (b : Bool) (t : Tmp) : Operand → Option V := rdA tm (chainOf tm 20 t b ++ ch)
/-- The tests on the way to it. -/
def condsOf (tm : List (Nat × T)) : List (Nat × Bool) → Option (List Prop)
  | [] => some []
  | (d, w) :: r => match lk tm d, condsOf tm r with
    | some (.plain (.val (.bool b))), some ps => some ((b = w) :: ps)
    | some (.gd _ _ (.val (.bool b))), some ps => some ((b = w) :: ps)
    | _, _ => none
def imp : List Prop → Prop → Prop
  | [], p => p
  | c :: r, p => c → imp r p

structure Hint where
  sym : Option V
  cr : Option CR
def symOf (hs : List (Nat × Hint)) (i : Nat) : Option V := (lk hs i).bind (·.sym)
def crOf (hs : List (Nat × Hint)) (i : Nat) : Option CR := (lk hs i).bind (·.cr)

structure Cx where
  P : Program
  tc : List (Nat × TI)
  n : Nat

structure Out1 where
  obl : List Prop
  t : T
  new : List (Nat × Blk)
def nv : List V → V
  | [] => .top
  | v :: _ => v
/-- One operation of a segment: what is owed, what it yields, what is new. -/
def step1 (C : Cx) (ops : List Oper) (hs : List (Nat × Hint)) (i : Nat) (s : St) (o : Oper) : Option Out1 :=
  match o.guard with
  | none => match stepV C.P C.tc s.H (symOf hs i) (crOf hs i) (rdA s.tm []) (rdC s.tm []) o with
    | some r => some ⟨r.obl, .plain r.v, r.new⟩
    | none => none
  | some (j, want) => match (ops[j]?).bind (·.dst) with
    | some d => match symOf hs i with
      | some (.tup l) => match condsOf s.tm (chainOf s.tm 20 d want) with
        | some cs => some ⟨[imp cs False], .gd d want (nv l), []⟩
        | none => none
      | _ => match condsOf s.tm (chainOf s.tm 20 d want), stepV C.P C.tc s.H (symOf hs i) (crOf hs i) (rdA s.tm (chainOf s.tm 20 d want)) (rdC s.tm (chainOf s.tm 20 d want)) o with
        | some cs, some ⟨obl, v, new⟩ => some ⟨(if obl.isEmpty then [] else [imp cs (AllP obl)]), .gd d want v, new⟩
        | _, _ => none
    | none => none

section
variable {I : Nat → Prop} {P : Program} {w w' : World} {φ φ' : Phi} {X : Nat → Prop} {tm : List (Nat × T)} {H : List (Nat × Blk)} {a : Act} {C : Cx}

def TmRel (I : Nat → Prop) (w : World) (φ : Phi) (tm : List (Nat × T)) (a : Act) : Prop := ∀ t x, lk tm t = some x → TRel I w φ a.tmps t x
def holds (a : Act) (ch : List (Nat × Bool)) : Prop := ∀ p ∈ ch, a.tmps.getD p.1 undef = .bool p.2

theorem chain_holds (ht : TmRel I w φ tm a) : ∀ (n : Nat) (d : Tmp) (want : Bool), a.tmps.getD d undef = .bool want → holds a (chainOf tm n d want)
  | 0, _, _, _ => fun p hp => by simp [chainOf] at hp
  | n + 1, d, want, h => fun p hp => by
    simp only [chainOf, List.mem_cons] at hp
    rcases hp with rfl | hp
    · exact h
    · split at hp
      · rename_i d2 w2 x hx
        have := ht d _ hx
        refine chain_holds ht n d2 w2 ?_ p hp
        refine Classical.byContradiction fun hne => ?_
        have := this.2 hne
        rw [h] at this
        cases this
      · simp at hp
theorem hasP_holds {ch : List (Nat × Bool)} (h : holds a ch) {d : Nat} {b : Bool} (hp : hasP ch d b = true) : a.tmps.getD d undef = .bool b := by
  simp only [hasP, List.any_eq_true, Bool.and_eq_true, beq_iff_eq] at hp
  obtain ⟨p, h1, h2, h3⟩ := hp
  subst h2
  subst h3
  exact h p h1
theorem rdA_ok (hG : GOk I w) (ht : TmRel I w φ tm a) {ch : List (Nat × Bool)} (h : holds a ch) (y : Operand) (x : V) (hr : rdA tm ch y = some x) : Rel I w φ x (a.eval y) := by
  cases y with
  | tmp t =>
    simp only [rdA, rdT] at hr
    split at hr
    · rename_i z hz
      cases hr
      exact ht t _ hz
    · rename_i d b z hz
      split at hr
      · rename_i hp
        cases hr
        exact (ht t _ hz).1 (hasP_holds h hp)
      · cases hr
    · cases hr
  | const v =>
    simp only [rdA] at hr
    split at hr
    · rename_i hs
      cases hr
      exact .val hs
    · cases hr
  | func f => cases hr; exact .val rfl
  | global g =>
    simp only [rdA, Option.map_eq_some_iff] at hr
    obtain ⟨xs, hx, rfl⟩ := hr
    have := hG g xs hx
    show Rel I w φ (.vp xs) (.pointer (some ⟨g, 0, none⟩))
    cases this with
    | vp q1 q2 q3 q4 => exact .vp q1 q2 q3 q4
theorem rdC_ok (hG : GOk I w) (ht : TmRel I w φ tm a) {ch : List (Nat × Bool)} (h : holds a ch) (b : Bool) (t : Tmp) (y : Operand) (x : V) (hr : rdC tm ch b t y = some x) (hb : a.tmps.getD t undef = .bool b) : Rel I w φ x (a.eval y) := by
  refine rdA_ok hG ht (fun p hp => ?_) y x hr
  rcases List.mem_append.1 hp with hp | hp
  · exact chain_holds ht 20 t b hb p hp
  · exact h p hp
theorem conds_hold (ht : TmRel I w φ tm a) : ∀ {ch : List (Nat × Bool)} {cs : List Prop}, condsOf tm ch = some cs → holds a ch → AllP cs
  | [], cs, h, _ => by cases h; trivial
  | (d, b) :: r, cs, h, hh => by
    unfold condsOf at h
    have hd : a.tmps.getD d undef = .bool b := hh (d, b) (by simp)
    have hr : holds a r := fun p hp => hh p (by simp [hp])
    split at h
    · rename_i b' ps hl hps
      cases h
      have := Rel.val_inv (ht d _ hl)
      rw [hd] at this
      cases this
      exact ⟨rfl, conds_hold ht hps hr⟩
    · rename_i d2 w2 b' ps hl hps
      cases h
      have h2 := ht d _ hl
      have : a.tmps.getD d2 undef = .bool w2 := Classical.byContradiction fun hne => by
        have := h2.2 hne
        rw [hd] at this
        cases this
      have := Rel.val_inv (h2.1 this)
      rw [hd] at this
      cases this
      exact ⟨rfl, conds_hold ht hps hr⟩
    · cases h
theorem imp_mp : ∀ {cs : List Prop} {p : Prop}, imp cs p → AllP cs → p
  | [], _, h, _ => h
  | _ :: _, _, h, k => imp_mp (h k.1) k.2

theorem yielded_of {ops : List Oper} {j : Nat} {d : Tmp} (hd : (ops[j]?).bind (·.dst) = some d) (tmps : Array Value) (want : Bool) : (yielded ops.toArray tmps j == some want) = true ↔ tmps.getD d undef = .bool want := by
  unfold yielded
  have e : (ops.toArray[j]?).bind (·.dst) = some d := by simpa using hd
  simp only [e, Option.bind_some]
  cases ht : tmps[d]? with
  | none => simp [Array.getD_eq_getD_getElem?, ht, undef]
  | some v =>
    simp only [Array.getD_eq_getD_getElem?, ht, Option.getD_some]
    cases v <;> simp

/-- What an operation leaves in its slot. -/
theorem step1_ok (hT : TCok C.P C.tc) {s : St} (hφ : Phi.ok φ X w H) (hX : ∀ b, X b → b < w.heap.size) (hH : HR (Imm φ X w) w φ s.H) (hG : GOk (Imm φ X w) w) (ht : TmRel (Imm φ X w) w φ s.tm a) {ops : List Oper} {hs : List (Nat × Hint)} {i : Nat} {o : Oper} {r : Out1} (h : step1 C ops hs i s o = some r) (ho : AllP r.obl)
    (hnew : ∀ id, lk r.new id ≠ none → φ id = .none) (Q : Exit → Act → World → Prop) (K : Act → World → Prop)
    (hK : ∀ u w' φ', Gr φ w φ' w' r.new → (∀ tmps : Array Value, (∀ d want x, r.t = .gd d want x → tmps.getD d undef = a.tmps.getD d undef) → ∀ t, tmps.getD t undef = u → TRel (Imm φ' X w') w' φ' tmps t r.t) → (∀ id blk, lk r.new id = some blk → BlkRel (Imm φ' X w') w' φ' (φ' id) blk) → K (a.put o.dst u) w') :
    if Region.wanted o (yielded ops.toArray a.tmps) then o.wp C.P a w K Q else K (a.put o.dst undef) w := by
  unfold step1 at h
  split at h
  · rename_i hg
    simp only [Region.wanted, hg, if_true]
    split at h
    · rename_i r0 hr0
      cases h
      refine stepV_ok hT hφ hX hH hG (rdA_ok hG ht (fun p hp => by simp at hp)) (rdC_ok hG ht (fun p hp => by simp at hp)) hr0 ho hnew Q K (fun u w' φ' h1 h2 h3 => hK u w' φ' h1 (fun tmps _ t e => ?_) h3)
      subst e
      exact h2
    · cases h
  · rename_i j want hg
    simp only [Region.wanted, hg]
    split at h
    · rename_i d hd
      split at h
      · split at h
        · rename_i cs hcs
          cases h
          have hy := yielded_of hd a.tmps want
          by_cases hw : a.tmps.getD d undef = .bool want
          · exact (imp_mp ho.1 (conds_hold ht hcs (chain_holds ht 20 d want hw))).elim
          · rw [if_neg (fun e => hw (hy.1 e))]
            refine hK undef w φ (Gr.skip hnew) (fun tmps hk t e => ?_) (fun id blk hb => (by cases hb))
            have e2 := hk d want _ rfl
            exact ⟨fun h => absurd (e2.symm.trans h) hw, fun _ => e⟩
        · cases h
      split at h
      · rename_i cs obl v new hcs hst
        cases h
        have hy := yielded_of hd a.tmps want
        by_cases hw : a.tmps.getD d undef = .bool want
        · rw [if_pos (hy.2 hw)]
          have hch := chain_holds ht 20 d want hw
          have hobl : AllP obl := by
            cases obl with
            | nil => trivial
            | cons p ps =>
              simp only [List.isEmpty_cons, Bool.false_eq_true, if_false] at ho
              exact imp_mp ho.1 (conds_hold ht hcs hch)
          refine stepV_ok hT hφ hX hH hG (rdA_ok hG ht hch) (rdC_ok hG ht hch) hst hobl hnew Q K (fun u w' φ' h1 h2 h3 => hK u w' φ' h1 (fun tmps hk t e => ?_) h3)
          subst e
          have e2 := hk d want v rfl
          exact ⟨fun _ => h2, fun hne => absurd (e2.trans hw) hne⟩
        · rw [if_neg (fun e => hw (hy.1 e))]
          refine hK undef w φ (Gr.skip hnew) (fun tmps hk t e => ?_) (fun id blk hb => by
            have : lk new id ≠ none := by rw [show lk new id = some blk from hb]; simp
            rw [hnew id this]
            trivial)
          have e2 := hk d want v rfl
          exact ⟨fun h => absurd (e2.symm.trans h) hw, fun _ => e⟩
      · cases h
    · cases h
end
end Go.Ab
