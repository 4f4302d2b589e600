/- What one operation yields, read on plain data: arithmetic, comparisons, slices of slices. -/
import Derived.Test.YtmeiemdnhjnpcaaAb3
set_option linter.unusedSimpArgs false
set_option linter.unusedVariables false
namespace Go.Ab
open Go.RowKit
section
variable {P : Program} {I : Nat → Prop} {w : World} {φ : Phi} {tc : List (Nat × TI)} {H : List (Nat × Blk)} {sym : Bool} {o : List Prop} {v x y : V} {u ux uy : Value}

def iand (k : IntKind) (a b : Int) : Int := k.wrap (BitVec.ofInt k.bits a &&& BitVec.ofInt k.bits b).toNat
def ior (k : IntKind) (a b : Int) : Int := k.wrap (BitVec.ofInt k.bits a ||| BitVec.ofInt k.bits b).toNat
def ixor (k : IntKind) (a b : Int) : Int := k.wrap (BitVec.ofInt k.bits a ^^^ BitVec.ofInt k.bits b).toNat
def iandNot (k : IntKind) (a b : Int) : Int := k.wrap (BitVec.ofInt k.bits a &&& ~~~(BitVec.ofInt k.bits b)).toNat
def ishl (k : IntKind) (a b : Int) : Int := k.wrap (a * 2 ^ (min b.toNat k.bits))
def ishr (k : IntKind) (a b : Int) : Int := a.fdiv (2 ^ (min b.toNat k.bits))

def isShift : BinOp → Bool
  | .shl | .shr => true
  | _ => false

/-- Whole numbers of one kind. -/
def evInt (sym : Bool) (op : BinOp) (k : IntKind) (a b : Int) : Option (List Prop × Value) :=
  match op with
  | .add => some ([], .int k (k.wrap (a + b)))
  | .sub => some ([], .int k (k.wrap (a - b)))
  | .mul => some ([], .int k (k.wrap (a * b)))
  | .quo => (chk sym (!(decide (b = 0))) (b ≠ 0)).map (·, .int k (k.wrap (a.tdiv b)))
  | .rem => (chk sym (!(decide (b = 0))) (b ≠ 0)).map (·, .int k (a.tmod b))
  | .and => some ([], .int k (iand k a b))
  | .or => some ([], .int k (ior k a b))
  | .xor => some ([], .int k (ixor k a b))
  | .andNot => some ([], .int k (iandNot k a b))
  | .eql => some ([], .bool (a == b))
  | .neq => some ([], .bool (a != b))
  | .lss => some ([], .bool (decide (a < b)))
  | .leq => some ([], .bool (decide (a ≤ b)))
  | .gtr => some ([], .bool (decide (a > b)))
  | .geq => some ([], .bool (decide (a ≥ b)))
  | _ => none
theorem evInt_ok {op : BinOp} {k : IntKind} {a b : Int} {z : Value} (h : evInt sym op k a b = some (o, z)) (ho : AllP o) (t : TypeId) :
    (binOp op t (.int k a) (.int k b)).run P w = .ok z w ∧ scalar z = true := by
  cases op <;> simp only [evInt, Option.some.injEq, Prod.mk.injEq, Option.map_eq_some_iff, reduceCtorEq] at h <;>
    first
    | (obtain ⟨rfl, rfl⟩ := h; exact ⟨by simp [binOp, Op.intArith, Op.intCmp, Op.intBits, iand, ior, ixor, iandNot], rfl⟩)
    | (obtain ⟨o', hk, rfl, rfl⟩ := h
       have hb := chk_ok hk (by simp) ho
       exact ⟨by simp [binOp, Op.intDiv, hb], rfl⟩)

def evStr (sym : Bool) (op : BinOp) (a b : ByteArray) : Option (List Prop × Value) :=
  match op with
  | .add => (chk sym (decide (((a.size + b.size : Nat) : Int) ≤ 9223372036854775807)) (((a.size + b.size : Nat) : Int) ≤ 9223372036854775807)).map (·, .string (a ++ b))
  | .eql => some ([], .bool (a.data.toList == b.data.toList))
  | .neq => some ([], .bool (!(a.data.toList == b.data.toList)))
  | _ => none
theorem evStr_ok {op : BinOp} {a b : ByteArray} {z : Value} (h : evStr sym op a b = some (o, z)) (ho : AllP o) (t : TypeId) :
    (binOp op t (.string a) (.string b)).run P w = .ok z w ∧ scalar z = true := by
  cases op <;> simp only [evStr, Option.some.injEq, Prod.mk.injEq, Option.map_eq_some_iff, reduceCtorEq] at h <;>
    first
    | (obtain ⟨rfl, rfl⟩ := h; exact ⟨by simp [binOp, Op.stringOp, ByteArray.toList_eq], rfl⟩)
    | (obtain ⟨o', hk, rfl, rfl⟩ := h
       have hb := chk_ok hk (by simp) ho
       refine ⟨?_, rfl⟩
       have hm : IntKind.i64.max = 9223372036854775807 := by decide
       simp only [binOp, Op.stringOp, hm]
       rw [if_neg (by omega)]
       rfl)



def evFlds (tc : List (Nat × TI)) (eq : TypeId → V → V → Option Bool) (g h : Bool) (cs ds : List V) : List Field → Option Bool
  | [] => some true
  | f :: fs => match f.name == "_" with
      | true => none
      | false => match lk tc f.type with
        | some fi => match eq f.type (part_ g (isRow fi.desc) cs f.offset fi.size) (part_ h (isRow fi.desc) ds f.offset fi.size), evFlds tc eq g h cs ds fs with
          | some a, some b => some (a && b)
          | _, _ => none
        | none => none
def evElems (eq : TypeId → V → V → Option Bool) (g h : Bool) (row : Bool) (sz : Nat) (e : TypeId) (cs ds : List V) : Nat → Nat → Option Bool
  | 0, _ => some true
  | k + 1, i => match eq e (part_ g row cs (i * sz) sz) (part_ h row ds (i * sz) sz), evElems eq g h row sz e cs ds k (i + 1) with
      | some a, some b => some (a && b)
      | _, _ => none
/-- Equality of two values of a type, as a Bool. -/
def evEq (tc : List (Nat × TI)) : Nat → TypeId → V → V → Option Bool
  | 0, _, _, _ => none
  | n + 1, t, x, y => match lk tc t with
    | some ti => match ti.desc, x, y with
      | .bool, .val (.bool a), .val (.bool b) => some (a == b)
      | .int _, .val (.int k a), .val (.int k' b) => if k = k' then some (a == b) else none
      | .string, .val (.string a), .val (.string b) => some (a.data.toList == b.data.toList)
      | .struct fields, .agg g cs, .agg h ds => if ti.cmp then evFlds tc (evEq tc n) g h cs ds fields.toList else none
      | .array len e, .agg g cs, .agg h ds => match lk tc e with
        | some ei => evElems (evEq tc n) g h (isRow ei.desc) ei.size e cs ds len 0
        | none => none
      | _, _, _ => none
    | none => none

theorem part_run {t : TypeId} {ti : TI} (ht : TIok P t ti) {g : Bool} {cs : List V} {us : Array Value} (h : Rel I w φ (.agg g cs) (.agg us)) (off : Nat) (hb : isRow ti.desc = false → off < cs.length) :
    ∃ r, (part t us off).run P w = .ok r w ∧ Rel I w φ (part_ g (isRow ti.desc) cs off ti.size) r := by
  cases hrow : isRow ti.desc with
  | true =>
    refine ⟨_, ?_, agg_sub h off ti.size⟩
    simp [part, ht.isAgg w, hrow, ht.sizeOf w]
  | false =>
    obtain ⟨r, hr, hrr⟩ := agg_get h (hb hrow)
    exact ⟨r, by simp [part, ht.isAgg w, hrow, hr], hrr⟩
theorem evEq_top {n : Nat} {t : TypeId} {b : Bool} : evEq tc n t .top y ≠ some b := by
  cases n with
  | zero => simp [evEq]
  | succ n =>
    simp only [evEq]
    cases lk tc t with
    | none => simp
    | some ti => cases ti.desc <;> simp
theorem evEq_top' {n : Nat} {t : TypeId} {b : Bool} : evEq tc n t x .top ≠ some b := by
  cases n with
  | zero => simp [evEq]
  | succ n =>
    simp only [evEq]
    cases lk tc t with
    | none => simp
    | some ti => cases ti.desc <;> cases x <;> simp <;> (rename_i v; cases v <;> simp)
theorem gI_out {cs : List V} {i : Nat} (h : ¬ i < cs.length) : gI cs i = .top := by
  simp [gI, List.getD_eq_getElem?_getD, List.getElem?_eq_none (Nat.not_lt.1 h)]

def EqOk (P : Program) (I : Nat → Prop) (w : World) (φ : Phi) (eq : TypeId → V → V → Option Bool) (n : Nat) : Prop :=
  ∀ t x y b ux uy d, eq t x y = some b → Rel I w φ x ux → Rel I w φ y uy → (Op.equalIn (d + n) t ux uy).run P w = .ok b w

theorem evFlds_ok (hT : TCok P tc) {eq : TypeId → V → V → Option Bool} {n : Nat} (he : EqOk P I w φ eq n) (htop : ∀ t y b, eq t .top y ≠ some b) (htop' : ∀ t y b, eq t y .top ≠ some b)
    {g h : Bool} {cs ds : List V} {xs ys : Array Value} (hx : Rel I w φ (.agg g cs) (.agg xs)) (hy : Rel I w φ (.agg h ds) (.agg ys)) (d : Nat) :
    ∀ (fs : List Field) (b : Bool), evFlds tc eq g h cs ds fs = some b → (Op.eqFields (d + n) xs ys fs).run P w = .ok b w
  | [], b, hb => by
    simp only [evFlds, Option.some.injEq] at hb
    subst hb
    simp [Op.eqFields]
  | f :: fs, b, hb => by
    simp only [evFlds] at hb
    split at hb
    · cases hb
    · rename_i hn
      split at hb
      · rename_i fi hfi
        split at hb
        · rename_i a b' h1 h2
          cases hb
          have ht := hT.get hfi
          have hc1 : isRow fi.desc = false → f.offset < cs.length := fun hr => Classical.byContradiction fun hc => by
            rw [part_, hr, if_neg (by simp), gI_out hc] at h1
            exact htop _ _ _ h1
          have hc2 : isRow fi.desc = false → f.offset < ds.length := fun hr => Classical.byContradiction fun hc => by
            rw [part_, part_, hr, if_neg (by simp), if_neg (by simp), gI_out hc] at h1
            exact htop' _ _ _ h1
          obtain ⟨r1, q1, q2⟩ := part_run ht hx f.offset hc1
          obtain ⟨r2, q3, q4⟩ := part_run ht hy f.offset hc2
          have he' := he _ _ _ _ _ _ d h1 q2 q4
          have ih := evFlds_ok hT he htop htop' hx hy d fs b' h2
          have hn' : f.name ≠ "_" := by simpa using hn
          simp only [Op.eqFields, hn', ne_eq, not_false_eq_true, if_true, Sem.run_bind, q1, q3, Result.andThen_ok, he', Sem.run_ite, ih, Sem.run_pure]
          cases a <;> simp
        · cases hb
      · cases hb
theorem evElems_ok {eq : TypeId → V → V → Option Bool} {n : Nat} (he : EqOk P I w φ eq n) (htop : ∀ t y b, eq t .top y ≠ some b) (htop' : ∀ t y b, eq t y .top ≠ some b)
    {g h : Bool} {cs ds : List V} {xs ys : Array Value} (hx : Rel I w φ (.agg g cs) (.agg xs)) (hy : Rel I w φ (.agg h ds) (.agg ys)) {e : TypeId} {ei : TI} (hei : TIok P e ei) (d : Nat) :
    ∀ (k i : Nat) (b : Bool), evElems eq g h (isRow ei.desc) ei.size e cs ds k i = some b → (Op.eqItems (d + n) e ei.size xs ys (List.range' i k)).run P w = .ok b w
  | 0, i, b, hb => by
    simp only [evElems, Option.some.injEq] at hb
    subst hb
    simp [Op.eqItems]
  | k + 1, i, b, hb => by
    simp only [evElems] at hb
    split at hb
    · rename_i a b' h1 h2
      cases hb
      have hc1 : isRow ei.desc = false → i * ei.size < cs.length := fun hr => Classical.byContradiction fun hc => by
        rw [part_, hr, if_neg (by simp), gI_out hc] at h1
        exact htop _ _ _ h1
      have hc2 : isRow ei.desc = false → i * ei.size < ds.length := fun hr => Classical.byContradiction fun hc => by
        rw [part_, part_, hr, if_neg (by simp), if_neg (by simp), gI_out hc] at h1
        exact htop' _ _ _ h1
      obtain ⟨r1, q1, q2⟩ := part_run hei hx (i * ei.size) hc1
      obtain ⟨r2, q3, q4⟩ := part_run hei hy (i * ei.size) hc2
      have he' := he _ _ _ _ _ _ d h1 q2 q4
      have ih := evElems_ok he htop htop' hx hy hei d k (i + 1) b' h2
      rw [List.range'_succ]
      simp only [Op.eqItems, Sem.run_bind, q1, q3, Result.andThen_ok, he', Sem.run_ite, ih, Sem.run_pure]
      cases a <;> simp
    · cases hb
theorem evEq_ok (hT : TCok P tc) : ∀ n : Nat, EqOk P I w φ (evEq tc n) n
  | 0 => fun t x y b ux uy d h => by simp [evEq] at h
  | n + 1 => fun t x y b ux uy d h hx hy => by
    simp only [evEq] at h
    split at h
    · rename_i ti hti
      have ht := hT.get hti
      have hd := ht.desc
      split at h
      · rename_i hdesc
        rw [hdesc] at hd
        cases h
        obtain rfl := hx.val_inv
        obtain rfl := hy.val_inv
        exact run_equalIn_bool' w (d + n) t _ _ hd
      · rename_i hdesc
        rw [hdesc] at hd
        split at h
        · rename_i hk
          subst hk
          cases h
          obtain rfl := hx.val_inv
          obtain rfl := hy.val_inv
          exact run_equalIn_int w (d + n) t _ _ _ _ hd
        · cases h
      · rename_i hdesc
        rw [hdesc] at hd
        cases h
        obtain rfl := hx.val_inv
        obtain rfl := hy.val_inv
        rw [← ByteArray.toList_eq, ← ByteArray.toList_eq]
        exact run_equalIn_string w (d + n) t _ _ hd
      · rename_i fields g cs h' ds hdesc
        rw [hdesc] at hd
        split at h
        · rename_i hcmp
          obtain ⟨xs, rfl, _⟩ := hx.agg_inv
          obtain ⟨ys, rfl, _⟩ := hy.agg_inv
          have hf : P.fieldsOf t = fields := by simp [Program.fieldsOf, hd]
          have := evFlds_ok hT (evEq_ok hT n) (fun _ _ _ => evEq_top) (fun _ _ _ => evEq_top') hx hy d fields.toList b h
          rw [show d + (n + 1) = (d + n) + 1 from rfl, run_equalIn_struct w (d + n) t xs ys (by rw [hf]; exact hd) (ht.cmp hcmp).1, hf]
          exact this
        · cases h
      · rename_i len e g cs h' ds hdesc
        rw [hdesc] at hd
        split at h
        · rename_i ei hei
          have he := hT.get hei
          obtain ⟨xs, rfl, _⟩ := hx.agg_inv
          obtain ⟨ys, rfl, _⟩ := hy.agg_inv
          obtain ⟨i, hi, his, _⟩ := he.info
          have := evElems_ok (evEq_ok hT n) (fun _ _ _ => evEq_top) (fun _ _ _ => evEq_top') hx hy he d len 0 b h
          rw [show d + (n + 1) = (d + n) + 1 from rfl, run_equalIn_array w (d + n) xs ys hd hi, show P.cellsOf e = ei.size by simp [Program.cellsOf, hi, his], List.range_eq_range']
          exact this
        · cases h
      · cases h
    · cases h

/-! All operators of two operands. -/
def isEq : BinOp → Option Bool
  | .eql => some true
  | .neq => some false
  | _ => none
def nonNil (sym : Bool) : V → Option (List Prop)
  | .vs _ n => chk sym (Nat.blt 0 n) (0 < n)
  | .sl _ _ n => chk sym (Nat.blt 0 n) (0 < n)
  | .ptr _ _ | .vp _ => some []
  | _ => none
def bl (e : Bool) (b : Bool) : Bool := match e with | true => b | false => !b
def evBin (tc : List (Nat × TI)) (sym : Bool) (op : BinOp) (t : TypeId) (x y : V) : Out :=
  match x, y with
  | .val (.int k a), .val (.int k' b) => match op with
    | .shl => (chk sym (decide (0 ≤ b)) (0 ≤ b)).map (·, .val (.int k (ishl k a b)))
    | .shr => (chk sym (decide (0 ≤ b)) (0 ≤ b)).map (·, .val (.int k (ishr k a b)))
    | op => if k = k' then (evInt sym op k a b).map fun p => (p.1, .val p.2) else none
  | .val (.string a), .val (.string b) => (evStr sym op a b).map fun p => (p.1, .val p.2)
  | .val (.bool a), .val (.bool b) => match isEq op, lk tc t with
    | some e, some ⟨.bool, _, _, _, _⟩ => some ([], .val (.bool (bl e (a == b))))
    | _, _ => none
  | .agg g cs, .agg h ds => match isEq op, lk tc t with
    | some e, some ti => if ti.cmp || !(isStruct ti.desc) then match evEq tc 10 t (.agg g cs) (.agg h ds) with
        | some b => if ti.cmp then some ([], .val (.bool (bl e b))) else none
        | none => none
      else none
    | _, _ => none
  | x, .val (.slice none _ _) => match isEq op, lk tc t with
    | some e, some ⟨.slice _, _, _, _, _⟩ => match x with
      | .val (.slice none _ _) => some ([], .val (.bool (bl e true)))
      | .vs cs n => (nonNil sym (.vs cs n)).elim (some ([], .bo)) fun o => some (o, .val (.bool (bl e false)))
      | .sl i f n => (nonNil sym (.sl i f n)).elim (some ([], .bo)) fun o => some (o, .val (.bool (bl e false)))
      | _ => none
    | _, _ => none
  | x, .val (.pointer none) => match isEq op, lk tc t with
    | some e, some ⟨.pointer _, _, _, _, _⟩ => match x with
      | .val (.pointer none) => some ([], .val (.bool (bl e true)))
      | .ptr _ _ => some ([], .val (.bool (bl e false)))
      | .vp _ => some ([], .val (.bool (bl e false)))
      | _ => none
    | _, _ => none
  | _, _ => none
where isStruct : TypeDesc → Bool
  | .struct _ => true
  | _ => false
end
end Go.Ab
