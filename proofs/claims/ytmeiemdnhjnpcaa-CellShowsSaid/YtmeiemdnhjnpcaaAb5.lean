/- What one operation yields, read on plain data: operators, conversions, slices of slices, lengths. -/
import Derived.Test.YtmeiemdnhjnpcaaAb4
import Derived.Laws.BytesString
import Derived.Laws.Cover3
set_option linter.unusedSimpArgs false
set_option linter.unusedVariables false
namespace Go.Ab
open Go.RowKit
section
variable {P : Program} {I : Nat → Prop} {w : World} {φ : Phi} {tc : List (Nat × TI)} {H : List (Nat × Blk)} {sym : Bool} {o : List Prop} {v x y : V} {u ux uy : Value}

theorem guard_plain {op : BinOp} {t : TypeId} {ox oy : Operand} (h1 : ∀ a b, ¬(ux = .agg a ∧ uy = .agg b)) (h2 : ¬(ux = .nilIface ∧ uy = .nilIface)) : (eqGuard op t ox oy ux uy).run P w = .ok () w := by
  unfold eqGuard
  cases op <;> simp <;> (split <;> first | rfl | (exact absurd ⟨rfl, rfl⟩ h2) | (exact absurd ⟨rfl, rfl⟩ (h1 _ _)))
theorem guard_agg {op : BinOp} {t : TypeId} {ox oy : Operand} {xs ys : Array Value} (hm : P.eqGuardType P.depth t = false) : (eqGuard op t ox oy (.agg xs) (.agg ys)).run P w = .ok () w :=
  run_eqGuard_agg w op t ox oy xs ys hm
theorem bl_true (b : Bool) : bl true b = b := rfl
theorem bl_false (b : Bool) : bl false b = !b := rfl
theorem isEq_inv {op : BinOp} {e : Bool} (h : isEq op = some e) : (op = .eql ∧ e = true) ∨ (op = .neq ∧ e = false) := by
  cases op <;> simp [isEq] at h <;> simp [h]
theorem bin_eq {op : BinOp} {e b : Bool} {t : TypeId} (he : isEq op = some e) (h1 : (Op.equal t ux uy).run P w = .ok b w)
    (hb1 : (binOp .eql t ux uy).run P w = (do pure (.bool (← Op.equal t ux uy)) : Sem Value).run P w) (hb2 : (binOp .neq t ux uy).run P w = (do pure (.bool (!(← Op.equal t ux uy))) : Sem Value).run P w) :
    (binOp op t ux uy).run P w = .ok (.bool (bl e b)) w := by
  rcases isEq_inv he with ⟨rfl, rfl⟩ | ⟨rfl, rfl⟩
  · rw [hb1]; simp [h1, bl]
  · rw [hb2]; simp [h1, bl]

theorem Rel.nilsl {a b : Nat} (h : Rel I w φ (.val (.slice none a b)) u) : u = .slice none 0 0 := by
  cases h with
  | val hs => cases a <;> cases b <;> simp_all [scalar]

theorem eq_ptr_nil {t : TypeId} (d : Nat) (p : Option Addr) (el : TypeId) (hd : P.underlying t = some (.pointer el)) : (Op.equalIn (d + 1) t (.pointer p) (.pointer none)).run P w = .ok p.isNone w := by
  cases p <;> simp [Op.equalIn, run_underlying hd]

theorem evBin_ok (hT : TCok P tc) {op : BinOp} {t : TypeId} (ox oy : Operand) (h : evBin tc sym op t x y = some (o, v)) (ho : AllP o) (hx : Rel I w φ x ux) (hy : Rel I w φ y uy) :
    ∃ r, (do eqGuard op t ox oy ux uy; binOp op t ux uy : Sem Value).run P w = .ok r w ∧ Rel I w φ v r := by
  unfold evBin at h
  split at h
  · rename_i k a k' b
    obtain rfl := hx.int_inv
    obtain rfl := hy.int_inv
    have hg : ∀ op, (eqGuard op t ox oy (.int k a) (.int k' b)).run P w = .ok () w := fun op => guard_plain (by simp) (by simp)
    have shl : ∀ z, 0 ≤ b → z = Value.int k (ishl k a b) → (binOp .shl t (.int k a) (.int k' b)).run P w = .ok z w := fun z h0 e => by
      subst e
      simp [binOp, Op.shift, ishl, show ¬ b < 0 by omega]
    have shr : ∀ z, 0 ≤ b → z = Value.int k (ishr k a b) → (binOp .shr t (.int k a) (.int k' b)).run P w = .ok z w := fun z h0 e => by
      subst e
      simp [binOp, Op.shift, ishr, show ¬ b < 0 by omega]
    split at h
    · simp only [Option.map_eq_some_iff, Prod.mk.injEq] at h
      obtain ⟨o', hk, rfl, rfl⟩ := h
      exact ⟨_, by simp only [Sem.run_bind, hg, Result.andThen_ok, shl _ (chk_ok hk (by simp) ho) rfl], .val rfl⟩
    · simp only [Option.map_eq_some_iff, Prod.mk.injEq] at h
      obtain ⟨o', hk, rfl, rfl⟩ := h
      exact ⟨_, by simp only [Sem.run_bind, hg, Result.andThen_ok, shr _ (chk_ok hk (by simp) ho) rfl], .val rfl⟩
    · split at h
      · rename_i hk
        subst hk
        simp only [Option.map_eq_some_iff] at h
        obtain ⟨⟨o', z⟩, hk, he⟩ := h
        cases he
        obtain ⟨h1, h2⟩ := evInt_ok (w := w) (P := P) hk ho t
        exact ⟨z, by simp only [Sem.run_bind, hg, Result.andThen_ok, h1], .val h2⟩
      · cases h
  · rename_i a b
    obtain rfl := hx.val_inv
    obtain rfl := hy.val_inv
    simp only [Option.map_eq_some_iff] at h
    obtain ⟨⟨o', z⟩, hk, he⟩ := h
    cases he
    obtain ⟨h1, h2⟩ := evStr_ok (w := w) (P := P) hk ho t
    exact ⟨z, by simp only [Sem.run_bind, guard_plain (P := P) (w := w) (ux := .string a) (uy := .string b) (by simp) (by simp), Result.andThen_ok, h1], .val h2⟩
  · rename_i a b
    obtain rfl := hx.val_inv
    obtain rfl := hy.val_inv
    split at h
    · rename_i e _ _ _ _ he hti
      cases h
      have ht := (hT.get hti).desc
      refine ⟨_, ?_, .val rfl⟩
      rw [Sem.run_bind, guard_plain (by simp) (by simp), Result.andThen_ok]
      exact bin_eq he (run_equal_bool w t a b ht) (by simp [binOp]) (by simp [binOp])
    · cases h
  · rename_i g cs g' ds
    obtain ⟨xs, rfl, _⟩ := hx.agg_inv
    obtain ⟨ys, rfl, _⟩ := hy.agg_inv
    split at h
    · rename_i e ti he hti
      split at h
      · split at h
        · rename_i b hb
          split at h
          · rename_i hcmp
            cases h
            have ht := hT.get hti
            refine ⟨_, ?_, .val rfl⟩
            rw [Sem.run_bind, guard_agg (ht.cmp hcmp).2, Result.andThen_ok]
            exact bin_eq he (evEq_ok hT 10 t _ _ _ _ _ 9990 hb hx hy) (by simp [binOp]) (by simp [binOp])
          · cases h
        · cases h
      · cases h
    · cases h
  · obtain rfl := hy.nilsl
    split at h
    · rename_i e el _ _ _ _ he hti
      have ht := (hT.get hti).desc
      split at h
      · obtain rfl := hx.nilsl
        cases h
        refine ⟨_, ?_, .val rfl⟩
        rw [Sem.run_bind, guard_plain (by simp) (by simp), Result.andThen_ok]
        exact bin_eq he (run_equal_slice_nil w t el none _ _ ht) (by simp [binOp]) (by simp [binOp])
      · cases hk : nonNil sym (.vs _ _) with
        | none =>
          rw [hk] at h
          cases h
          cases hx with
          | vs hl hr h1 hc hA hlc hcm =>
            rename_i us cap A
            refine ⟨.bool (bl e A.isNone), ?_, .bo⟩
            rw [Sem.run_bind, guard_plain (by simp) (by simp), Result.andThen_ok]
            exact bin_eq he (run_equal_slice_nil w t el _ _ _ ht) (by simp [binOp]) (by simp [binOp])
        | some o' =>
          rw [hk] at h
          cases h
          have hn := chk_ok hk (by simp) ho
          cases hx with
          | vs hl hr h1 hc hA hlc hcm =>
            rename_i us cap A
            cases A with
            | none => have := hA rfl; omega
            | some ad =>
              refine ⟨_, ?_, .val rfl⟩
              rw [Sem.run_bind, guard_plain (by simp) (by simp), Result.andThen_ok]
              exact bin_eq he (run_equal_slice_nil w t el (some ad) _ _ ht) (by simp [binOp]) (by simp [binOp])
      · cases hk : nonNil sym (.sl _ _ _) with
        | none =>
          rw [hk] at h
          cases h
          cases hx with
          | sl h1 h2 h3 h4 =>
            refine ⟨.bool (bl e false), ?_, .bo⟩
            rw [Sem.run_bind, guard_plain (by simp) (by simp), Result.andThen_ok]
            exact bin_eq he (run_equal_slice_nil w t el _ _ _ ht) (by simp [binOp]) (by simp [binOp])
          | slnil =>
            refine ⟨.bool (bl e true), ?_, .bo⟩
            rw [Sem.run_bind, guard_plain (by simp) (by simp), Result.andThen_ok]
            exact bin_eq he (run_equal_slice_nil w t el _ _ _ ht) (by simp [binOp]) (by simp [binOp])
        | some o' =>
          rw [hk] at h
          cases h
          have hn := chk_ok hk (by simp) ho
          cases hx with
          | sl h1 h2 h3 h4 =>
            refine ⟨_, ?_, .val rfl⟩
            rw [Sem.run_bind, guard_plain (by simp) (by simp), Result.andThen_ok]
            exact bin_eq he (run_equal_slice_nil w t el (some _) _ _ ht) (by simp [binOp]) (by simp [binOp])
          | slnil => omega
      · cases h
    · cases h
  · obtain rfl := hy.val_inv
    have eqp : ∀ (p : Option Addr) (el : TypeId), P.underlying t = some (.pointer el) → (Op.equal t (.pointer p) (.pointer none)).run P w = .ok p.isNone w := fun p el hd =>
      eq_ptr_nil 9999 p el hd
    split at h
    · rename_i e el _ _ _ _ he hti
      have ht := (hT.get hti).desc
      split at h
      · obtain rfl := hx.val_inv
        cases h
        refine ⟨_, ?_, .val rfl⟩
        rw [Sem.run_bind, guard_plain (by simp) (by simp), Result.andThen_ok]
        exact bin_eq he (eqp none el ht) (by simp [binOp]) (by simp [binOp])
      · cases h
        cases hx with
        | ptr hs =>
          refine ⟨_, ?_, .val rfl⟩
          rw [Sem.run_bind, guard_plain (by simp) (by simp), Result.andThen_ok]
          exact bin_eq he (eqp (some _) el ht) (by simp [binOp]) (by simp [binOp])
      · cases h
        obtain ⟨a, rfl⟩ := hx.vp_pointer
        refine ⟨_, ?_, .val rfl⟩
        rw [Sem.run_bind, guard_plain (by simp) (by simp), Result.andThen_ok]
        exact bin_eq he (eqp (some _) el ht) (by simp [binOp]) (by simp [binOp])
      · cases h
    · cases h
  · cases h

def evUn (op : UnOp) (x : V) : Out :=
  match op, x with
  | .not, .val (.bool b) => some ([], .val (.bool (!b)))
  | .neg, .val (.int k a) => some ([], .val (.int k (k.wrap (0 - a))))
  | .xor, .val (.int k a) => some ([], .val (.int k (ixor k (if k.signed then -1 else k.max) a)))
  | _, _ => none
theorem evUn_ok {op : UnOp} (h : evUn op x = some (o, v)) (hx : Rel I w φ x u) : ∃ r, (Op.unary op u).run P w = .ok r w ∧ Rel I w φ v r := by
  unfold evUn at h
  split at h <;> first | cases h | skip
  · obtain rfl := hx.val_inv
    exact ⟨_, by simp [Op.unary], .val rfl⟩
  · obtain rfl := hx.val_inv
    exact ⟨_, by simp [Op.unary, Op.intArith], .val rfl⟩
  · obtain rfl := hx.val_inv
    exact ⟨_, by simp [Op.unary, Op.intBits, ixor], .val rfl⟩

def byteOf : V → Option Int
  | .val (.int .u8 n) => some n
  | _ => none
def allU8 (cs : List V) : Bool := cs.all fun x => (byteOf x).isSome
def strOf (cs : List V) : ByteArray := (cs.map fun x => (byteOf x).getD 0).foldl (fun r n => r.push (UInt8.ofNat n.toNat)) ByteArray.empty
theorem rel_bytes {cs : List V} {us : List Value} (h : RelL I w φ cs us) (ha : allU8 cs = true) : us = (cs.map fun x => (byteOf x).getD 0).map (Value.int .u8) := by
  apply List.ext_getElem (by simp [h.1])
  intro i h1 h2
  have hi : i < cs.length := by rw [← h.1]; exact h1
  have hr := h.2.1 i hi
  have hb := List.all_eq_true.1 ha _ (List.getElem_mem hi)
  have e : us.getD i undef = us[i] := by simp [List.getD_eq_getElem?_getD, h1]
  rw [e] at hr
  simp only [List.getElem_map]
  cases hx : cs[i] with
  | val v =>
    rw [hx] at hr hb
    cases v with
    | int k n =>
      cases k <;> simp [byteOf] at hb
      have := hr.val_inv
      simpa [byteOf] using this
    | _ => simp [byteOf] at hb
  | _ => rw [hx] at hb; simp [byteOf] at hb
def evConv (tc : List (Nat × TI)) (s d : TypeId) (x : V) : Out :=
  match lk tc s, lk tc d, x with
  | some _, some ⟨.int k, _, _, _, _⟩, .val (.int _ n) => some ([], .val (.int k (k.wrap n)))
  | some _, some ⟨.string, _, _, _, _⟩, .val (.string b) => some ([], .val (.string b))
  | some ⟨.slice e, _, _, _, _⟩, some ⟨.string, _, _, _, _⟩, .vs cs n => match lk tc e with
    | some ⟨.int .u8, _, _, _, _⟩ => some ([n ≤ cs.length, allU8 (cs.take n) = true], .val (.string (strOf (cs.take n))))
    | _ => none
  | _, _, _ => none
theorem evConv_ok (hT : TCok P tc) {s d : TypeId} (h : evConv tc s d x = some (o, v)) (ho : AllP o) (hx : Rel I w φ x u) : ∃ r, (convert s d u).run P w = .ok r w ∧ Rel I w φ v r := by
  unfold evConv at h
  split at h
  · rename_i si k _ _ _ _ k' n hs hd
    cases h
    obtain rfl := hx.val_inv
    exact ⟨_, by simp [convert, (hT.get hs).und w, (hT.get hd).und w, Conv.intToInt], .val rfl⟩
  · rename_i si _ _ _ _ b hs hd
    cases h
    obtain rfl := hx.val_inv
    refine ⟨_, ?_, .val rfl⟩
    simp only [convert, Sem.run_bind, (hT.get hs).und w, (hT.get hd).und w, Result.andThen_ok]
    rfl
  · rename_i e _ _ _ _ _ _ _ _ cs n hs hd
    split at h
    · rename_i _ _ _ _ he
      cases h
      obtain ⟨h1, h2, _⟩ := ho
      cases hx with
      | vs hl hr h1' hc hA hlc hcm =>
        rename_i us cap A
        have hrl : RelL I w Phi.emp cs us := ⟨hl, hr, h1'⟩
        have hb := rel_bytes (hrl.take n) h2
        have hlen : (us.take n).length = n := by simp; omega
        have hconv := run_convert_bytes_string (P := P) w s d e A n cap (hT.get hs).desc (hT.get he).desc (hT.get hd).desc
        rw [hconv]
        cases A with
        | none =>
          have := hA rfl
          have hn0 : n = 0 := by omega
          subst hn0
          exact ⟨_, rfl, .val rfl⟩
        | some a =>
          have hload := run_loadCells_list (P := P) w a (us.take n) (fun j v hj => by
            rw [List.getElem?_take] at hj
            split at hj
            · obtain ⟨b, o, e', _, hcell⟩ := hc j v hj
              cases e'
              simpa [Addr.add_mid] using hcell
            · cases hj)
          rw [hlen, hb] at hload
          have := run_bytesToString (P := P) w a n cap _ hload
          exact ⟨_, this, .val rfl⟩
    · cases h
  · cases h

/-! Lengths. -/
def evLen (tc : List (Nat × TI)) (t : TypeId) (x : V) : Out :=
  match lk tc t, x with
  | some ⟨.string, _, _, _, _⟩, .val (.string s) => some ([], .val (.int .i64 s.size))
  | some ⟨.array n _, _, _, _, _⟩, _ => some ([], .val (.int .i64 n))
  | some ⟨.slice _, _, _, _, _⟩, .sl _ _ n => some ([], .val (.int .i64 n))
  | some ⟨.slice _, _, _, _, _⟩, .vs _ n => some ([], .val (.int .i64 n))
  | some ⟨.slice _, _, _, _, _⟩, .val (.slice none n _) => some ([], .val (.int .i64 n))
  | _, _ => none
theorem evLen_ok (hT : TCok P tc) {t ty : TypeId} (h : evLen tc t x = some (o, v)) (hx : Rel I w φ x u) : ∃ r, (Builtin.len_ #[t] ty #[u]).run P w = .ok r w ∧ Rel I w φ v r := by
  unfold evLen at h
  split at h
  · rename_i hti
    cases h
    obtain rfl := hx.val_inv
    exact ⟨_, by simp [Builtin.len_, (hT.get hti).und w, goInt], .val rfl⟩
  · rename_i hti
    cases h
    exact ⟨_, by simp [Builtin.len_, (hT.get hti).und w, goInt], .val rfl⟩
  · rename_i hti
    cases h
    cases hx with
    | sl => exact ⟨_, by simp [Builtin.len_, (hT.get hti).und w, goInt], .val rfl⟩
    | slnil => exact ⟨_, by simp [Builtin.len_, (hT.get hti).und w, goInt], .val rfl⟩
  · rename_i hti
    cases h
    cases hx
    exact ⟨_, by simp [Builtin.len_, (hT.get hti).und w, goInt], .val rfl⟩
  · rename_i hti
    cases h
    obtain rfl := hx.val_inv
    exact ⟨_, by simp [Builtin.len_, (hT.get hti).und w, goInt], .val rfl⟩
  · cases h

/-- The greatest and the least. -/
def imax (a b : Int) : Int := if b > a then b else a
def imin (a b : Int) : Int := if b < a then b else a
def foldI (f : Int → Int → Int) (k : IntKind) : Int → List V → Option Int
  | a, [] => some a
  | a, .val (.int k' b) :: r => if k = k' then foldI f k (f a b) r else none
  | _, _ => none
def evMM (mx : Bool) : List V → Out
  | .val (.int k a) :: r => match mx with
    | true => (foldI imax k a r).map fun n => ([], .val (.int k n))
    | false => (foldI imin k a r).map fun n => ([], .val (.int k n))
  | _ => none
inductive Rels (I : Nat → Prop) (w : World) (φ : Phi) : List V → List Value → Prop
  | nil : Rels I w φ [] []
  | cons {x u xs us} : Rel I w φ x u → Rels I w φ xs us → Rels I w φ (x :: xs) (u :: us)
theorem foldI_max {k : IntKind} {n : Int} : ∀ {xs : List V} {us : List Value} {a : Int}, foldI imax k a xs = some n → Rels I w φ xs us → (us.foldlM Builtin.max2 (.int k a)).run P w = .ok (.int k n) w
  | [], _, a, h, hr => by
    cases hr
    simp only [foldI, Option.some.injEq] at h
    subst h
    rfl
  | x :: xs, _, a, h, hr => by
    cases hr with
    | cons h1 h2 =>
      unfold foldI at h
      split at h
      · rename_i he
        cases he
      · rename_i k' b r he
        simp only [List.cons.injEq] at he
        obtain ⟨rfl, rfl⟩ := he
        split at h
        · rename_i hk
          subst hk
          obtain rfl := h1.val_inv
          simp only [List.foldlM_cons, Sem.run_bind, Builtin.max2, Sem.run_pure, Result.andThen_ok]
          exact foldI_max h h2
        · cases h
      · cases h
theorem foldI_min {k : IntKind} {n : Int} : ∀ {xs : List V} {us : List Value} {a : Int}, foldI imin k a xs = some n → Rels I w φ xs us → (us.foldlM Builtin.min2 (.int k a)).run P w = .ok (.int k n) w
  | [], _, a, h, hr => by
    cases hr
    simp only [foldI, Option.some.injEq] at h
    subst h
    rfl
  | x :: xs, _, a, h, hr => by
    cases hr with
    | cons h1 h2 =>
      unfold foldI at h
      split at h
      · rename_i he
        cases he
      · rename_i k' b r he
        simp only [List.cons.injEq] at he
        obtain ⟨rfl, rfl⟩ := he
        split at h
        · rename_i hk
          subst hk
          obtain rfl := h1.val_inv
          simp only [List.foldlM_cons, Sem.run_bind, Builtin.min2, Sem.run_pure, Result.andThen_ok]
          exact foldI_min h h2
        · cases h
      · cases h
theorem evMM_ok {mx : Bool} {xs : List V} {us : List Value} (h : evMM mx xs = some (o, v)) (hr : Rels I w φ xs us) (at_ : Array TypeId) (ty : TypeId) :
    ∃ r, (if mx then Builtin.max_ at_ ty us.toArray else Builtin.min_ at_ ty us.toArray).run P w = .ok r w ∧ Rel I w φ v r := by
  unfold evMM at h
  split at h
  · cases mx
    · simp only [Option.map_eq_some_iff, Prod.mk.injEq] at h
      obtain ⟨n, hn, rfl, rfl⟩ := h
      cases hr with
      | cons h1 h2 =>
        obtain rfl := h1.val_inv
        refine ⟨_, ?_, .val rfl⟩
        simpa [Builtin.min_] using foldI_min (P := P) hn h2
    · simp only [Option.map_eq_some_iff, Prod.mk.injEq] at h
      obtain ⟨n, hn, rfl, rfl⟩ := h
      cases hr with
      | cons h1 h2 =>
        obtain rfl := h1.val_inv
        refine ⟨_, ?_, .val rfl⟩
        simpa [Builtin.max_] using foldI_max (P := P) hn h2
  · cases h
end
end Go.Ab
