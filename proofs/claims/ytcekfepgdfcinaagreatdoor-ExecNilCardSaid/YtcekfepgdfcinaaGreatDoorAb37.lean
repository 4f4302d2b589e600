/- A run on plain data: ranges over functions, too. -/
import Derived.Test.YtcekfepgdfcinaaGreatDoorAb36
import Derived.Test.YtcekfepgdfcinaaGreatDoorAb33
set_option linter.unusedSimpArgs false
set_option linter.unusedVariables false
namespace Go.Ab
open Go.RowKit
abbrev IterF := FuncId → List (Nat × Blk) → List V → Option (List (List V))
def IterF.Ok (P : Program) (itr : IterF) : Prop := ∀ gf Hc ys xs, itr gf Hc ys = some xs → IterOk P gf Hc ys xs
def eqVal : Value → Value → Bool
  | .int k a, .int k' b => decide (k = k') && decide (a = b)
  | .bool a, .bool b => a == b
  | .string a, .string b => decide (a = b)
  | .slice none 0 0, .slice none 0 0 => true
  | .pointer none, .pointer none => true
  | .map none, .map none => true
  | _, _ => false
theorem eqVal_ok : ∀ {a b : Value}, eqVal a b = true → a = b := by
  intro a b h
  unfold eqVal at h
  split at h
  · simp only [Bool.and_eq_true, decide_eq_true_eq] at h
    rw [h.1, h.2]
  · simp at h
    rw [h]
  · simp only [decide_eq_true_eq] at h
    rw [h]
  · rfl
  · rfl
  · rfl
  · cases h
mutual
def eqV : V → V → Bool
  | .val a, .val b => eqVal a b
  | .ptr i o, .ptr j p => decide (i = j) && decide (o = p)
  | .sl i o n, .sl j p m => decide (i = j) && (decide (o = p) && decide (n = m))
  | .vs cs n, .vs ds m => eqL cs ds && decide (n = m)
  | .agg f cs, .agg g ds => decide (f = g) && eqL cs ds
  | .mp i, .mp j => decide (i = j)
  | _, _ => false
def eqL : List V → List V → Bool
  | [], [] => true
  | x :: r, y :: q => eqV x y && eqL r q
  | _, _ => false
end
mutual
theorem eqV_ok : ∀ (a b : V), eqV a b = true → a = b
  | .val a, .val b, h => by
    have e : a = b := eqVal_ok (by simpa [eqV] using h)
    rw [e]
  | .ptr i o, .ptr j p, h => by simp [eqV] at h; rw [h.1, h.2]
  | .sl i o n, .sl j p m, h => by simp [eqV] at h; rw [h.1, h.2.1, h.2.2]
  | .vs cs n, .vs ds m, h => by
    simp [eqV] at h
    rw [eqL_ok cs ds h.1, h.2]
  | .agg f cs, .agg g ds, h => by
    simp [eqV] at h
    rw [eqL_ok cs ds h.2, h.1]
  | .val _, .ptr _ _, h | .val _, .sl _ _ _, h | .val _, .vs _ _, h | .val _, .vp _, h | .val _, .agg _ _, h | .val _, .tup _, h | .val _, .clo _ _ _, h | .val _, .mp _, h | .val _, .bo, h | .val _, .top, h => by simp [eqV] at h
  | .ptr _ _, .val _, h | .ptr _ _, .sl _ _ _, h | .ptr _ _, .vs _ _, h | .ptr _ _, .vp _, h | .ptr _ _, .agg _ _, h | .ptr _ _, .tup _, h | .ptr _ _, .clo _ _ _, h | .ptr _ _, .mp _, h | .ptr _ _, .bo, h | .ptr _ _, .top, h => by simp [eqV] at h
  | .sl _ _ _, .val _, h | .sl _ _ _, .ptr _ _, h | .sl _ _ _, .vs _ _, h | .sl _ _ _, .vp _, h | .sl _ _ _, .agg _ _, h | .sl _ _ _, .tup _, h | .sl _ _ _, .clo _ _ _, h | .sl _ _ _, .mp _, h | .sl _ _ _, .bo, h | .sl _ _ _, .top, h => by simp [eqV] at h
  | .vs _ _, .val _, h | .vs _ _, .ptr _ _, h | .vs _ _, .sl _ _ _, h | .vs _ _, .vp _, h | .vs _ _, .agg _ _, h | .vs _ _, .tup _, h | .vs _ _, .clo _ _ _, h | .vs _ _, .mp _, h | .vs _ _, .bo, h | .vs _ _, .top, h => by simp [eqV] at h
  | .agg _ _, .val _, h | .agg _ _, .ptr _ _, h | .agg _ _, .sl _ _ _, h | .agg _ _, .vs _ _, h | .agg _ _, .vp _, h | .agg _ _, .tup _, h | .agg _ _, .clo _ _ _, h | .agg _ _, .mp _, h | .agg _ _, .bo, h | .agg _ _, .top, h => by simp [eqV] at h
  | .mp i, .mp j, h => by simp [eqV] at h; rw [h]
  | .mp _, .val _, h | .mp _, .ptr _ _, h | .mp _, .sl _ _ _, h | .mp _, .vs _ _, h | .mp _, .vp _, h | .mp _, .agg _ _, h | .mp _, .tup _, h | .mp _, .clo _ _ _, h | .mp _, .bo, h | .mp _, .top, h => by simp [eqV] at h
  | .vp _, _, h | .tup _, _, h | .clo _ _ _, _, h | .bo, _, h | .top, _, h => by simp [eqV] at h
theorem eqL_ok : ∀ (a b : List V), eqL a b = true → a = b
  | [], [], _ => rfl
  | [], _ :: _, h => by simp [eqL] at h
  | _ :: _, [], h => by simp [eqL] at h
  | x :: r, y :: q, h => by
    simp only [eqL, Bool.and_eq_true] at h
    rw [eqV_ok x y h.1, eqL_ok r q h.2]
end
def eqH : List (Nat × Blk) → List (Nat × Blk) → Bool
  | [], [] => true
  | (i, a) :: r, (j, b) :: q => (decide (i = j) && (eqL a.cells b.cells && (decide (a.flat = b.flat) && (decide (a.size = b.size) && decide (a.bld = b.bld))))) && eqH r q
  | _, _ => false
theorem eqH_ok : ∀ {a b : List (Nat × Blk)}, eqH a b = true → a = b
  | [], [], _ => rfl
  | [], _ :: _, h => by simp [eqH] at h
  | _ :: _, [], h => by simp [eqH] at h
  | (i, ⟨c, f, z, l⟩) :: r, (j, ⟨c', f', z', l'⟩) :: q, h => by
    simp only [eqH, Bool.and_eq_true, decide_eq_true_eq] at h
    obtain ⟨⟨h1, h2, h3, h4, h5⟩, h6⟩ := h
    rw [h1, eqL_ok _ _ h2, h3, h4, h5, eqH_ok h6]
/-- What the iterator has caught is as it was. -/
def capOk (s : St) (g : Operand) (gf : FuncId) (psC : List (Nat × Nat)) (Hc : List (Nat × Blk)) (ys : List V) : Bool :=
  match rdA s.tm [] g with
  | some (.clo (.func f) [] caps) => match ownIn s.H psC psC, ownArgs psC caps with
    | some H', some ys' => decide (f = gf) && (eqH H' Hc && eqL ys' ys)
    | _, _ => false
  | _ => false
theorem capOk_get {s : St} {g : Operand} {gf : FuncId} {psC : List (Nat × Nat)} {Hc : List (Nat × Blk)} {ys : List V} (h : capOk s g gf psC Hc ys = true) : ∃ caps, rdA s.tm [] g = some (.clo (.func gf) [] caps) ∧ ownIn s.H psC psC = some Hc ∧ ownArgs psC caps = some ys := by
  unfold capOk at h
  split at h
  · rename_i f caps hg
    split at h
    · rename_i H' ys' h1 h2
      simp only [Bool.and_eq_true, decide_eq_true_eq] at h
      obtain ⟨e1, e2, e3⟩ := h
      subst e1
      rw [eqH_ok e2] at h1
      rw [eqL_ok _ _ e3] at h2
      exact ⟨caps, hg, h1, h2⟩
    · cases h
  · cases h
def allIds : List (Nat × Blk) → Nat → List (Nat × Nat)
  | [], _ => []
  | (i, _) :: r, k => (k, i) :: allIds r (k + 1)
def plainT : List (Nat × T) → List Tmp
  | [] => []
  | (t, .plain _) :: r => t :: plainT r
  | _ :: r => plainT r
def dOf (s : St) : Nat := (maxA s.H ARC - ARC) / 10000 + 1
def psCOf (s : St) (caps : List V) : List (Nat × Nat) := pairsOf (some (.tup (pairsC BIG (reach s.H 500 (idsL caps) []))))
def liveB (s : St) : List Nat := reach s.H 5000 (keysB s.H) []
/-- One round behind the other. -/
def runRg (run : Code → St → Option (Exit × St)) (C : Cx) (gf : FuncId) (psC : List (Nat × Nat)) (Hc : List (Nat × Blk)) (cy : List V) (g : Operand) (ps : List Tmp) (asg body : Code) : List (List V) → St → Option (Exit × St)
  | [], s => if capOk s g gf psC Hc cy then some (.normal, s) else none
  | x :: r, s => if capOk s g gf psC Hc cy then
      match takeT s.tm (plainT s.tm), ownIn s.H (allIds s.H BIG) (allIds s.H BIG) with
      | some xs, some Hin => match ownArgs (allIds s.H BIG) xs with
        | some ys => if distinct ((allIds s.H BIG).map (·.1)) && distinct ((allIds s.H BIG).map (·.2)) then
            match run asg ⟨zipT ps x (zipT (plainT s.tm) ys []), Hin⟩ with
            | some (.normal, s1) => match run body s1 with
              | some (e, sB) => if HIn (okIds (liveB sB)) (onlyH (okIds (liveB sB)) sB.H) then
                  match evRnd s (dOf s) (allIds s.H BIG) (onlyH (okIds (liveB sB)) sB.H) with
                  | some s' => match e with
                    | .normal => runRg run C gf psC Hc cy g ps asg body r s'
                    | .exit id => some (.exit id, s')
                    | .goto t => some (.goto t, s')
                    | .ret => some (.ret, s')
                    | _ => none
                  | none => none
                else none
              | none => none
            | _ => none
          else none
        | none => none
      | _, _ => none
    else none
theorem runRg_cap {run : Code → St → Option (Exit × St)} {C : Cx} {gf : FuncId} {psC : List (Nat × Nat)} {Hc : List (Nat × Blk)} {cy : List V} {g : Operand} {ps : List Tmp} {asg body : Code} {xs : List (List V)} {s : St} {r : Exit × St} (h : runRg run C gf psC Hc cy g ps asg body xs s = some r) : capOk s g gf psC Hc cy = true := by
  cases xs with
  | nil =>
    unfold runRg at h
    split at h
    · assumption
    · cases h
  | cons x xs =>
    unfold runRg at h
    split at h
    · assumption
    · cases h
theorem runRg_ok {run : Code → St → Option (Exit × St)} {C : Cx} (hrun : ∀ (c : Code) (s : St) (e : Exit) (s' : St), run c s = some (e, s') → ∀ K : Exit → St → Prop, K e s' → AWP C c s K) {gf : FuncId} {psC : List (Nat × Nat)} {Hc : List (Nat × Blk)} {cy : List V} {g : Operand} {ps : Array Tmp} {asg body : Code} {xs : List (List V)} {s : St} {e : Exit} {s' : St} {K : Exit → St → Prop}
    (it : IterOk C.P gf Hc cy xs) (hd : (distinct (psC.map (·.1)) && distinct (psC.map (·.2))) = true) (hps : psOk C.n ps.toList = true) (hxs : ∀ x ∈ xs, x.length = ps.size ∧ inIdsL (fun _ => false) x = true)
    (h : runRg run C gf psC Hc cy g ps.toList asg body xs s = some (e, s')) (hk : K e s') : AWP C (.rangeFunc g ps asg body) s K := by
  refine AWP.rangeF psC it (fun k st => runRg run C gf psC Hc cy g ps.toList asg body (xs.drop k) st = some (e, s')) (fun k st hI => capOk_get (runRg_cap hI)) hd hps hxs (by simpa using h) (fun k st x hI hx => ?_) (fun st hI => ?_)
  · obtain ⟨hlt, hxe⟩ := List.getElem?_eq_some_iff.1 hx
    rw [List.drop_eq_getElem_cons hlt, hxe] at hI
    unfold runRg at hI
    split at hI
    case isFalse => cases hI
    split at hI
    case h_2 => cases hI
    rename_i vs Hin hvs hHin
    split at hI
    case h_2 => cases hI
    rename_i ys hys
    split at hI
    case isFalse => cases hI
    rename_i hdi
    split at hI
    case h_2 => cases hI
    rename_i s1 h1
    split at hI
    case h_2 => cases hI
    rename_i e2 sB h2
    split at hI
    case isFalse => cases hI
    rename_i hHI
    split at hI
    case h_2 => cases hI
    rename_i s2 hev
    refine ⟨dOf st, allIds st.H BIG, plainT st.tm, vs, ys, Hin, hvs, hHin, hys, hdi, hrun asg _ _ _ h1 _ ?_⟩
    show AWP C body s1 _
    refine hrun body _ _ _ h2 _ ⟨liveB sB, s2, hHI, hev, ?_⟩
    split at hI
    · exact hI
    · cases hI; exact hk
    · cases hI; exact hk
    · cases hI; exact hk
    · cases hI
  · rw [List.drop_eq_nil_of_le (Nat.le_refl _)] at hI
    unfold runRg at hI
    split at hI
    · cases hI
      exact hk
    · cases hI
/-- Only these slots are kept, with what they lead to. -/
def trimS (l : Option (List Tmp)) (s : St) : Option St := match l with
  | some l => keepS l (reach s.H 5000 (idsTm (restr l s.tm) ++ keysB s.H) []) s
  | none => some s
theorem trimS_sim {C : Cx} {l : Option (List Tmp)} {s sf : St} (h : trimS l s = some sf) : Sim C s sf := by
  unfold trimS at h
  split at h
  · exact keepS_sim h
  · cases h
    exact Sim.refl _
/-- Builder blocks of one kind are let go: nobody writes them any more. -/
def frzE (b : Nat × Nat) : List (Nat × Blk) → St → St
  | [], s => s
  | (i, blk) :: r, s => match Nat.blt i BIG && (match blk.bld with | some b' => Nat.beq b'.1 b.1 && Nat.beq b'.2 b.2 | none => false) with
    | true => match frzS i s with
      | some s' => frzE b r s'
      | none => frzE b r s
    | false => frzE b r s
theorem frzE_sim {C : Cx} {b : Nat × Nat} : ∀ {l : List (Nat × Blk)} {s : St}, Sim C s (frzE b l s)
  | [], s => Sim.refl s
  | (i, blk) :: r, s => by
    unfold frzE
    split
    · split
      · rename_i s' h
        exact Sim.trans (fun G φ a w hI => ⟨_, hI.frz h⟩) frzE_sim
      · exact frzE_sim
    · exact frzE_sim
def frzO : List (Nat × Nat) → St → St
  | [], s => s
  | b :: r, s => frzO r (frzE b s.H s)
theorem frzO_sim {C : Cx} : ∀ {l : List (Nat × Nat)} {s : St}, Sim C s (frzO l s)
  | [], s => Sim.refl s
  | b :: r, s => frzE_sim.trans frzO_sim
noncomputable def runG (call : CallF) (itr : IterF) (lv : Nat → Option (List Tmp)) (fz : Nat → List (Nat × Nat)) (C : Cx) : Nat → Code → St → Option (Exit × St)
  | 0, _, _ => none
  | n + 1, c, s => match c with
    | .skip => some (.normal, s)
    | .label _ => some (.normal, s)
    | .exit id => some (.exit id, s)
    | .ret => some (.ret, s)
    | .seq x y => match runG call itr lv fz C n x s with
      | some (.normal, s1) => runG call itr lv fz C n y s1
      | some (e, s1) => some (e, s1)
      | none => none
    | .cond o x y => match rdA s.tm [] o with
      | some (.val (.bool true)) => runG call itr lv fz C n x s
      | some (.val (.bool false)) => runG call itr lv fz C n y s
      | _ => none
    | .block id x => match runG call itr lv fz C n x s with
      | some (.exit id', s1) => if id' = id then some (.normal, s1) else some (.exit id', s1)
      | some (e, s1) => some (e, s1)
      | none => none
    | .scope x => match runG call itr lv fz C n x s with
      | some (.goto _, _) => none
      | some (e, s1) => some (e, s1)
      | none => none
    | .loop x => match runG call itr lv fz C n x s with
      | some (.normal, s1) => runG call itr lv fz C n (.loop x) s1
      | some (e, s1) => some (e, s1)
      | none => none
    | .region id ops draw => match trimS (lv id) s with
      | some s0 => fS1 (frzO (fz (id + 1)) s0) fun s0 => match tidyS s0 with
        | some s1 => fSx (anyNew s0.H) s1 fun s1 => (regC call C ops.toList draw s1).map fun s2 => (.normal, s2)
        | none => none
      | none => none
    | .rangeFunc g ps asg body => match rdA s.tm [] g with
      | some (.clo (.func gf) [] caps) =>
        match ownIn s.H (psCOf s caps) (psCOf s caps), ownArgs (psCOf s caps) caps with
        | some Hc, some ys => match itr gf Hc ys with
          | some xs => if (distinct ((psCOf s caps).map (·.1)) && distinct ((psCOf s caps).map (·.2))) && (psOk C.n ps.toList && xs.all fun x => decide (x.length = ps.size) && inIdsL (fun _ => false) x) then runRg (runG call itr lv fz C n) C gf (psCOf s caps) Hc ys g ps.toList asg body xs s else none
          | none => none
        | _, _ => none
      | _ => none
    | _ => none
theorem runG_ok {C : Cx} {call : CallF} {itr : IterF} {lv : Nat → Option (List Tmp)} {fz : Nat → List (Nat × Nat)} (hi : itr.Ok C.P) (hT : TCok C.P C.tc) (hm : C.P.follows .mixedOrders = true) (hc : call.Ok C.P) : ∀ (n : Nat),
    (∀ (c : Code) (s : St) (e : Exit) (s' : St), runG call itr lv fz C n c s = some (e, s') → ∀ K : Exit → St → Prop, K e s' → AWP C c s K) ∧
    (∀ (c : Code) (s : St) (e : Exit) (s' : St), runG call itr lv fz C n (.loop c) s = some (e, s') → ∀ K : Exit → St → Prop, K e s' → ∃ m, Unr C c K m s)
  | 0 => ⟨fun _ _ _ _ h => (by cases h), fun _ _ _ _ h => (by cases h)⟩
  | n + 1 => by
    obtain ⟨ih1, ih2⟩ := runG_ok hi hT hm hc n
    have hloop : ∀ (c : Code) (s : St) (e : Exit) (s' : St), runG call itr lv fz C (n + 1) (.loop c) s = some (e, s') → ∀ K : Exit → St → Prop, K e s' → ∃ m, Unr C c K m s := fun c s e s' h K hk => by
      unfold runG at h
      dsimp only at h
      split at h
      · rename_i s1 h1
        obtain ⟨m, hm'⟩ := ih2 c s1 e s' h K hk
        exact ⟨m + 1, ih1 c s _ _ h1 _ hm'⟩
      · rename_i e1 s1 hne h1
        cases h
        refine ⟨1, ih1 c s _ _ h1 _ ?_⟩
        cases e with
        | normal => exact (hne rfl).elim
        | _ => exact hk
      · cases h
    refine ⟨fun c s e s' h K hk => ?_, hloop⟩
    cases c with
    | skip => unfold runG at h; cases h; exact AWP.skip hk
    | label l => unfold runG at h; cases h; exact AWP.label hk
    | exit id => unfold runG at h; cases h; exact AWP.exit hk
    | ret => unfold runG at h; cases h; exact AWP.ret hk
    | seq x y =>
      unfold runG at h
      dsimp only at h
      refine AWP.seq ?_
      split at h
      · rename_i s1 h1
        exact ih1 x s _ _ h1 _ (ih1 y s1 _ _ h K hk)
      · rename_i e1 s1 hne h1
        cases h
        refine ih1 x s _ _ h1 _ ?_
        cases e with
        | normal => exact (hne rfl).elim
        | _ => exact hk
      · cases h
    | cond o x y =>
      unfold runG at h
      dsimp only at h
      split at h
      · rename_i hb
        exact AWP.cond hb (fun _ => ih1 x s _ _ h K hk) (fun h => by cases h)
      · rename_i hb
        exact AWP.cond hb (fun h => by cases h) (fun _ => ih1 y s _ _ h K hk)
      · cases h
    | block id x =>
      unfold runG at h
      dsimp only at h
      refine AWP.block ?_
      split at h
      · rename_i id' s1 h1
        refine ih1 x s _ _ h1 _ ?_
        split at h
        · rename_i e1
          cases h
          simp only [blockK]
          rw [if_pos e1]
          exact hk
        · rename_i e1
          cases h
          simp only [blockK]
          rw [if_neg e1]
          exact hk
      · rename_i e1 s1 hne h1
        cases h
        refine ih1 x s _ _ h1 _ ?_
        cases e with
        | exit id' => exact (hne id' rfl).elim
        | _ => exact hk
      · cases h
    | scope x =>
      unfold runG at h
      dsimp only at h
      refine AWP.scope ?_
      split at h
      · cases h
      · rename_i e1 s1 hne h1
        cases h
        refine ih1 x s _ _ h1 _ ?_
        cases e with
        | goto l => exact (hne l rfl).elim
        | _ => exact hk
      · cases h
    | loop x =>
      obtain ⟨m, hu⟩ := hloop x s e s' h K hk
      exact AWP.unroll m hu
    | region id ops draw =>
      unfold runG at h
      dsimp only at h
      split at h
      case h_2 => cases h
      rename_i s0 h0
      rw [fS1_eq] at h
      split at h
      · rename_i s1 h1
        rw [fSx_eq] at h
        obtain ⟨s2, h2, e2⟩ := Option.map_eq_some_iff.1 h
        cases e2
        refine AWP.sim (((trimS_sim h0).trans frzO_sim).trans (tidyS_sim h1)) ?_
        have := regC_ok (id := id) hT hm hc h2 hk
        simpa using this
      · cases h
    | rangeFunc g ps asg body =>
      unfold runG at h
      dsimp only at h
      split at h
      case h_2 => cases h
      rename_i gf caps hg
      split at h
      case h_2 => cases h
      rename_i Hc ys hHc hys
      split at h
      case h_2 => cases h
      rename_i xs hxs
      split at h
      case isFalse => cases h
      rename_i hok
      simp only [Bool.and_eq_true, List.all_eq_true, decide_eq_true_eq] at hok
      exact runRg_ok ih1 (hi gf Hc ys xs hxs) (by simp only [Bool.and_eq_true]; exact hok.1) hok.2.1 hok.2.2 h hk
    | _ => unfold runG at h; cases h
/-! ### Functions -/
noncomputable def fR (r : Option (List (Nat × Blk) × V)) : Option (List (Nat × Blk) × V) := match r with
  | some (H, x) => fH H fun H => fV x fun x => some (H, x)
  | none => none
theorem fR_eq (r : Option (List (Nat × Blk) × V)) : fR r = r := by
  rcases r with _ | ⟨H, x⟩
  · rfl
  · simp only [fR, fH_eq, fV_eq]
noncomputable def runFR (k : CallF) (itr : IterF) (lvs : FuncId → Nat → Option (List Tmp)) (fz : FuncId → Nat → List (Nat × Nat)) (P : Program) (tc : List (Nat × TI)) (fuel : Nat) : Nat → CallF
  | 0 => fun _ _ _ => none
  | n + 1 => fun f Hin args => fH Hin fun Hin => fL args fun args => match P.funcs[f]? with
    | some fn => match fn.body with
      | some c => if !(fn.name == "runtime.NumGoroutine") && Nat.ble args.length fn.ntmps then
          match runG (orC k (runFR k itr lvs fz P tc fuel n)) itr (lvs f) (fz f) ⟨P, tc, fn.ntmps⟩ fuel c ⟨params 0 args, Hin⟩ with
          | some (.normal, s) => fS1 (frzO (fz f 0) s) fun s => fR (finC ⟨P, tc, fn.ntmps⟩ fn s)
          | some (.ret, s) => fS1 (frzO (fz f 0) s) fun s => fR (finC ⟨P, tc, fn.ntmps⟩ fn s)
          | _ => none
        else none
      | none => none
    | none => none
theorem runFR_ok {P : Program} {tc : List (Nat × TI)} (hT : TCok P tc) (hm : P.follows .mixedOrders = true) {k : CallF} {itr : IterF} {lvs : FuncId → Nat → Option (List Tmp)} {fz : FuncId → Nat → List (Nat × Nat)} (hk : k.Ok P) (hi : itr.Ok P) {fuel : Nat} : ∀ n : Nat, (runFR k itr lvs fz P tc fuel n).Ok P
  | 0 => fun _ _ _ _ _ h => by cases h
  | n + 1 => fun f Hin args Hout r h => by
    unfold runFR at h
    rw [fH_eq, fL_eq] at h
    simp only [fR_eq, fS1_eq] at h
    split at h
    case h_2 => cases h
    rename_i fn hfn
    split at h
    case h_2 => cases h
    rename_i c hb
    split at h
    case isFalse => cases h
    rename_i hc
    simp only [Bool.and_eq_true, Bool.not_eq_true'] at hc
    have fin : ∀ {e : Exit} {s : St}, (e = .normal ∨ e = .ret) → runG (orC k (runFR k itr lvs fz P tc fuel n)) itr (lvs f) (fz f) ⟨P, tc, fn.ntmps⟩ fuel c ⟨params 0 args, Hin⟩ = some (e, s) → finC ⟨P, tc, fn.ntmps⟩ fn (frzO (fz f 0) s) = some (Hout, r) → Con P f Hin args Hout r := fun {e s} he hr hf => by
      simp only [finC] at hf
      split at hf
      case h_2 => cases hf
      rename_i s1 h1
      split at hf
      case h_2 => cases hf
      rename_i s2 h2
      split at hf
      case h_2 => cases hf
      rename_i vs _
      refine Con.of (C := ⟨P, tc, fn.ntmps⟩) (reach s2.H 5000 (idsL vs ++ keysB s2.H) []) hT hfn hb rfl hc.1 hc.2 (AWP.post ?_)
      exact (runG_ok (itr := itr) hi (C := ⟨P, tc, fn.ntmps⟩) hT hm (orC_ok hk (runFR_ok hT hm hk hi n)) fuel).1 c _ e s hr _ ⟨s2, frzO_sim.trans ((keepS_sim h1).trans (renS_sim h2)), he, hf⟩
    split at h
    · rename_i s hr
      exact fin (.inl rfl) hr h
    · rename_i s hr
      exact fin (.inr rfl) hr h
    · cases h
theorem run_conR {P : Program} {tc : List (Nat × TI)} (hT : TCok P tc) (hm : P.follows .mixedOrders = true) {k : CallF} {itr : IterF} {lvs : FuncId → Nat → Option (List Tmp)} {fz : FuncId → Nat → List (Nat × Nat)} (hk : k.Ok P) (hi : itr.Ok P) (fuel n : Nat) {f : FuncId} {Hin Hout : List (Nat × Blk)} {args : List V} {r : V} (h : runFR k itr lvs fz P tc fuel n f Hin args = some (Hout, r)) : Con P f Hin args Hout r := runFR_ok hT hm hk hi n f Hin args Hout r h
end Go.Ab
