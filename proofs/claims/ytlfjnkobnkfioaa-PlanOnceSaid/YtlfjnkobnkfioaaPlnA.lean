/- slices.Insert at items of three cells: the walk. -/
import Derived.Test.YtlfjnkobnkfioaaTc
import Derived.Test.YtlfjnkobnkfioaaAb31
import Derived.Shelf.RegionOpenPlain
import Derived.WalkKit
import Derived.Lib.Walk
import Derived.Lib.SliceRun
import Derived.Lib.Overlaps
import Derived.Lib.AppendZerosOnto
import Derived.Laws.Externs
import Derived.Laws.CopyRow
import Derived.Laws.NewBlocks
namespace Go.Proofs.Ytlfjnkobnkfioaa
open Go Go.Ab Go.RowKit Go.Shelf Go.Lib
set_option linter.unusedSimpArgs false
set_option linter.unusedVariables false
theorem run_copy_rowK {P : Program} (w : World) (dT sT ty elem : TypeId) (g o dLen dCap : Nat) (a : Addr) (sLen sCap sz : Nat) (cur : Array Value) (t : TypeId) (cs : List Value)
    (hu : P.underlying dT = some (.slice elem)) (hs : (P.info? elem).map (·.size) = some sz)
    (hg : w.heap[g]? = some (.cells cur t (0, 0))) (hn : cs.length = Nat.min sLen dLen * sz)
    (hsrc : ∀ j v, cs[j]? = some v → w.cell? (a.add j) = some v) (hfit : o + cs.length ≤ cur.size) (h1 : ∀ v ∈ cs, v.oneCell' = true) :
    (Builtin.copy_ #[dT, sT] ty #[.slice (some ⟨g, o, none⟩) dLen dCap, .slice (some a) sLen sCap]).run P w =
      .ok (goInt (Nat.min sLen dLen)) (w.setRow g (cur.toList.take o ++ cs ++ cur.toList.drop (o + cs.length)).toArray) := by
  have hl := run_loadCells_list (P := P) w a cs hsrc
  have hst := run_storeCells_at P g o t cs 0 cur w hg (by simpa using hfit) h1
  cases hq : P.info? elem with
  | none => simp [hq] at hs
  | some i =>
    have hi : i.size = sz := by simpa [hq] using hs
    simp [Builtin.copy_, run_underlying hu, Builtin.lenOf, Builtin.firstCells, sizeOf, typeInfo, hq, hi, ← hn, hl, hst]
theorem wp_copy_runI {P : Program} (w : World) {o : Oper} {a : Act} {K : Act → World → Prop} {Q : Exit → Act → World → Prop} (d s : Operand) (t t' : TypeId)
    (ho : o.op = .call { callee := .builtin .copy, args := #[d, s], argTypes := #[t, t'] }) (v u : Value) (hd : a.eval d = v) (hs : a.eval s = u) {v' : Value} {w' : World}
    (hr : (Builtin.copy_ #[t, t'] o.type #[v, u]).run P w = .ok v' w') (h : K (a.put o.dst v') w') : o.wp P a w K Q := by
  unfold Oper.wp execOp
  simp only [ho, resolve, invoke, builtin, Sem.run_bind, Sem.run_pure, Result.andThen_ok, List.map_toArray, List.map_cons, List.map_nil, hd, hs, hr]
  exact h
theorem wpList_copy_runI {P : Program} (w : World) {ops : Array Oper} {rest : List Oper} {o : Oper} {a : Act} {Q : Exit → Act → World → Prop} (hgd : o.guard = none) (d s : Operand) (t t' : TypeId)
    (ho : o.op = .call { callee := .builtin .copy, args := #[d, s], argTypes := #[t, t'] }) (v u : Value) (hd : a.eval d = v) (hs : a.eval s = u) {v' : Value} {w' : World}
    (hr : (Builtin.copy_ #[t, t'] o.type #[v, u]).run P w = .ok v' w') (h : wpList P ops Q rest (a.put o.dst v') w') : wpList P ops Q (o :: rest) a w :=
  wpList_plain hgd fun _ hK => wp_copy_runI w d s t t' ho v u hd hs hr (hK _ _ h)
theorem step_copy_runI {P : Program} {ops : Array Oper} {o : Oper} {a : Act} {w : World} {K : Act → World → Prop} {Q : Exit → Act → World → Prop} {E : Prop}
    (hg : o.guard = none) (d x : Operand) (dT sT : TypeId) (hop : o.op = Op.call { callee := Callee.builtin Builtin.copy, args := #[d, x], argTypes := #[dT, sT] })
    (v u : Value) (hd : a.eval d = v) (hx : a.eval x = u) {v' : Value} {w' : World} (hr : (Builtin.copy_ #[dT, sT] o.type #[v, u]).run P w = .ok v' w') (hK : K (a.put o.dst v') w') :
    if Region.wanted o (yielded ops a.tmps) = true then Oper.wp P o a w K Q else E := by
  have hw : Region.wanted o (yielded ops a.tmps) = true := by simp [Region.wanted, hg]
  rw [if_pos hw]
  unfold Oper.wp
  simp [execOp, hop, resolve, invoke, builtin, hd, hx, hr, Result.andThen]
  exact hK
theorem info_item : (Try.prog.info? 79).map (fun i => (i.zero, i.size, i.bytes)) = some (some (.agg #[.int .u32 0, .int .u16 0, .slice none 0 0]), 3, 32) := by kernel_rfl
theorem und_items : Try.prog.underlying 75 = some (.slice 79) := by kernel_rfl
def insR1 (us : List Value) (n i : Nat) : List Value := us.take ((i + 1) * 3) ++ (us.drop (i * 3)).take ((n - i) * 3) ++ us.drop ((n + 1) * 3)
set_option maxHeartbeats 4000000 in
set_option maxRecDepth 100000 in
theorem ins_room (w : World) (b n c i vb voff vc : Nat) (us uv : Array Value) (tv : TypeId) (vs : List Value) (hb : w.heap[b]? = some (.cells us 79)) (hus : us.size = c * 3) (h1c : ∀ v ∈ us.toList.take (n * 3), v.oneCell' = true) (hvb : w.heap[vb]? = some (.cells uv tv))
    (hvs : (uv.toList.drop voff).take 3 = vs) (hvl : vs.length = 3) (h1v : ∀ v ∈ vs, v.oneCell' = true) (hne : vb ≠ b) (hin : i < n) (hroom : n + 1 ≤ c) (hc63 : c ≤ 9223372036854775807) :
    Calls Try.prog 46 #[.slice (some ⟨b, 0, none⟩) n c, .int .i64 i, .slice (some ⟨vb, voff, none⟩) 1 vc] w fun e w' =>
      e = .returned (.slice (some ⟨b, 0, none⟩) (n + 1) c) ∧ ∃ R, R = (((insR1 us.toList n i).take (i * 3)) ++ vs ++ ((insR1 us.toList n i).drop (i * 3 + 3))).toArray ∧ w' = (w.drew.setRow b (insR1 us.toList n i).toArray).setRow b R := by
  have mixed : Try.prog.follows .mixedOrders = true := by kernel_rfl
  have u75 := run_underlying und_items
  obtain ⟨i0, hi0, hz0, hzs, hzb⟩ := info_parts info_item
  have hsz : (Try.prog.info? 79).map (·.size) = some 3 := by rw [hi0]; simp [hzs]
  have z79 : ∀ w, (Go.sizeOf 79).run Try.prog w = .ok 3 w := fun w => by simp [sizeOf, typeInfo, hi0, hzs]
  have hz2 : ¬ ((i : Int) = (n : Int)) := by omega
  have hov : ∀ lb cb, (callFunc 57 #[.slice (some ⟨vb, voff, none⟩) 1 vc, .slice (some ⟨b, (i + 1) * 3, none⟩) lb cb]).run Try.prog w = .ok (.value (.bool false)) w := fun lb cb => by
    rw [run_callFunc_extern Try.func57 (by kernel_rfl) (by kernel_rfl) (by kernel_rfl) (e := Extern.SlicesOverlaps.overlaps #[75, 75] #[4]) (by kernel_rfl),
      Lib.run_overlaps_apart w 75 4 79 und_items 3 z79 ⟨vb, voff, none⟩ ⟨b, (i + 1) * 3, none⟩ 1 vc lb cb hne tv 79 uv.size us.size (by simp [World.shape?, hvb]) (by simp [World.shape?, hb]) (by omega) (by simp [World.frozen?, hvb]) (by simp [World.frozen?, hvb])]
    rfl
  have hw1 : IntKind.i64.wrap ((i : Int) + (1 : Int)) = (i : Int) + (1 : Int) := by rw [IntKind.wrap_i64]; omega
  have hw2 : IntKind.i64.wrap ((n : Int) + (1 : Int)) = (n : Int) + (1 : Int) := by rw [IntKind.wrap_i64]; omega
  have hb1 : (0 : Int) ≤ (i : Int) + (1 : Int) := by omega
  have hin' : i ≤ n := by omega
  have htn : ((i : Int) + (1 : Int)).toNat = i + 1 := by omega
  have hb2 : ¬ (c = i + 1) := by omega
  have hb3 : (i : Int) ≤ (n : Int) + (1 : Int) := by omega
  have hb4 : ¬ (c = i) := by omega
  have hl0 : us.toList.length = c * 3 := by simpa using hus
  have hc0 : (us.toList.drop (i * 3)).length = c * 3 - i * 3 := by rw [List.length_drop, hl0]
  have hcl : ((us.toList.drop (i * 3)).take ((n - i) * 3)).length = (n - i) * 3 := by rw [List.length_take, hc0]; omega
  have hcp1 : ∀ ty dc sc, (Builtin.copy_ #[75, 75] ty #[.slice (some ⟨b, (i + 1) * 3, none⟩) (n - i) dc, .slice (some ⟨b, i * 3, none⟩) (n + 1 - i) sc]).run Try.prog w.drew = .ok (goInt (Nat.min (n + 1 - i) (n - i))) (w.drew.setRow b (insR1 us.toList n i).toArray) := fun ty dc sc => by
    have h := run_copy_rowK (P := Try.prog) w.drew 75 75 ty 79 b ((i + 1) * 3) (n - i) dc ⟨b, i * 3, none⟩ (n + 1 - i) sc 3 us 79 ((us.toList.drop (i * 3)).take ((n - i) * 3)) und_items hsz hb
      (by rw [hcl]; simp only [Nat.min_def]; split <;> omega)
      (fun j v hj => by
        rw [List.getElem?_take] at hj
        split at hj
        · rw [List.getElem?_drop] at hj
          rw [Addr.add_lit]
          have hb' : w.drew.heap[b]? = some (.cells us 79) := hb
          simp only [World.cell?, hb']
          simpa using hj
        · cases hj) (by rw [hcl]; omega) (fun v hv => h1c v (by
        obtain ⟨j, hj⟩ := List.getElem?_of_mem hv
        rw [List.getElem?_take] at hj
        split at hj
        · rw [List.getElem?_drop] at hj
          refine List.mem_of_getElem? (i := i * 3 + j) ?_
          rw [List.getElem?_take, if_pos (by omega)]
          exact hj
        · cases hj))
    rw [h, hcl, show (i + 1) * 3 + (n - i) * 3 = (n + 1) * 3 by omega]
    rfl
  obtain ⟨R1, hR1⟩ : ∃ R1, R1 = (insR1 us.toList n i).toArray := ⟨_, rfl⟩
  have hR1l : R1.size = c * 3 := by
    rw [hR1]
    simp only [insR1, List.size_toArray, List.length_append, hcl, List.length_take, List.length_drop, hl0]
    omega
  have hR1t : insR1 us.toList n i = R1.toList := by rw [hR1]
  rw [← hR1] at hcp1 ⊢
  rw [hR1t]
  have hcp2 : ∀ (W : World), (∀ g, W.heap[g]? = (w.drew.setRow b R1).heap[g]?) → ∀ ty dc, (Builtin.copy_ #[75, 75] ty #[.slice (some ⟨b, i * 3, none⟩) (n + 1 - i) dc, .slice (some ⟨vb, voff, none⟩) 1 vc]).run Try.prog W = .ok (goInt (Nat.min 1 (n + 1 - i))) (W.setRow b (R1.toList.take (i * 3) ++ vs ++ R1.toList.drop (i * 3 + 3)).toArray) := fun W hW ty dc => by
    have hWb : W.heap[b]? = some (.cells R1 79) := by
      rw [hW]
      exact setRow_heap w.drew b us R1 79 (0, 0) hb
    have hWv : W.heap[vb]? = some (.cells uv tv) := by
      rw [hW, setRow_other _ _ _ _ hne]
      exact hvb
    have h := run_copy_rowK (P := Try.prog) W 75 75 ty 79 b (i * 3) (n + 1 - i) dc ⟨vb, voff, none⟩ 1 vc 3 R1 79 vs und_items hsz hWb
      (by rw [hvl]; simp only [Nat.min_def]; split <;> omega)
      (fun j v hj => by
        rw [← hvs, List.getElem?_take] at hj
        split at hj
        · rw [List.getElem?_drop] at hj
          rw [Addr.add_lit]
          simp only [World.cell?, hWv]
          simpa using hj
        · cases hj) (by rw [hvl]; omega) h1v
    rw [h, hvl]
  clear hR1t hR1l hcl hc0 hl0
  go_enter Try.func46, Try.ntmps46
  go_wp2_with (simp only [hov])
  go_region_law_o (refine step_copy_runI rfl _ _ 75 75 rfl _ _ (by simp [Act.eval, Act.put]) (by simp [Act.eval, Act.put]) (hcp1 _ _ _) ?_)
  go_wp2_with (at_builtin; refine wpList_copy_runI _ rfl _ _ 75 75 rfl _ _ rfl rfl (hcp2 _ (fun _ => rfl) _ _) ?_)
  go_ret
  refine ⟨rfl, _, rfl, ?_⟩
  rw [hR1, List.append_assoc]
set_option maxHeartbeats 4000000 in
set_option maxRecDepth 100000 in
theorem ins_grow (w : World) (b n c i vb voff vc : Nat) (us uv : Array Value) (tv : TypeId) (vs : List Value) (hb : w.heap[b]? = some (.cells us 79)) (hus : us.size = c * 3) (h1c : ∀ v ∈ us.toList.take (n * 3), v.oneCell' = true) (hvb : w.heap[vb]? = some (.cells uv tv))
    (hvs : (uv.toList.drop voff).take 3 = vs) (hvl : vs.length = 3) (h1v : ∀ v ∈ vs, v.oneCell' = true) (hne : vb ≠ b) (hin : i < n) (hnc : n ≤ c) (hroom : c < n + 1) (hbig : n ≤ 1000) :
    Calls Try.prog 46 #[.slice (some ⟨b, 0, none⟩) n c, .int .i64 i, .slice (some ⟨vb, voff, none⟩) 1 vc] w fun e w' =>
      ∃ G R, e = .returned (.slice (some ⟨w.heap.size, 0, none⟩) (n + 1) G) ∧ n + 1 ≤ G ∧ G ≤ 9223372036854775807 ∧ w'.os = w.os ∧ w'.tape = w.tape ∧ w'.output = w.output ∧ w.heap.size ≤ w'.heap.size ∧ (∀ k, k < w.heap.size → w'.heap[k]? = w.heap[k]?) ∧
        w'.heap[w.heap.size]? = some (.cells R 79) ∧ R.size = G * 3 ∧ R.toList.take ((n + 1) * 3) = us.toList.take (i * 3) ++ vs ++ (us.toList.drop (i * 3)).take ((n - i) * 3) := by
  have mixed : Try.prog.follows .mixedOrders = true := by kernel_rfl
  have u75 := run_underlying und_items
  obtain ⟨i0, hi0, hz0, hzs, hzb⟩ := info_parts info_item
  have hsz : (Try.prog.info? 79).map (·.size) = some 3 := by rw [hi0]; simp [hzs]
  have z79 : ∀ w, (Go.sizeOf 79).run Try.prog w = .ok 3 w := fun w => by simp [sizeOf, typeInfo, hi0, hzs]
  have hz2 : ¬ ((i : Int) = (n : Int)) := by omega
  have hz3 : (c : Int) < (n : Int) + (1 : Int) := by omega
  have hbw : b < w.heap.size := (Array.getElem?_eq_some_iff.1 hb).1
  have hvw : vb < w.heap.size := (Array.getElem?_eq_some_iff.1 hvb).1
  have hl0 : us.toList.length = c * 3 := by simpa using hus
  have hkk : (n : Int) + (1 : Int) - (i : Int) = ((n + 1 - i : Nat) : Int) := by omega
  have hik : i + (n + 1 - i) = n + 1 := by omega
  have hold : (Builtin.firstCells i0.size i (.slice (some ⟨b, 0, none⟩) i c)).run Try.prog w.drew = .ok (us.toList.take (i * 3)).toArray w.drew := by
    rw [hzs]
    exact run_firstCells_some w.drew 3 i ⟨b, 0, none⟩ i c (us.toList.take (i * 3)) (by rw [List.length_take]; omega) (fun j v hj => by
      rw [List.getElem?_take] at hj
      split at hj
      · rw [Addr.add_lit]
        have hb' : w.drew.heap[b]? = some (.cells us 79) := hb
        simp only [World.cell?, hb']
        simpa using hj
      · cases hj)
  obtain ⟨G, hG⟩ : ∃ G, G = grownCap w (n + 1) c 79 := ⟨_, rfl⟩
  obtain ⟨Z, hZ⟩ : ∃ Z : Array Value, Z = Builtin.zeroCells (Value.agg #[.int .u32 0, .int .u16 0, .slice none 0 0]).cells (n + 1 - i) ++ Builtin.zeroCells (Value.agg #[.int .u32 0, .int .u16 0, .slice none 0 0]).cells (G - (n + 1)) := ⟨_, rfl⟩
  have hGn : n + 1 ≤ G := by rw [hG]; exact grownCap_ge w _ _ _
  have hG63 : G ≤ 9223372036854775807 := by
    have := grownCap_le_maxLen w (n + 1) c 79 (by unfold maxLen; omega)
    rw [← hG] at this
    unfold maxLen at this
    omega
  have hZl : Z.size = (G - i) * 3 := by
    rw [hZ]
    simp [Builtin.zeroCells, Value.cells]
    omega
  have hrz : ∀ ty, (Builtin.append_ #[75, 3] ty #[.slice (some ⟨b, 0, none⟩) i c, .int .i64 ((n : Int) + (1 : Int) - (i : Int))]).run Try.prog w =
      .ok (.slice (some ⟨w.heap.size, 0, none⟩) (n + 1) G) (w.drew.alloc (.cells ((us.toList.take (i * 3)).toArray ++ Z) 79)) := fun ty => by
    have h := Lib.run_append_grow_zeros w 75 3 ty 79 i0 _ .i64 .i64 und_items (by kernel_rfl) hi0 hz0 (some ⟨b, 0, none⟩) i c (us.toList.take (i * 3)) hold (n + 1 - i) (by omega) (by omega) (by omega) (by omega) (by rw [hzb]; omega) (by rw [hzb, hik]; exact growslice_fits hroom (by omega))
    rw [hik, ← hG, Array.append_assoc, ← hZ] at h
    rw [hkk]
    exact h
  obtain ⟨ROW, hROW⟩ : ∃ ROW : Array Value, ROW = (us.toList.take (i * 3)).toArray ++ Z := ⟨_, rfl⟩
  rw [← hROW] at hrz
  have hRl : ROW.size = G * 3 := by
    rw [hROW]
    simp only [Array.size_append, List.size_toArray, List.length_take, hl0, hZl]
    omega
  have hRL : ROW.toList.take (i * 3) = us.toList.take (i * 3) := by
    rw [hROW, Array.toList_append]
    exact List.take_left' (by rw [List.length_take, hl0]; omega)
  obtain ⟨g, hg⟩ : ∃ g, g = w.heap.size := ⟨_, rfl⟩
  have hne2 : b ≠ g := by omega
  have hne3 : vb ≠ g := by omega
  have hWg : (w.drew.alloc (.cells ROW 79)).heap[g]? = some (.cells ROW 79) := by
    rw [hg]
    show (w.heap.push _)[w.heap.size]? = _
    simp
  have hWo : ∀ k, k < w.heap.size → (w.drew.alloc (.cells ROW 79)).heap[k]? = w.heap[k]? := fun k hk => by
    show (w.heap.push _)[k]? = _
    rw [Array.getElem?_push_lt hk, Array.getElem?_eq_getElem hk]
  obtain ⟨R1, hR1⟩ : ∃ R1 : Array Value, R1 = (ROW.toList.take (i * 3) ++ vs ++ ROW.toList.drop (i * 3 + 3)).toArray := ⟨_, rfl⟩
  have hcpA : ∀ (W : World), (∀ k, W.heap[k]? = (w.drew.alloc (.cells ROW 79)).heap[k]?) → ∀ ty dc, (Builtin.copy_ #[75, 75] ty #[.slice (some ⟨g, i * 3, none⟩) (n + 1 - i) dc, .slice (some ⟨vb, voff, none⟩) 1 vc]).run Try.prog W = .ok (goInt (Nat.min 1 (n + 1 - i))) (W.setRow g R1) := fun W hW ty dc => by
    have h := run_copy_rowK (P := Try.prog) W 75 75 ty 79 g (i * 3) (n + 1 - i) dc ⟨vb, voff, none⟩ 1 vc 3 ROW 79 vs und_items hsz ((hW g).trans hWg)
      (by rw [hvl]; simp only [Nat.min_def]; split <;> omega)
      (fun j v hj => by
        rw [← hvs, List.getElem?_take] at hj
        split at hj
        · rw [List.getElem?_drop] at hj
          rw [Addr.add_lit]
          have hWv : W.heap[vb]? = some (.cells uv tv) := by rw [hW, hWo vb hvw]; exact hvb
          simp only [World.cell?, hWv]
          simpa using hj
        · cases hj) (by rw [hvl]; omega) h1v
    rw [h, hvl, hR1]
  have hR1l : R1.size = G * 3 := by
    rw [hR1]
    simp only [List.size_toArray, List.length_append, hvl, List.length_take, List.length_drop, Array.length_toList, hRl]
    omega
  have hcl : ((us.toList.drop (i * 3)).take ((n - i) * 3)).length = (n - i) * 3 := by rw [List.length_take, List.length_drop, hl0]; omega
  obtain ⟨R2, hR2⟩ : ∃ R2 : Array Value, R2 = (R1.toList.take ((i + 1) * 3) ++ (us.toList.drop (i * 3)).take ((n - i) * 3) ++ R1.toList.drop ((n + 1) * 3)).toArray := ⟨_, rfl⟩
  have hcpB : ∀ (W : World), (∀ k, W.heap[k]? = ((w.drew.alloc (.cells ROW 79)).setRow g R1).heap[k]?) → ∀ ty dc sc, (Builtin.copy_ #[75, 75] ty #[.slice (some ⟨g, (i + 1) * 3, none⟩) (n - i) dc, .slice (some ⟨b, i * 3, none⟩) (n - i) sc]).run Try.prog W = .ok (goInt (Nat.min (n - i) (n - i))) (W.setRow g R2) := fun W hW ty dc sc => by
    have hWb : W.heap[b]? = some (.cells us 79) := by
      rw [hW, setRow_other _ _ _ _ hne2, hWo b hbw]
      exact hb
    have h := run_copy_rowK (P := Try.prog) W 75 75 ty 79 g ((i + 1) * 3) (n - i) dc ⟨b, i * 3, none⟩ (n - i) sc 3 R1 79 ((us.toList.drop (i * 3)).take ((n - i) * 3)) und_items hsz ((hW g).trans (setRow_heap _ g ROW R1 79 (0, 0) hWg))
      (by rw [hcl]; simp only [Nat.min_def]; split <;> omega)
      (fun j v hj => by
        rw [List.getElem?_take] at hj
        split at hj
        · rw [List.getElem?_drop] at hj
          rw [Addr.add_lit]
          simp only [World.cell?, hWb]
          simpa using hj
        · cases hj) (by rw [hcl]; omega) (fun v hv => h1c v (by
        obtain ⟨j, hj⟩ := List.getElem?_of_mem hv
        rw [List.getElem?_take] at hj
        split at hj
        · rw [List.getElem?_drop] at hj
          refine List.mem_of_getElem? (i := i * 3 + j) ?_
          rw [List.getElem?_take, if_pos (by omega)]
          exact hj
        · cases hj))
    rw [h, hcl, show (i + 1) * 3 + (n - i) * 3 = (n + 1) * 3 by omega, hR2]
  have hR2l : R2.size = G * 3 := by
    rw [hR2]
    simp only [List.size_toArray, List.length_append, hcl, List.length_take, List.length_drop, Array.length_toList, hR1l]
    omega
  have hR2t : R2.toList.take ((n + 1) * 3) = us.toList.take (i * 3) ++ vs ++ (us.toList.drop (i * 3)).take ((n - i) * 3) := by
    have e1 : R1.toList.take ((i + 1) * 3) = us.toList.take (i * 3) ++ vs := by
      rw [hR1, hRL]
      exact List.take_left' (by rw [List.length_append, List.length_take, hl0, hvl]; omega)
    rw [hR2, e1]
    exact List.take_left' (by rw [List.length_append, List.length_append, hcl, List.length_take, hl0, hvl]; omega)
  rw [← hg] at hrz ⊢
  have hGi : ¬ (G = i) := by omega
  have hGim : ¬ (G = i + 1) := by omega
  have hci : ¬ (c = i) := by omega
  have hw1 : IntKind.i64.wrap ((i : Int) + (1 : Int)) = (i : Int) + (1 : Int) := by rw [IntKind.wrap_i64]; omega
  have hw2 : IntKind.i64.wrap ((n : Int) + (1 : Int)) = (n : Int) + (1 : Int) := by rw [IntKind.wrap_i64]; omega
  have hw3 : IntKind.i64.wrap ((n : Int) + (1 : Int) - (i : Int)) = (n : Int) + (1 : Int) - (i : Int) := by rw [IntKind.wrap_i64]; omega
  have hb1 : (0 : Int) ≤ (i : Int) + (1 : Int) := by omega
  have hin' : i ≤ n := by omega
  have htn : ((i : Int) + (1 : Int)).toNat = i + 1 := by omega
  have hb3 : (i : Int) ≤ (n : Int) := by omega
  have hE1 : ∀ k : Nat, (w.alloc (.cells ROW 79)).drew.heap[k]? = (w.drew.alloc (.cells ROW 79)).heap[k]? := fun k => rfl
  have hF1 : ∀ k : Nat, (((w.alloc (.cells ROW 79)).drew.setRow g R1).drew).heap[k]? = ((w.drew.alloc (.cells ROW 79)).setRow g R1).heap[k]? := fun k => rfl
  clear hkk hik hold hROW hZ hR1 hR2 hG
  subst hg
  go_enter Try.func46, Try.ntmps46
  go_wp2_with (first
    | (at_builtin; refine Lib.wpList_append_run _ rfl _ _ _ _ rfl _ _ rfl rfl _ _ (hrz _) ?_)
    | (at_builtin; refine wpList_copy_runI _ rfl _ _ 75 75 rfl _ _ rfl rfl (hcpA _ hE1 _ _) ?_))
  go_region_law_o (refine step_copy_runI rfl _ _ 75 75 rfl (.slice (some ⟨w.heap.size, (i + 1) * 3, none⟩) (n - i) (G - (i + 1))) (.slice (some ⟨b, i * 3, none⟩) (n - i) (c - i)) (by simp [Act.eval, Act.put]) (by simp [Act.eval, Act.put]) (hcpB _ hF1 3 (G - (i + 1)) (c - i)) ?_)
  go_wp2
  go_ret
  refine ⟨G, R2, rfl, hGn, hG63, rfl, rfl, rfl, ?_, fun k hk => ?_, ?_, hR2l, hR2t⟩
  · rw [size_setRow]
    show w.heap.size ≤ ((w.alloc (.cells ROW 79)).setRow w.heap.size R1).heap.size
    rw [size_setRow]
    show w.heap.size ≤ (w.heap.push _).size
    simp
  · rw [setRow_other _ _ _ _ (by omega)]
    show ((w.alloc (.cells ROW 79)).setRow w.heap.size R1).heap[k]? = _
    rw [setRow_other _ _ _ _ (by omega)]
    exact hWo k hk
  · refine setRow_heap _ _ R1 R2 79 (0, 0) ?_
    show ((w.alloc (.cells ROW 79)).setRow w.heap.size R1).heap[w.heap.size]? = _
    exact setRow_heap _ _ ROW R1 79 (0, 0) hWg
end Go.Proofs.Ytlfjnkobnkfioaa
