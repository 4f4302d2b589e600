/- Chapter 8: ContextForms: what the walks need. -/
import Derived.Test.YtmeiemdnhjnpcaaCtxC
import Derived.Test.YtmeiemdnhjnpcaaCtxE
namespace Go.Proofs.Ytmeiemdnhjnpcaa
open Go.Ab
set_option linter.unusedSimpArgs false
set_option linter.unusedVariables false
def csm (f h r0 r1 r2 r3 r4 r5 k0 k1 k2 k3 k4 k5 mo rs ih : Int) (ex : Bool) (f' h' r0' r1' r2' r3' r4' r5' k0' k1' k2' k3' k4' k5' mo' rs' ih' : Int) (ex' : Bool) : Bool := bl true (f == f' && (h == h' && (r0 == r0' && (r1 == r1' && (r2 == r2' && (r3 == r3' && (r4 == r4' && (r5 == r5' && true))))) && (k0 == k0' && (k1 == k1' && (k2 == k2' && (k3 == k3' && (k4 == k4' && (k5 == k5' && true))))) && (mo == mo' && (rs == rs' && (ex == ex' && (ih == ih' && true))))))))
theorem con_csame (f h r0 r1 r2 r3 r4 r5 k0 k1 k2 k3 k4 k5 mo rs ih : Int) (ex : Bool) (f' h' r0' r1' r2' r3' r4' r5' k0' k1' k2' k3' k4' k5' mo' rs' ih' : Int) (ex' : Bool) : Con Try.prog 28 [] [.agg true [u16 f, u16 h, u8 r0, u8 r1, u8 r2, u8 r3, u8 r4, u8 r5, i8 k0, i8 k1, i8 k2, i8 k3, i8 k4, i8 k5, u8 mo, u16 rs, vb ex, u8 ih], .agg true [u16 f', u16 h', u8 r0', u8 r1', u8 r2', u8 r3', u8 r4', u8 r5', i8 k0', i8 k1', i8 k2', i8 k3', i8 k4', i8 k5', u8 mo', u16 rs', vb ex', u8 ih']] [] (vb (csm f h r0 r1 r2 r3 r4 r5 k0 k1 k2 k3 k4 k5 mo rs ih ex f' h' r0' r1' r2' r3' r4' r5' k0' k1' k2' k3' k4' k5' mo' rs' ih' ex')) := by
  refine Con.of (C := ⟨Try.prog, tc, Try.f28.ntmps⟩) [] tcok Try.func28 rfl rfl (by kernel_rfl) (by kernel_rfl) ?_
  refine AWP.seq ?_
  refine AWP.regionT tcok hmix [] [2, 3, 4] [2, 3] (os := []) (s' := St.mk [(2, T.plain (V.ptr 2 0)), (3, T.plain (V.ptr 3 0)), (4, T.plain (vb false))] [(2, Blk.mk [u16 f, u16 h, u8 r0, u8 r1, u8 r2, u8 r3, u8 r4, u8 r5, i8 k0, i8 k1, i8 k2, i8 k3, i8 k4, i8 k5, u8 mo, u16 rs, vb ex, u8 ih] true 18 none), (3, Blk.mk [u16 f', u16 h', u8 r0', u8 r1', u8 r2', u8 r3', u8 r4', u8 r5', i8 k0', i8 k1', i8 k2', i8 k3', i8 k4', i8 k5', u8 mo', u16 rs', vb ex', u8 ih'] true 18 none)]) (by kernel_rfl) trivial ?_
  refine AWP.seq ?_
  refine AWP.regionT tcok hmix [] [4] [] (os := []) (s' := St.mk [(4, T.plain (vb (bl true (f == f' && (h == h' && (r0 == r0' && (r1 == r1' && (r2 == r2' && (r3 == r3' && (r4 == r4' && (r5 == r5' && true))))) && (k0 == k0' && (k1 == k1' && (k2 == k2' && (k3 == k3' && (k4 == k4' && (k5 == k5' && true))))) && (mo == mo' && (rs == rs' && (ex == ex' && (ih == ih' && true)))))))))))] []) (by kernel_rfl) trivial ?_
  refine AWP.ret ?_
  refine ⟨Or.inr rfl, Eq.trans (b := some ([], vb (bl true (f == f' && (h == h' && (r0 == r0' && (r1 == r1' && (r2 == r2' && (r3 == r3' && (r4 == r4' && (r5 == r5' && true))))) && (k0 == k0' && (k1 == k1' && (k2 == k2' && (k3 == k3' && (k4 == k4' && (k5 == k5' && true))))) && (mo == mo' && (rs == rs' && (ex == ex' && (ih == ih' && true))))))))))) (by kernel_rfl) ?_⟩
  rfl
theorem csm_self (f h r0 r1 r2 r3 r4 r5 k0 k1 k2 k3 k4 k5 mo rs ih : Int) (ex : Bool) : csm f h r0 r1 r2 r3 r4 r5 k0 k1 k2 k3 k4 k5 mo rs ih ex f h r0 r1 r2 r3 r4 r5 k0 k1 k2 k3 k4 k5 mo rs ih ex = true := by simp [csm, bl]
def d1 (l : List Int) (i : Nat) : Int := pW l (l.getD i 0)
def dk (l : List Int) (i : Nat) : Int := pW l (l.getD i 0 - 1)
def d2 (l : List Int) (i : Nat) : Int := pW l (l.getD i 0 * 256 + l.getD (i + 1) 0)
def dz (l : List Int) : Bool := pB l && (l.getD 19 0 == 1)
/-- The context that bytes are. -/
def DL (l : List Int) : List V := [u16 (d2 l 0), u16 (d2 l 2), u8 (d1 l 4), u8 (d1 l 5), u8 (d1 l 6), u8 (d1 l 7), u8 (d1 l 8), u8 (d1 l 9), i8 (dk l 10), i8 (dk l 11), i8 (dk l 12), i8 (dk l 13), i8 (dk l 14), i8 (dk l 15), u8 (d1 l 16), u16 (d2 l 17), vb (dz l), u8 (d1 l 20)]
def DV (l : List Int) : V := .agg true (DL l)
theorem DL_eq (l : List Int) : DL l = [u16 (d2 l 0), u16 (d2 l 2), u8 (d1 l 4), u8 (d1 l 5), u8 (d1 l 6), u8 (d1 l 7), u8 (d1 l 8), u8 (d1 l 9), i8 (dk l 10), i8 (dk l 11), i8 (dk l 12), i8 (dk l 13), i8 (dk l 14), i8 (dk l 15), u8 (d1 l 16), u16 (d2 l 17), vb (dz l), u8 (d1 l 20)] := rfl
def ZL : List V := [u16 0, u16 0, u8 0, u8 0, u8 0, u8 0, u8 0, u8 0, i8 0, i8 0, i8 0, i8 0, i8 0, i8 0, u8 0, u16 0, vb false, u8 0]
theorem con_dparse (l : List Int) (n : Nat) (hn : l.length = n) (hl : BL l) (hlen : n ≤ 9223372036854775807) : Con Try.prog 26 [] [.vs (u8s l) n] [] (.tup [DV l, i64 (pI l)]) := con_parse l n hn hl hlen
theorem con_drparse (l : List Int) (n : Nat) (hn : l.length = n) (hl : BL l) (hlen : n ≤ 9223372036854775807) : Con Try.prog 27 [] [.vs (u8s l) n] [] (.tup [DV l, vb (pB l)]) := con_rparse l n hn hl hlen
theorem d_y {l : List Int} (h : pB l = true) : pI l = 0 := by simp [pI, h]
theorem d_n {l : List Int} (h : pB l = false) : pI l = 2 ∧ dz l = false ∧ (∀ i, d1 l i = 0) ∧ (∀ i, dk l i = 0) ∧ (∀ i, d2 l i = 0) := by
  refine ⟨?_, ?_, fun i => ?_, fun i => ?_, fun i => ?_⟩ <;> simp [pI, dz, d1, dk, d2, pW, h]
theorem con_samen (l k : List Int) (n m : Nat) (hn : l.length = n) (hm : k.length = m) (hl : n ≤ 9223372036854775807) (hk : m ≤ 9223372036854775807) : Con Try.prog 23 [] [.vs (u8s l) n, .vs (u8s k) m] [] (vb (decide (l = k))) := by
  subst hn hm
  exact con_same l k hl hk
theorem con_join1n (a : List Int) (n : Nat) (hn : a.length = n) (h : n ≤ 140737488355328) : Con Try.prog 25 [] [.vs [.vs (u8s a) n] 1] [(3, ⟨u8s a, true, 0, some (5, 1)⟩)] (.sl 3 0 n) := by
  subst hn
  exact con_join1 a h
/-- A context's bytes. -/
def cby (f h r0 r1 r2 r3 r4 r5 k0 k1 k2 k3 k4 k5 mo rs ih : Int) (ex : Bool) : List Int := [f / 256, f % 256, h / 256, h % 256, r0, r1, r2, r3, r4, r5, k0 + 1, k1 + 1, k2 + 1, k3 + 1, k4 + 1, k5 + 1, mo, rs / 256, rs % 256, o1 ex, ih]
theorem cby_len (f h r0 r1 r2 r3 r4 r5 k0 k1 k2 k3 k4 k5 mo rs ih : Int) (ex : Bool) : (cby f h r0 r1 r2 r3 r4 r5 k0 k1 k2 k3 k4 k5 mo rs ih ex).length = 21 := rfl
theorem cby_bl (f h r0 r1 r2 r3 r4 r5 k0 k1 k2 k3 k4 k5 mo rs ih : Int) (ex : Bool) (hb : 0 ≤ f ∧ f < 65536 ∧ 0 ≤ h ∧ h < 65536 ∧ 0 ≤ r0 ∧ r0 < 256 ∧ 0 ≤ r1 ∧ r1 < 256 ∧ 0 ≤ r2 ∧ r2 < 256 ∧ 0 ≤ r3 ∧ r3 < 256 ∧ 0 ≤ r4 ∧ r4 < 256 ∧ 0 ≤ r5 ∧ r5 < 256 ∧ -128 ≤ k0 ∧ k0 < 128 ∧ -128 ≤ k1 ∧ k1 < 128 ∧ -128 ≤ k2 ∧ k2 < 128 ∧ -128 ≤ k3 ∧ k3 < 128 ∧ -128 ≤ k4 ∧ k4 < 128 ∧ -128 ≤ k5 ∧ k5 < 128 ∧ 0 ≤ mo ∧ mo < 256 ∧ 0 ≤ rs ∧ rs < 65536 ∧ 0 ≤ ih ∧ ih < 256) (hy : -1 ≤ k0 ∧ k0 ≤ 15 ∧ -1 ≤ k1 ∧ k1 ≤ 15 ∧ -1 ≤ k2 ∧ k2 ≤ 15 ∧ -1 ≤ k3 ∧ k3 ≤ 15 ∧ -1 ≤ k4 ∧ k4 ≤ 15 ∧ -1 ≤ k5 ∧ k5 ≤ 15 ∧ mo ≤ 3 ∧ ih ≤ 31) : BL (cby f h r0 r1 r2 r3 r4 r5 k0 k1 k2 k3 k4 k5 mo rs ih ex) := by
  have oe := o1_bd ex
  simp only [cby, BL, List.forall_mem_cons, List.not_mem_nil, false_implies, implies_true, and_true]
  omega
theorem cby_pb (f h r0 r1 r2 r3 r4 r5 k0 k1 k2 k3 k4 k5 mo rs ih : Int) (ex : Bool) (hb : 0 ≤ f ∧ f < 65536 ∧ 0 ≤ h ∧ h < 65536 ∧ 0 ≤ r0 ∧ r0 < 256 ∧ 0 ≤ r1 ∧ r1 < 256 ∧ 0 ≤ r2 ∧ r2 < 256 ∧ 0 ≤ r3 ∧ r3 < 256 ∧ 0 ≤ r4 ∧ r4 < 256 ∧ 0 ≤ r5 ∧ r5 < 256 ∧ -128 ≤ k0 ∧ k0 < 128 ∧ -128 ≤ k1 ∧ k1 < 128 ∧ -128 ≤ k2 ∧ k2 < 128 ∧ -128 ≤ k3 ∧ k3 < 128 ∧ -128 ≤ k4 ∧ k4 < 128 ∧ -128 ≤ k5 ∧ k5 < 128 ∧ 0 ≤ mo ∧ mo < 256 ∧ 0 ≤ rs ∧ rs < 65536 ∧ 0 ≤ ih ∧ ih < 256) (hy : -1 ≤ k0 ∧ k0 ≤ 15 ∧ -1 ≤ k1 ∧ k1 ≤ 15 ∧ -1 ≤ k2 ∧ k2 ≤ 15 ∧ -1 ≤ k3 ∧ k3 ≤ 15 ∧ -1 ≤ k4 ∧ k4 ≤ 15 ∧ -1 ≤ k5 ∧ k5 ≤ 15 ∧ mo ≤ 3 ∧ ih ≤ 31) : pB (cby f h r0 r1 r2 r3 r4 r5 k0 k1 k2 k3 k4 k5 mo rs ih ex) = true := by
  have oe := o1_bd ex
  refine decide_eq_true ⟨rfl, ?_, ?_⟩
  · show (k0 + 1 ≤ 16 ∧ k1 + 1 ≤ 16 ∧ k2 + 1 ≤ 16 ∧ k3 + 1 ≤ 16 ∧ k4 + 1 ≤ 16 ∧ k5 + 1 ≤ 16 ∧ mo ≤ 3 ∧ ih ≤ 31)
    omega
  · show o1 ex ≤ 1
    omega
theorem con_cbytes (f h r0 r1 r2 r3 r4 r5 k0 k1 k2 k3 k4 k5 mo rs ih : Int) (ex : Bool) (hb : 0 ≤ f ∧ f < 65536 ∧ 0 ≤ h ∧ h < 65536 ∧ 0 ≤ r0 ∧ r0 < 256 ∧ 0 ≤ r1 ∧ r1 < 256 ∧ 0 ≤ r2 ∧ r2 < 256 ∧ 0 ≤ r3 ∧ r3 < 256 ∧ 0 ≤ r4 ∧ r4 < 256 ∧ 0 ≤ r5 ∧ r5 < 256 ∧ -128 ≤ k0 ∧ k0 < 128 ∧ -128 ≤ k1 ∧ k1 < 128 ∧ -128 ≤ k2 ∧ k2 < 128 ∧ -128 ≤ k3 ∧ k3 < 128 ∧ -128 ≤ k4 ∧ k4 < 128 ∧ -128 ≤ k5 ∧ k5 < 128 ∧ 0 ≤ mo ∧ mo < 256 ∧ 0 ≤ rs ∧ rs < 65536 ∧ 0 ≤ ih ∧ ih < 256) (hy : -1 ≤ k0 ∧ k0 ≤ 15 ∧ -1 ≤ k1 ∧ k1 ≤ 15 ∧ -1 ≤ k2 ∧ k2 ≤ 15 ∧ -1 ≤ k3 ∧ k3 ≤ 15 ∧ -1 ≤ k4 ∧ k4 ≤ 15 ∧ -1 ≤ k5 ∧ k5 ≤ 15 ∧ mo ≤ 3 ∧ ih ≤ 31) : Con Try.prog 19 [] [.agg true [u16 f, u16 h, u8 r0, u8 r1, u8 r2, u8 r3, u8 r4, u8 r5, i8 k0, i8 k1, i8 k2, i8 k3, i8 k4, i8 k5, u8 mo, u16 rs, vb ex, u8 ih]] [(23, ⟨u8s (cby f h r0 r1 r2 r3 r4 r5 k0 k1 k2 k3 k4 k5 mo rs ih ex), true, 0, some (5, 1)⟩)] (.sl 23 0 21) := con_bytes f h r0 r1 r2 r3 r4 r5 k0 k1 k2 k3 k4 k5 mo rs ih ex hb hy
theorem con_crbytes (f h r0 r1 r2 r3 r4 r5 k0 k1 k2 k3 k4 k5 mo rs ih : Int) (ex : Bool) (hb : 0 ≤ f ∧ f < 65536 ∧ 0 ≤ h ∧ h < 65536 ∧ 0 ≤ r0 ∧ r0 < 256 ∧ 0 ≤ r1 ∧ r1 < 256 ∧ 0 ≤ r2 ∧ r2 < 256 ∧ 0 ≤ r3 ∧ r3 < 256 ∧ 0 ≤ r4 ∧ r4 < 256 ∧ 0 ≤ r5 ∧ r5 < 256 ∧ -128 ≤ k0 ∧ k0 < 128 ∧ -128 ≤ k1 ∧ k1 < 128 ∧ -128 ≤ k2 ∧ k2 < 128 ∧ -128 ≤ k3 ∧ k3 < 128 ∧ -128 ≤ k4 ∧ k4 < 128 ∧ -128 ≤ k5 ∧ k5 < 128 ∧ 0 ≤ mo ∧ mo < 256 ∧ 0 ≤ rs ∧ rs < 65536 ∧ 0 ≤ ih ∧ ih < 256) (hy : -1 ≤ k0 ∧ k0 ≤ 15 ∧ -1 ≤ k1 ∧ k1 ≤ 15 ∧ -1 ≤ k2 ∧ k2 ≤ 15 ∧ -1 ≤ k3 ∧ k3 ≤ 15 ∧ -1 ≤ k4 ∧ k4 ≤ 15 ∧ -1 ≤ k5 ∧ k5 ≤ 15 ∧ mo ≤ 3 ∧ ih ≤ 31) : Con Try.prog 24 [] [.agg true [u16 f, u16 h, u8 r0, u8 r1, u8 r2, u8 r3, u8 r4, u8 r5, i8 k0, i8 k1, i8 k2, i8 k3, i8 k4, i8 k5, u8 mo, u16 rs, vb ex, u8 ih]] [(470003, ⟨u8s (cby f h r0 r1 r2 r3 r4 r5 k0 k1 k2 k3 k4 k5 mo rs ih ex), true, 0, some (5, 1)⟩)] (.sl 470003 0 21) := con_rbytes f h r0 r1 r2 r3 r4 r5 k0 k1 k2 k3 k4 k5 mo rs ih ex hb hy
end Go.Proofs.Ytmeiemdnhjnpcaa
