/- The words. -/
import Derived.Test.YtieoaeidlcdggaaGreatDoorRg
import Derived.Test.YtieoaeidlcdggaaGreatDoorGsG
import Derived.Test.YtieoaeidlcdggaaGreatDoorAb35
namespace Go.Proofs.YtieoaeidlcdggaaGreatDoor
open Go Go.Ab
set_option linter.unusedSimpArgs false
set_option linter.unusedVariables false
set_option maxRecDepth 100000
structure Wd where
  nm : ByteArray
  a : Int
  b : Int
  n : Int
/-- The words: the name, the kind, how many numbers. -/
def wds : List Wd := [⟨⟨#[112, 105, 110, 103]⟩, 17, 1, 0⟩, ⟨⟨#[104, 111, 117, 115, 101]⟩, 3, 27, 0⟩, ⟨⟨#[119, 97, 116, 99, 104]⟩, 12, 1, 1⟩, ⟨⟨#[114, 101, 115, 116]⟩, 12, 2, 1⟩, ⟨⟨#[111, 110]⟩, 19, 4, 1⟩, ⟨⟨#[111, 102, 102]⟩, 19, 5, 1⟩, ⟨⟨#[100, 114, 111, 112]⟩, 19, 2, 1⟩, ⟨⟨#[114, 111, 119]⟩, 19, 1, 4⟩, ⟨⟨#[116, 97, 98, 108, 101]⟩, 19, 8, 0⟩, ⟨⟨#[110, 111, 116, 97, 98, 108, 101]⟩, 19, 9, 0⟩, ⟨⟨#[109, 111, 100, 101]⟩, 128, 1, 1⟩, ⟨⟨#[104, 101, 97, 108]⟩, 128, 2, 1⟩, ⟨⟨#[102, 97, 105, 108]⟩, 128, 3, 1⟩, ⟨⟨#[104, 111, 108, 100]⟩, 128, 4, 1⟩, ⟨⟨#[102, 114, 101, 101]⟩, 128, 5, 1⟩, ⟨⟨#[114, 101, 116, 114, 121]⟩, 128, 6, 1⟩, ⟨⟨#[109, 117, 116, 101]⟩, 128, 7, 1⟩, ⟨⟨#[117, 110, 109, 117, 116, 101]⟩, 128, 8, 1⟩]
def wkv (w : Wd) : V × V := (.agg true [u8 w.a, u8 w.b], .agg true [strV w.nm, i64 w.n])
def kvs : List (V × V) := wds.map wkv
def mcells : List V := kvs.flatMap fun p => [p.1, p.2]
def wcells : List V := wds.flatMap fun w => [strV w.nm, u8 w.a, u8 w.b, i64 w.n]
/-- The entries, with the slots of their keys and values. -/
def ents : List Ent := wds.zipIdx.map fun p => ⟨2 + 2 * p.2, 3 + 2 * p.2, (wkv p.1).1, (wkv p.1).2⟩
theorem con_words : Con Tryz.prog 26 [] [] [(1, ⟨mcells, true, 0, some (0, 0)⟩)] (.mp 1) := by
  refine Con.of (C := ⟨Tryz.prog, tc, Tryz.f26.ntmps⟩) [1] tcok Tryz.func26 rfl rfl (by kernel_rfl) (by kernel_rfl) ?_
  refine AWP.seq ?_
  refine AWP.regionT tcok hmix [] [0] [] (os := []) (s' := St.mk [(0, tp (V.val (Value.map none)))] []) (by kernel_rfl) trivial ?_
  refine AWP.seq ?_
  refine AWP.regionLit tcok hmix 55 75 1 ents (ti := ti_75) (s1 := ⟨[(0, .plain (.val (.map none))), (1, .plain (.mp 1))], [(1, ⟨[], true, 0, some (0, 0)⟩)]⟩) (os := []) (sf := ⟨[(0, .plain (.mp 1)), (1, .plain (.mp 1)), (38, .plain (.mp 1))], [(1, ⟨mcells, true, 0, some (0, 0)⟩)]⟩) (by kernel_rfl) rfl (by kernel_rfl) (by kernel_rfl) (by kernel_rfl) (by decide) (by kernel_rfl) ?_ (by kernel_rfl) (by kernel_rfl) (by kernel_rfl) (by kernel_rfl) [] (by kernel_rfl) trivial ?_
  · repeat' (first | exact trivial | kernel_rfl | constructor)
  · refine AWP.ret ?_
    refine ⟨Or.inr rfl, Eq.trans (b := some ([(1, Blk.mk [V.agg true [u8 17, u8 1], V.agg true [V.val (Value.string (Wd.mk (ByteArray.mk #[112, 105, 110, 103]) 17 1 0).nm), i64 0], V.agg true [u8 3, u8 27], V.agg true [V.val (Value.string (Wd.mk (ByteArray.mk #[104, 111, 117, 115, 101]) 3 27 0).nm), i64 0], V.agg true [u8 12, u8 1], V.agg true [V.val (Value.string (Wd.mk (ByteArray.mk #[119, 97, 116, 99, 104]) 12 1 1).nm), i64 1], V.agg true [u8 12, u8 2], V.agg true [V.val (Value.string (Wd.mk (ByteArray.mk #[114, 101, 115, 116]) 12 2 1).nm), i64 1], V.agg true [u8 19, u8 4], V.agg true [V.val (Value.string (Wd.mk (ByteArray.mk #[111, 110]) 19 4 1).nm), i64 1], V.agg true [u8 19, u8 5], V.agg true [V.val (Value.string (Wd.mk (ByteArray.mk #[111, 102, 102]) 19 5 1).nm), i64 1], V.agg true [u8 19, u8 2], V.agg true [V.val (Value.string (Wd.mk (ByteArray.mk #[100, 114, 111, 112]) 19 2 1).nm), i64 1], V.agg true [u8 19, u8 1], V.agg true [V.val (Value.string (Wd.mk (ByteArray.mk #[114, 111, 119]) 19 1 4).nm), i64 4], V.agg true [u8 19, u8 8], V.agg true [V.val (Value.string (Wd.mk (ByteArray.mk #[116, 97, 98, 108, 101]) 19 8 0).nm), i64 0], V.agg true [u8 19, u8 9], V.agg true [V.val (Value.string (Wd.mk (ByteArray.mk #[110, 111, 116, 97, 98, 108, 101]) 19 9 0).nm), i64 0], V.agg true [u8 128, u8 1], V.agg true [V.val (Value.string (Wd.mk (ByteArray.mk #[109, 111, 100, 101]) 128 1 1).nm), i64 1], V.agg true [u8 128, u8 2], V.agg true [V.val (Value.string (Wd.mk (ByteArray.mk #[104, 101, 97, 108]) 128 2 1).nm), i64 1], V.agg true [u8 128, u8 3], V.agg true [V.val (Value.string (Wd.mk (ByteArray.mk #[102, 97, 105, 108]) 128 3 1).nm), i64 1], V.agg true [u8 128, u8 4], V.agg true [V.val (Value.string (Wd.mk (ByteArray.mk #[104, 111, 108, 100]) 128 4 1).nm), i64 1], V.agg true [u8 128, u8 5], V.agg true [V.val (Value.string (Wd.mk (ByteArray.mk #[102, 114, 101, 101]) 128 5 1).nm), i64 1], V.agg true [u8 128, u8 6], V.agg true [V.val (Value.string (Wd.mk (ByteArray.mk #[114, 101, 116, 114, 121]) 128 6 1).nm), i64 1], V.agg true [u8 128, u8 7], V.agg true [V.val (Value.string (Wd.mk (ByteArray.mk #[109, 117, 116, 101]) 128 7 1).nm), i64 1], V.agg true [u8 128, u8 8], V.agg true [V.val (Value.string (Wd.mk (ByteArray.mk #[117, 110, 109, 117, 116, 101]) 128 8 1).nm), i64 1]] true 0 (some (0, 0)))], V.mp 1)) (by kernel_rfl) ?_⟩
    rfl
theorem con_rwords : Con Tryz.prog 15 [] [] [(19, ⟨wcells, true, 0, some (56, 4)⟩)] (.sl 19 0 18) := by
  refine Con.of (C := ⟨Tryz.prog, tc, Tryz.f15.ntmps⟩) [19] tcok Tryz.func15 rfl rfl (by kernel_rfl) (by kernel_rfl) ?_
  refine AWP.seq ?_
  refine AWP.regionT tcok hmix [] [0] [0] (os := []) (s' := St.mk [(0, tp (V.sl 0 0 0))] [(0, Blk.mk [] true 0 (some (56, 4)))]) (by kernel_rfl) trivial ?_
  refine AWP.seq ?_
  refine AWP.keep' [] [] (sf := St.mk [] []) (by kernel_rfl) ?_
  refine xg0 [0] [19] (by kernel_rfl) ?_
  refine AWP.ret ?_
  refine ⟨Or.inr rfl, Eq.trans (b := some ([(19, Blk.mk [V.val (Value.string (ByteArray.mk #[112, 105, 110, 103])), u8 17, u8 1, i64 0, V.val (Value.string (ByteArray.mk #[104, 111, 117, 115, 101])), u8 3, u8 27, i64 0, V.val (Value.string (ByteArray.mk #[119, 97, 116, 99, 104])), u8 12, u8 1, i64 1, V.val (Value.string (ByteArray.mk #[114, 101, 115, 116])), u8 12, u8 2, i64 1, V.val (Value.string (ByteArray.mk #[111, 110])), u8 19, u8 4, i64 1, V.val (Value.string (ByteArray.mk #[111, 102, 102])), u8 19, u8 5, i64 1, V.val (Value.string (ByteArray.mk #[100, 114, 111, 112])), u8 19, u8 2, i64 1, V.val (Value.string (ByteArray.mk #[114, 111, 119])), u8 19, u8 1, i64 4, V.val (Value.string (ByteArray.mk #[116, 97, 98, 108, 101])), u8 19, u8 8, i64 0, V.val (Value.string (ByteArray.mk #[110, 111, 116, 97, 98, 108, 101])), u8 19, u8 9, i64 0, V.val (Value.string (ByteArray.mk #[109, 111, 100, 101])), u8 128, u8 1, i64 1, V.val (Value.string (ByteArray.mk #[104, 101, 97, 108])), u8 128, u8 2, i64 1, V.val (Value.string (ByteArray.mk #[102, 97, 105, 108])), u8 128, u8 3, i64 1, V.val (Value.string (ByteArray.mk #[104, 111, 108, 100])), u8 128, u8 4, i64 1, V.val (Value.string (ByteArray.mk #[102, 114, 101, 101])), u8 128, u8 5, i64 1, V.val (Value.string (ByteArray.mk #[114, 101, 116, 114, 121])), u8 128, u8 6, i64 1, V.val (Value.string (ByteArray.mk #[109, 117, 116, 101])), u8 128, u8 7, i64 1, V.val (Value.string (ByteArray.mk #[117, 110, 109, 117, 116, 101])), u8 128, u8 8, i64 1] true 0 (some (56, 4)))], V.sl 19 0 18)) (by kernel_rfl) ?_⟩
  rfl
end Go.Proofs.YtieoaeidlcdggaaGreatDoor
