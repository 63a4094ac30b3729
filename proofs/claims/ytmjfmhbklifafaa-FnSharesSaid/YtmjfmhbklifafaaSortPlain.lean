/-
  DERIVED: THE SHELF's CONTRACTS AT THIS DUMP, IN PLAIN WORDS (tools/lay-plain.mjs out of 'YtmjfmhbklifafaaSortC.lean', which tools/lay-shelf.mjs wrote): THE SAME DECLARATIONS UNDER THE SAME NAMES: 'import', 'namespace', 'open', 'def', 'theorem' AND NOTHING ELSE: no command of the shelf's: FOR A HAND-IN. Each laying: the table of numbers ('.._ren') and one theorem, a field a fact of the dump's own or the kernel's comparison; each contract: ONE APPLICATION.
-/
import Derived.Shelf.SlGeneric
import Derived.Ground.SlgnProg
import Derived.Shelf.SortG.Plain
import Derived.Shelf.SortG.SortNone
import Derived.Test.YtmjfmhbklifafaaProg
namespace Go.Proofs
open Go.Shelf
def Try.laysSort_ren : Go.Shelf.Ren := ⟨fun | 53 => 48 | 64 => 50 | 63 => 49 | 78 => 60 | 79 => 61 | 70 => 51 | 71 => 52 | 72 => 53 | 73 => 54 | 74 => 55 | 75 => 56 | 59 => 57 | 76 => 58 | 77 => 59 | 88 => 62 | 89 => 63 | 90 => 64 | 91 => 65 | 92 => 66 | 68 => 67 | 96 => 68 | n => n, fun | 22 => 24 | 23 => 2 | 3 => 3 | 51 => 66 | 0 => 0 | 67 => 77 | 69 => 79 | 4 => 4 | 61 => 69 | 60 => 68 | 44 => 74 | 5 => 5 | 9 => 9 | 75 => 80 | 79 => 84 | 83 => 87 | 84 => 88 | n => n, fun | n => n⟩
theorem Try.laysSort : Go.Proofs.SlLaysN.n53 Try.prog Try.laysSort_ren := {
  mixed := by kernel_rfl
  f53 := ⟨Try.f48.name, by decide, Try.func48.trans (congrArg some (by kernel_rfl))⟩
  f59 := ⟨Try.f57.name, by decide, Try.func57.trans (congrArg some (by kernel_rfl))⟩
  f63 := ⟨Try.f49.name, by decide, Try.func49.trans (congrArg some (by kernel_rfl))⟩
  f64 := Try.func50.trans (congrArg some (by kernel_rfl))
  f68 := ⟨Try.f67.name, by decide, Try.func67.trans (congrArg some (by kernel_rfl))⟩
  f70 := ⟨Try.f51.name, by decide, Try.func51.trans (congrArg some (by kernel_rfl))⟩
  f71 := ⟨Try.f52.name, by decide, Try.func52.trans (congrArg some (by kernel_rfl))⟩
  f72 := ⟨Try.f53.name, by decide, Try.func53.trans (congrArg some (by kernel_rfl))⟩
  f73 := ⟨Try.f54.name, by decide, Try.func54.trans (congrArg some (by kernel_rfl))⟩
  f74 := ⟨Try.f55.name, by decide, Try.func55.trans (congrArg some (by kernel_rfl))⟩
  f75 := ⟨Try.f56.name, by decide, Try.func56.trans (congrArg some (by kernel_rfl))⟩
  f76 := ⟨Try.f58.name, by decide, Try.func58.trans (congrArg some (by kernel_rfl))⟩
  f77 := ⟨Try.f59.name, by decide, Try.func59.trans (congrArg some (by kernel_rfl))⟩
  f78 := Try.func60.trans (congrArg some (by kernel_rfl))
  f79 := Try.func61.trans (congrArg some (by kernel_rfl))
  f88 := ⟨Try.f62.name, by decide, Try.func62.trans (congrArg some (by kernel_rfl))⟩
  f89 := Try.func63.trans (congrArg some (by kernel_rfl))
  f90 := Try.func64.trans (congrArg some (by kernel_rfl))
  f91 := ⟨Try.f65.name, by decide, Try.func65.trans (congrArg some (by kernel_rfl))⟩
  f92 := ⟨Try.f66.name, by decide, Try.func66.trans (congrArg some (by kernel_rfl))⟩
  f96 := ⟨Try.f68.name, by decide, Try.func68.trans (congrArg some (by kernel_rfl))⟩
  t0 := Try.underlying0
  a0 := Try.isAgg0
  z0 := Try.sizeOf0
  v0 := Try.zeroValue0
  t3 := Try.underlying3
  a3 := Try.isAgg3
  z3 := Try.sizeOf3
  v3 := Try.zeroValue3
  t4 := Try.underlying4
  a4 := Try.isAgg4
  z4 := Try.sizeOf4
  v4 := Try.zeroValue4
  t5 := Try.underlying5
  a5 := Try.isAgg5
  z5 := Try.sizeOf5
  v5 := Try.zeroValue5
  t9 := Try.underlying9
  a9 := Try.isAgg9
  z9 := Try.sizeOf9
  v9 := Try.zeroValue9
  t22 := Try.underlying24
  a22 := Try.isAgg24
  z22 := Try.sizeOf24
  v22 := Try.zeroValue24
  t23 := Try.underlying2
  a23 := Try.isAgg2
  z23 := Try.sizeOf2
  v23 := Try.zeroValue2
  t44 := Try.underlying74
  a44 := Try.isAgg74
  z44 := Try.sizeOf74
  v44 := Try.zeroValue74
  t51 := Try.underlying66
  a51 := Try.isAgg66
  z51 := Try.sizeOf66
  v51 := Try.zeroValue66
  t60 := Try.underlying68
  a60 := Try.isAgg68
  z60 := Try.sizeOf68
  v60 := Try.zeroValue68
  t61 := Try.underlying69
  a61 := Try.isAgg69
  z61 := Try.sizeOf69
  v61 := Try.zeroValue69
  t67 := Try.underlying77
  a67 := Try.isAgg77
  z67 := Try.sizeOf77
  v67 := Try.zeroValue77
  t69 := Try.underlying79
  a69 := Try.isAgg79
  z69 := Try.sizeOf79
  v69 := Try.zeroValue79
  t75 := Try.underlying80
  a75 := Try.isAgg80
  z75 := Try.sizeOf80
  v75 := Try.zeroValue80
  t79 := Try.underlying84
  a79 := Try.isAgg84
  z79 := Try.sizeOf84
  v79 := Try.zeroValue84
  t83 := Try.underlying87
  a83 := Try.isAgg87
  z83 := Try.sizeOf87
  v83 := Try.zeroValue87
  t84 := Try.underlying88
  a84 := Try.isAgg88
  z84 := Try.sizeOf88
  v84 := Try.zeroValue88 }
open Go.RowKit Go.Sort in
/-- The library's sort of a row of whole numbers. -/
theorem Try.slices_Sort (blk off cap : Nat) (zs : List Int) (w : World) (hH : Holds (Value.int .i64) w blk off zs.toArray) (hblk : blk < w.heap.size) (hsz : zs.length < 4611686018427387904) :
    Calls Try.prog 48 #[.slice (some ⟨blk, off, none⟩) zs.length cap] w fun e w' => e = .returned (.tuple #[]) ∧ ∃ n os, w' = grow (putRow (Value.int .i64) (Sort.ahead w n) blk off (zs.mergeSort fun x y => decide (x ≤ y)).toArray) os := AnyG.slices_Sort_int Try.laysSort blk off cap zs w hH hblk hsz
open Go.RowKit Go.Sort in
/-- The same of no row. -/
theorem Try.slices_Sort_none (p : Option Addr) (cap : Nat) (w : World) :
    Calls Try.prog 48 #[.slice p 0 cap] w fun e w' => e = .returned (.tuple #[]) ∧ w' = w := AnyG.slices_Sort_int_none Try.laysSort p cap w
end Go.Proofs
