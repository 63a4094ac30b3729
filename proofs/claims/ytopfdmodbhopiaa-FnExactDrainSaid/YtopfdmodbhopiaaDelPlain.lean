/-
  DERIVED: THE SHELF's CONTRACTS AT THIS DUMP, IN PLAIN WORDS (tools/lay-plain.mjs out of 'YtopfdmodbhopiaaDelC.lean', which tools/lay-shelf.mjs wrote): THE SAME DECLARATIONS UNDER THE SAME NAMES: 'import', 'namespace', 'open', 'def', 'theorem' AND NOTHING ELSE: no command of the shelf's: FOR A HAND-IN. Each laying: the table of numbers ('.._ren') and one theorem, a field a fact of the dump's own or the kernel's comparison; each contract: ONE APPLICATION.
-/
import Derived.Shelf.SlGeneric
import Derived.Ground.SlgnProg
import Derived.Shelf.SlicesE.Delete
import Derived.Test.YtopfdmodbhopiaaProg
namespace Go.Proofs
open Go.Shelf
def Try.laysDel_ren : Go.Shelf.Ren := ⟨fun | 45 => 64 | n => n, fun | 22 => 22 | 23 => 2 | 3 => 3 | 4 => 4 | 0 => 0 | n => n, fun | n => n⟩
theorem Try.laysDel : Go.Proofs.SlLaysE.n45 Try.prog Try.laysDel_ren := {
  mixed := by kernel_rfl
  f45 := ⟨Try.f64.name, by decide, Try.func64.trans (congrArg some (by kernel_rfl))⟩
  t0 := Try.underlying0
  a0 := Try.isAgg0
  z0 := Try.sizeOf0
  v0 := Try.zeroValue0
  t3 := Try.underlying3
  a3 := Try.isAgg3
  z3 := Try.sizeOf3
  v3 := Try.zeroValue3
  t4 := Try.underlying4
  a4 := Try.isAgg4
  z4 := Try.sizeOf4
  v4 := Try.zeroValue4
  t22 := Try.underlying22
  a22 := Try.isAgg22
  z22 := Try.sizeOf22
  v22 := Try.zeroValue22
  a23 := Try.isAgg2
  z23 := Try.sizeOf2 }
theorem Try.infoDel : (Try.prog.info? 2).isSome = true := by kernel_rfl
open Go.RowKit Go.Sort in
/-- The library's Delete on a row of whole numbers. -/
theorem Try.slices_Delete (blk off cap i j : Nat) (d : Array Int) (w : World) (hH : Holds (Value.int .i64) w blk off d) (hcap : d.size ≤ cap) (hm : cap ≤ 9223372036854775807) (hij : i ≤ j) (hj : j ≤ d.size) :
    Calls Try.prog 64 #[.slice (some ⟨blk, off, none⟩) d.size cap, .int .i64 i, .int .i64 j] w fun e w' => e = .returned (.slice (some ⟨blk, off, none⟩) (d.size - (j - i)) cap) ∧ ∃ q, w' = putRow (Value.int .i64) (Sort.ahead w q) blk off (d.toList.take i ++ d.toList.drop j ++ List.replicate (j - i) (0 : Int)).toArray :=
  AnyE.slices_Delete Try.laysDel (Value.int .i64) (fun _ => rfl) 0 (fun _ => by kernel_rfl) ((Try.prog.info? 2).get Try.infoDel) (by kernel_rfl) (by kernel_rfl) blk off cap i j d w hH hcap hm hij hj
end Go.Proofs
