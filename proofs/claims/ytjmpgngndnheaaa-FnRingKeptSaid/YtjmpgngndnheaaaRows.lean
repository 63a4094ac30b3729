/-
  No cell of these rows narrows 'for every input' (looked for: loops, veiled, ifaces, maps, wideKeys, modest, calm, conditions, laid).
  DERIVED. THE GIVEN ROWS OF THIS SEAT. 3 by the template 'for every input the law returns true; each argument reads behind the call as it read before'; 0 by the template 'total and deterministic' (their statements: YtjmpgngndnheaaaTotals.lean).
  GIVEN WITH THE SEED: the statements are not yours to turn. If you find one false, say at which input.
  Laid BY PROGRAM, IN A SANDBOX (cutbox-rows.mjs): the forced cells as the released guide's own fill.sh prints them over the translation ce3e7048bedcdce1… (all of the seat's roots in one cut). By AI agents, Wed Nov 11 2026. No macro, syntax, notation, axiom, sorry.
-/
import Derived.Test.YtjmpgngndnheaaaChecked
import GoSem.Claim
import GoSem.ClaimJoined
import GoSem.ClaimMapViews
import Derived.JoinedTies
import Derived.KernelRfl
namespace Go.Proofs.Ytjmpgngndnheaaa
/- THE CELL 'sum', in the pinned program and in every row, IS THE sha256 OF THE DUMP (.gsa) THAT YtjmpgngndnheaaaProg.lean LOADS. Nothing in Lean hashes anything: it is a label: what it is worth is what the hold of that sum in a sandbox is worth. -/
noncomputable def Try.pinned : Pinned := { name := "ytjmpgngndnheaaa", sum := "ce3e7048bedcdce1ddf5f4ebfd36b291f77927c8f6cf8eab0bbe56f469b09c2b", checked := Try.checked }
namespace Rows
def none {H : Type} : Left H := { results := [], args := [] }

/-- 'laws.FnExactAdvect': WHATEVER THE INPUT: true; the input reads as it did. -/
def fnExactAdvectSpec : ChangeSpec := { name := "fnExactAdvect", fn := fun _ => fun
  | [d1, d2, d3] => { results := [.lit (.bool true)], args := [d1, d2, d3] }
  | _ => none }
def fnExactAdvectRow : OpenClaim := { program := "ytjmpgngndnheaaa", sum := "ce3e7048bedcdce1ddf5f4ebfd36b291f77927c8f6cf8eab0bbe56f469b09c2b", func := "loop.example/g00051/laws.FnExactAdvect", spec := "fnExactAdvect", unfollowed := true, recurses := true, apart := false }
def FnExactAdvectSaid : Prop := fnExactAdvectRow.holds Try.pinned (OpenSpec.ofChange fnExactAdvectSpec)

/-- ITS FALSE NEIGHBOUR: 'it returns false'. Refute it at one input. -/
def fnExactAdvectWrong : ChangeSpec := { name := "fnExactAdvect", fn := fun _ => fun
  | [d1, d2, d3] => { results := [.lit (.bool false)], args := [d1, d2, d3] }
  | _ => none }
def FnExactAdvectWrongFalsely : Prop := fnExactAdvectRow.holds Try.pinned (OpenSpec.ofChange fnExactAdvectWrong)

/-- 'laws.FnExactRunRing': WHATEVER THE INPUT: true; the input reads as it did. -/
def fnExactRunRingSpec : ChangeSpec := { name := "fnExactRunRing", fn := fun _ => fun
  | [d1, d2, d3] => { results := [.lit (.bool true)], args := [d1, d2, d3] }
  | _ => none }
def fnExactRunRingRow : OpenClaim := { program := "ytjmpgngndnheaaa", sum := "ce3e7048bedcdce1ddf5f4ebfd36b291f77927c8f6cf8eab0bbe56f469b09c2b", func := "loop.example/g00051/laws.FnExactRunRing", spec := "fnExactRunRing", unfollowed := true, recurses := true, apart := false }
def FnExactRunRingSaid : Prop := fnExactRunRingRow.holds Try.pinned (OpenSpec.ofChange fnExactRunRingSpec)

/-- ITS FALSE NEIGHBOUR: 'it returns false'. Refute it at one input. -/
def fnExactRunRingWrong : ChangeSpec := { name := "fnExactRunRing", fn := fun _ => fun
  | [d1, d2, d3] => { results := [.lit (.bool false)], args := [d1, d2, d3] }
  | _ => none }
def FnExactRunRingWrongFalsely : Prop := fnExactRunRingRow.holds Try.pinned (OpenSpec.ofChange fnExactRunRingWrong)

/-- 'laws.FnRingKept': WHATEVER THE INPUT: true; the input reads as it did. -/
def fnRingKeptSpec : ChangeSpec := { name := "fnRingKept", fn := fun _ => fun
  | [d1, d2] => { results := [.lit (.bool true)], args := [d1, d2] }
  | _ => none }
def fnRingKeptRow : OpenClaim := { program := "ytjmpgngndnheaaa", sum := "ce3e7048bedcdce1ddf5f4ebfd36b291f77927c8f6cf8eab0bbe56f469b09c2b", func := "loop.example/g00051/laws.FnRingKept", spec := "fnRingKept", unfollowed := true, recurses := true, apart := false }
def FnRingKeptSaid : Prop := fnRingKeptRow.holds Try.pinned (OpenSpec.ofChange fnRingKeptSpec)

/-- ITS FALSE NEIGHBOUR: 'it returns false'. Refute it at one input. -/
def fnRingKeptWrong : ChangeSpec := { name := "fnRingKept", fn := fun _ => fun
  | [d1, d2] => { results := [.lit (.bool false)], args := [d1, d2] }
  | _ => none }
def FnRingKeptWrongFalsely : Prop := fnRingKeptRow.holds Try.pinned (OpenSpec.ofChange fnRingKeptWrong)

/- THE SECOND FORM. 'bulk': how many values and letters a reading holds, each counted each time it is reached (what is shared counts as often as it is met; a slice's spare places count too). A statement '..UptoSaid' is the law's where the arguments, and the package variables that the reading takes, are together of bulk at most 1048576: NARROWER than '..Said'. Prove '..Said' where nothing that the law and all that it calls make is longer than what came in: it says more and counts as full. Else prove '..UptoSaid'. A law counts once. -/
mutual
def uptoBulk {H : Type} : DataW H → Nat
  | .lit (.string bytes) => bytes.length + 1
  | .lit _ => 1
  | .nil => 1
  | .ptr d => uptoBulk d + 1
  | .slice elems spare => uptoBulkAll elems + uptoBulkAll spare + 1
  | .agg parts => uptoBulkAll parts + 1
  | .iface _ d => uptoBulk d + 1
  | .map entries => uptoBulkEntries entries + 1
  | .held _ => 1
def uptoBulkAll {H : Type} : List (DataW H) → Nat
  | [] => 0
  | d :: r => uptoBulk d + uptoBulkAll r
def uptoBulkEntries {H : Type} : List (Lit × DataW H) → Nat
  | [] => 0
  | x :: r => uptoBulkEntry x + uptoBulkEntries r
def uptoBulkEntry {H : Type} : Lit × DataW H → Nat
  | (.string bytes, d) => bytes.length + uptoBulk d + 1
  | (_, d) => uptoBulk d + 1
 end
def uptoSmall : (H : Type) → List (DataW H) → Bool := fun _ ds => decide (uptoBulkAll ds ≤ 1048576)
def OpenSpec.upto (s : _root_.Go.ChangeSpec) : _root_.Go.OpenSpec := { _root_.Go.OpenSpec.ofChange s with cond := some uptoSmall }

/-- 'laws.FnExactAdvect', WHERE WHAT IT READS IS OF BULK AT MOST 1048576: true; the input reads as it did. -/
def fnExactAdvectUptoRow : OpenClaim := { program := "ytjmpgngndnheaaa", sum := "ce3e7048bedcdce1ddf5f4ebfd36b291f77927c8f6cf8eab0bbe56f469b09c2b", func := "loop.example/g00051/laws.FnExactAdvect", spec := "fnExactAdvect", unfollowed := true, recurses := true, apart := false, narrowed := true }
def FnExactAdvectUptoSaid : Prop := fnExactAdvectUptoRow.holds Try.pinned (OpenSpec.upto fnExactAdvectSpec)

/-- 'laws.FnExactRunRing', WHERE WHAT IT READS IS OF BULK AT MOST 1048576: true; the input reads as it did. -/
def fnExactRunRingUptoRow : OpenClaim := { program := "ytjmpgngndnheaaa", sum := "ce3e7048bedcdce1ddf5f4ebfd36b291f77927c8f6cf8eab0bbe56f469b09c2b", func := "loop.example/g00051/laws.FnExactRunRing", spec := "fnExactRunRing", unfollowed := true, recurses := true, apart := false, narrowed := true }
def FnExactRunRingUptoSaid : Prop := fnExactRunRingUptoRow.holds Try.pinned (OpenSpec.upto fnExactRunRingSpec)

/-- 'laws.FnRingKept', WHERE WHAT IT READS IS OF BULK AT MOST 1048576: true; the input reads as it did. -/
def fnRingKeptUptoRow : OpenClaim := { program := "ytjmpgngndnheaaa", sum := "ce3e7048bedcdce1ddf5f4ebfd36b291f77927c8f6cf8eab0bbe56f469b09c2b", func := "loop.example/g00051/laws.FnRingKept", spec := "fnRingKept", unfollowed := true, recurses := true, apart := false, narrowed := true }
def FnRingKeptUptoSaid : Prop := fnRingKeptUptoRow.holds Try.pinned (OpenSpec.upto fnRingKeptSpec)

end Rows
end Go.Proofs.Ytjmpgngndnheaaa
