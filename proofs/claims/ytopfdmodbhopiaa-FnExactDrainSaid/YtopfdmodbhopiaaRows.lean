/-
  No cell of these rows narrows 'for every input' (looked for: loops, veiled, ifaces, maps, wideKeys, modest, calm, conditions, laid).
  DERIVED. THE GIVEN ROWS OF THIS SEAT. 6 by the template 'for every input the law returns true; each argument reads behind the call as it read before'; 0 by the template 'total and deterministic' (their statements: YtopfdmodbhopiaaTotals.lean).
  GIVEN WITH THE SEED: the statements are not yours to turn. If you find one false, say at which input.
  Laid BY PROGRAM, IN A SANDBOX (cutbox-rows.mjs): the forced cells as the released guide's own fill.sh prints them over the translation 85d200d22c209cae… (all of the seat's roots in one cut). By AI agents, Wed Nov 11 2026. No macro, syntax, notation, axiom, sorry.
-/
import Derived.Test.YtopfdmodbhopiaaChecked
import GoSem.Claim
import GoSem.ClaimJoined
import GoSem.ClaimMapViews
import Derived.JoinedTies
import Derived.KernelRfl
namespace Go.Proofs.Ytopfdmodbhopiaa
/- THE CELL 'sum', in the pinned program and in every row, IS THE sha256 OF THE DUMP (.gsa) THAT YtopfdmodbhopiaaProg.lean LOADS. Nothing in Lean hashes anything: it is a label: what it is worth is what the hold of that sum in a sandbox is worth. -/
noncomputable def Try.pinned : Pinned := { name := "ytopfdmodbhopiaa", sum := "85d200d22c209cae9decbf23ee33a156d726460f57205542197b026941cc38d4", checked := Try.checked }
namespace Rows
def none {H : Type} : Left H := { results := [], args := [] }

/-- 'laws.FnExactFlowStep': WHATEVER THE INPUT: true; the input reads as it did. -/
def fnExactFlowStepSpec : ChangeSpec := { name := "fnExactFlowStep", fn := fun _ => fun
  | [d1, d2, d3] => { results := [.lit (.bool true)], args := [d1, d2, d3] }
  | _ => none }
def fnExactFlowStepRow : OpenClaim := { program := "ytopfdmodbhopiaa", sum := "85d200d22c209cae9decbf23ee33a156d726460f57205542197b026941cc38d4", func := "loop.example/g00051/laws.FnExactFlowStep", spec := "fnExactFlowStep", apart := false }
def FnExactFlowStepSaid : Prop := fnExactFlowStepRow.holds Try.pinned (OpenSpec.ofChange fnExactFlowStepSpec)

/-- ITS FALSE NEIGHBOUR: 'it returns false'. Refute it at one input. -/
def fnExactFlowStepWrong : ChangeSpec := { name := "fnExactFlowStep", fn := fun _ => fun
  | [d1, d2, d3] => { results := [.lit (.bool false)], args := [d1, d2, d3] }
  | _ => none }
def FnExactFlowStepWrongFalsely : Prop := fnExactFlowStepRow.holds Try.pinned (OpenSpec.ofChange fnExactFlowStepWrong)

/-- 'laws.FnWaterBook': WHATEVER THE INPUT: true; the input reads as it did. -/
def fnWaterBookSpec : ChangeSpec := { name := "fnWaterBook", fn := fun _ => fun
  | [d1, d2] => { results := [.lit (.bool true)], args := [d1, d2] }
  | _ => none }
def fnWaterBookRow : OpenClaim := { program := "ytopfdmodbhopiaa", sum := "85d200d22c209cae9decbf23ee33a156d726460f57205542197b026941cc38d4", func := "loop.example/g00051/laws.FnWaterBook", spec := "fnWaterBook", apart := false }
def FnWaterBookSaid : Prop := fnWaterBookRow.holds Try.pinned (OpenSpec.ofChange fnWaterBookSpec)

/-- ITS FALSE NEIGHBOUR: 'it returns false'. Refute it at one input. -/
def fnWaterBookWrong : ChangeSpec := { name := "fnWaterBook", fn := fun _ => fun
  | [d1, d2] => { results := [.lit (.bool false)], args := [d1, d2] }
  | _ => none }
def FnWaterBookWrongFalsely : Prop := fnWaterBookRow.holds Try.pinned (OpenSpec.ofChange fnWaterBookWrong)

/-- 'laws.FnExactAdvect': WHATEVER THE INPUT: true; the input reads as it did. -/
def fnExactAdvectSpec : ChangeSpec := { name := "fnExactAdvect", fn := fun _ => fun
  | [d1, d2, d3] => { results := [.lit (.bool true)], args := [d1, d2, d3] }
  | _ => none }
def fnExactAdvectRow : OpenClaim := { program := "ytopfdmodbhopiaa", sum := "85d200d22c209cae9decbf23ee33a156d726460f57205542197b026941cc38d4", func := "loop.example/g00051/laws.FnExactAdvect", spec := "fnExactAdvect", unfollowed := true, recurses := true, apart := false }
def FnExactAdvectSaid : Prop := fnExactAdvectRow.holds Try.pinned (OpenSpec.ofChange fnExactAdvectSpec)

/-- ITS FALSE NEIGHBOUR: 'it returns false'. Refute it at one input. -/
def fnExactAdvectWrong : ChangeSpec := { name := "fnExactAdvect", fn := fun _ => fun
  | [d1, d2, d3] => { results := [.lit (.bool false)], args := [d1, d2, d3] }
  | _ => none }
def FnExactAdvectWrongFalsely : Prop := fnExactAdvectRow.holds Try.pinned (OpenSpec.ofChange fnExactAdvectWrong)

/-- 'laws.FnExactRunRing': WHATEVER THE INPUT: true; the input reads as it did. -/
def fnExactRunRingSpec : ChangeSpec := { name := "fnExactRunRing", fn := fun _ => fun
  | [d1, d2, d3] => { results := [.lit (.bool true)], args := [d1, d2, d3] }
  | _ => none }
def fnExactRunRingRow : OpenClaim := { program := "ytopfdmodbhopiaa", sum := "85d200d22c209cae9decbf23ee33a156d726460f57205542197b026941cc38d4", func := "loop.example/g00051/laws.FnExactRunRing", spec := "fnExactRunRing", unfollowed := true, recurses := true, apart := false }
def FnExactRunRingSaid : Prop := fnExactRunRingRow.holds Try.pinned (OpenSpec.ofChange fnExactRunRingSpec)

/-- ITS FALSE NEIGHBOUR: 'it returns false'. Refute it at one input. -/
def fnExactRunRingWrong : ChangeSpec := { name := "fnExactRunRing", fn := fun _ => fun
  | [d1, d2, d3] => { results := [.lit (.bool false)], args := [d1, d2, d3] }
  | _ => none }
def FnExactRunRingWrongFalsely : Prop := fnExactRunRingRow.holds Try.pinned (OpenSpec.ofChange fnExactRunRingWrong)

/-- 'laws.FnRingKept': WHATEVER THE INPUT: true; the input reads as it did. -/
def fnRingKeptSpec : ChangeSpec := { name := "fnRingKept", fn := fun _ => fun
  | [d1, d2] => { results := [.lit (.bool true)], args := [d1, d2] }
  | _ => none }
def fnRingKeptRow : OpenClaim := { program := "ytopfdmodbhopiaa", sum := "85d200d22c209cae9decbf23ee33a156d726460f57205542197b026941cc38d4", func := "loop.example/g00051/laws.FnRingKept", spec := "fnRingKept", unfollowed := true, recurses := true, apart := false }
def FnRingKeptSaid : Prop := fnRingKeptRow.holds Try.pinned (OpenSpec.ofChange fnRingKeptSpec)

/-- ITS FALSE NEIGHBOUR: 'it returns false'. Refute it at one input. -/
def fnRingKeptWrong : ChangeSpec := { name := "fnRingKept", fn := fun _ => fun
  | [d1, d2] => { results := [.lit (.bool false)], args := [d1, d2] }
  | _ => none }
def FnRingKeptWrongFalsely : Prop := fnRingKeptRow.holds Try.pinned (OpenSpec.ofChange fnRingKeptWrong)

/-- 'laws.FnExactDrain': WHATEVER THE INPUT: true; the input reads as it did. -/
def fnExactDrainSpec : ChangeSpec := { name := "fnExactDrain", fn := fun _ => fun
  | [d] => { results := [.lit (.bool true)], args := [d] }
  | _ => none }
def fnExactDrainRow : OpenClaim := { program := "ytopfdmodbhopiaa", sum := "85d200d22c209cae9decbf23ee33a156d726460f57205542197b026941cc38d4", func := "loop.example/g00051/laws.FnExactDrain", spec := "fnExactDrain", apart := false }
def FnExactDrainSaid : Prop := fnExactDrainRow.holds Try.pinned (OpenSpec.ofChange fnExactDrainSpec)

/-- ITS FALSE NEIGHBOUR: 'it returns false'. Refute it at one input. -/
def fnExactDrainWrong : ChangeSpec := { name := "fnExactDrain", fn := fun _ => fun
  | [d] => { results := [.lit (.bool false)], args := [d] }
  | _ => none }
def FnExactDrainWrongFalsely : Prop := fnExactDrainRow.holds Try.pinned (OpenSpec.ofChange fnExactDrainWrong)

/- THE SECOND FORM. 'bulk': how many values and letters a reading holds, each counted each time it is reached (what is shared counts as often as it is met; a slice's spare places count too). A statement '..UptoSaid' is the law's where the arguments, and the package variables that the reading takes, are together of bulk at most 1048576: NARROWER than '..Said'. Prove '..Said' where nothing that the law and all that it calls make is longer than what came in: it says more and counts as full. Else prove '..UptoSaid'. A law counts once. -/
mutual
def uptoBulk {H : Type} : DataW H → Nat
  | .lit (.string bytes) => bytes.length + 1
  | .lit _ => 1
  | .nil => 1
  | .ptr d => uptoBulk d + 1
  | .slice elems spare => uptoBulkAll elems + uptoBulkAll spare + 1
  | .agg parts => uptoBulkAll parts + 1
  | .iface _ d => uptoBulk d + 1
  | .map entries => uptoBulkEntries entries + 1
  | .held _ => 1
def uptoBulkAll {H : Type} : List (DataW H) → Nat
  | [] => 0
  | d :: r => uptoBulk d + uptoBulkAll r
def uptoBulkEntries {H : Type} : List (Lit × DataW H) → Nat
  | [] => 0
  | x :: r => uptoBulkEntry x + uptoBulkEntries r
def uptoBulkEntry {H : Type} : Lit × DataW H → Nat
  | (.string bytes, d) => bytes.length + uptoBulk d + 1
  | (_, d) => uptoBulk d + 1
 end
def uptoSmall : (H : Type) → List (DataW H) → Bool := fun _ ds => decide (uptoBulkAll ds ≤ 1048576)
def OpenSpec.upto (s : _root_.Go.ChangeSpec) : _root_.Go.OpenSpec := { _root_.Go.OpenSpec.ofChange s with cond := some uptoSmall }

/-- 'laws.FnExactFlowStep', WHERE WHAT IT READS IS OF BULK AT MOST 1048576: true; the input reads as it did. -/
def fnExactFlowStepUptoRow : OpenClaim := { program := "ytopfdmodbhopiaa", sum := "85d200d22c209cae9decbf23ee33a156d726460f57205542197b026941cc38d4", func := "loop.example/g00051/laws.FnExactFlowStep", spec := "fnExactFlowStep", apart := false, narrowed := true }
def FnExactFlowStepUptoSaid : Prop := fnExactFlowStepUptoRow.holds Try.pinned (OpenSpec.upto fnExactFlowStepSpec)

/-- 'laws.FnWaterBook', WHERE WHAT IT READS IS OF BULK AT MOST 1048576: true; the input reads as it did. -/
def fnWaterBookUptoRow : OpenClaim := { program := "ytopfdmodbhopiaa", sum := "85d200d22c209cae9decbf23ee33a156d726460f57205542197b026941cc38d4", func := "loop.example/g00051/laws.FnWaterBook", spec := "fnWaterBook", apart := false, narrowed := true }
def FnWaterBookUptoSaid : Prop := fnWaterBookUptoRow.holds Try.pinned (OpenSpec.upto fnWaterBookSpec)

/-- 'laws.FnExactAdvect', WHERE WHAT IT READS IS OF BULK AT MOST 1048576: true; the input reads as it did. -/
def fnExactAdvectUptoRow : OpenClaim := { program := "ytopfdmodbhopiaa", sum := "85d200d22c209cae9decbf23ee33a156d726460f57205542197b026941cc38d4", func := "loop.example/g00051/laws.FnExactAdvect", spec := "fnExactAdvect", unfollowed := true, recurses := true, apart := false, narrowed := true }
def FnExactAdvectUptoSaid : Prop := fnExactAdvectUptoRow.holds Try.pinned (OpenSpec.upto fnExactAdvectSpec)

/-- 'laws.FnExactRunRing', WHERE WHAT IT READS IS OF BULK AT MOST 1048576: true; the input reads as it did. -/
def fnExactRunRingUptoRow : OpenClaim := { program := "ytopfdmodbhopiaa", sum := "85d200d22c209cae9decbf23ee33a156d726460f57205542197b026941cc38d4", func := "loop.example/g00051/laws.FnExactRunRing", spec := "fnExactRunRing", unfollowed := true, recurses := true, apart := false, narrowed := true }
def FnExactRunRingUptoSaid : Prop := fnExactRunRingUptoRow.holds Try.pinned (OpenSpec.upto fnExactRunRingSpec)

/-- 'laws.FnRingKept', WHERE WHAT IT READS IS OF BULK AT MOST 1048576: true; the input reads as it did. -/
def fnRingKeptUptoRow : OpenClaim := { program := "ytopfdmodbhopiaa", sum := "85d200d22c209cae9decbf23ee33a156d726460f57205542197b026941cc38d4", func := "loop.example/g00051/laws.FnRingKept", spec := "fnRingKept", unfollowed := true, recurses := true, apart := false, narrowed := true }
def FnRingKeptUptoSaid : Prop := fnRingKeptUptoRow.holds Try.pinned (OpenSpec.upto fnRingKeptSpec)

/-- 'laws.FnExactDrain', WHERE WHAT IT READS IS OF BULK AT MOST 1048576: true; the input reads as it did. -/
def fnExactDrainUptoRow : OpenClaim := { program := "ytopfdmodbhopiaa", sum := "85d200d22c209cae9decbf23ee33a156d726460f57205542197b026941cc38d4", func := "loop.example/g00051/laws.FnExactDrain", spec := "fnExactDrain", apart := false, narrowed := true }
def FnExactDrainUptoSaid : Prop := fnExactDrainUptoRow.holds Try.pinned (OpenSpec.upto fnExactDrainSpec)

end Rows
end Go.Proofs.Ytopfdmodbhopiaa
