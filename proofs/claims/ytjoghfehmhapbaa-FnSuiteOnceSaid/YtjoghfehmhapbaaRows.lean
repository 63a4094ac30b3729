/-
  No cell of these rows narrows 'for every input' (looked for: loops, veiled, ifaces, maps, wideKeys, modest, calm, conditions, laid).
  DERIVED. THE GIVEN ROWS OF THIS SEAT. 9 by the template 'for every input the law returns true; each argument reads behind the call as it read before'; 0 by the template 'total and deterministic' (their statements: YtjoghfehmhapbaaTotals.lean).
  GIVEN WITH THE SEED: the statements are not yours to turn. If you find one false, say at which input.
  Laid BY PROGRAM, IN A SANDBOX (cutbox-rows.mjs): the forced cells as the released guide's own fill.sh prints them over the translation 6625c8520356bf61… (all of the seat's roots in one cut). By AI agents, Wed Nov 11 2026. No macro, syntax, notation, axiom, sorry.
-/
import Derived.Test.YtjoghfehmhapbaaChecked
import GoSem.Claim
import GoSem.ClaimJoined
import GoSem.ClaimMapViews
import Derived.JoinedTies
import Derived.KernelRfl
namespace Go.Proofs.Ytjoghfehmhapbaa
/- THE CELL 'sum', in the pinned program and in every row, IS THE sha256 OF THE DUMP (.gsa) THAT YtjoghfehmhapbaaProg.lean LOADS. Nothing in Lean hashes anything: it is a label: what it is worth is what the hold of that sum in a sandbox is worth. -/
noncomputable def Try.pinned : Pinned := { name := "ytjoghfehmhapbaa", sum := "6625c8520356bf614af1dd72089729bc694e0c2947046ef594c33fb84844f2b0", checked := Try.checked }
namespace Rows
def none {H : Type} : Left H := { results := [], args := [] }

/-- 'laws.FnSuiteOnce': WHATEVER THE INPUT: true; the input reads as it did. -/
def fnSuiteOnceSpec : ChangeSpec := { name := "fnSuiteOnce", fn := fun _ => fun
  | [d1, d2] => { results := [.lit (.bool true)], args := [d1, d2] }
  | _ => none }
def fnSuiteOnceRow : OpenClaim := { program := "ytjoghfehmhapbaa", sum := "6625c8520356bf614af1dd72089729bc694e0c2947046ef594c33fb84844f2b0", func := "loop.example/g00051/laws.FnSuiteOnce", spec := "fnSuiteOnce", unfollowed := true, recurses := true, apart := false }
def FnSuiteOnceSaid : Prop := fnSuiteOnceRow.holds Try.pinned (OpenSpec.ofChange fnSuiteOnceSpec)

/-- ITS FALSE NEIGHBOUR: 'it returns false'. Refute it at one input. -/
def fnSuiteOnceWrong : ChangeSpec := { name := "fnSuiteOnce", fn := fun _ => fun
  | [d1, d2] => { results := [.lit (.bool false)], args := [d1, d2] }
  | _ => none }
def FnSuiteOnceWrongFalsely : Prop := fnSuiteOnceRow.holds Try.pinned (OpenSpec.ofChange fnSuiteOnceWrong)

/-- 'laws.FnReportsAnyway': WHATEVER THE INPUT: true; the input reads as it did. -/
def fnReportsAnywaySpec : ChangeSpec := { name := "fnReportsAnyway", fn := fun _ => fun
  | [d] => { results := [.lit (.bool true)], args := [d] }
  | _ => none }
def fnReportsAnywayRow : OpenClaim := { program := "ytjoghfehmhapbaa", sum := "6625c8520356bf614af1dd72089729bc694e0c2947046ef594c33fb84844f2b0", func := "loop.example/g00051/laws.FnReportsAnyway", spec := "fnReportsAnyway", apart := false }
def FnReportsAnywaySaid : Prop := fnReportsAnywayRow.holds Try.pinned (OpenSpec.ofChange fnReportsAnywaySpec)

/-- ITS FALSE NEIGHBOUR: 'it returns false'. Refute it at one input. -/
def fnReportsAnywayWrong : ChangeSpec := { name := "fnReportsAnyway", fn := fun _ => fun
  | [d] => { results := [.lit (.bool false)], args := [d] }
  | _ => none }
def FnReportsAnywayWrongFalsely : Prop := fnReportsAnywayRow.holds Try.pinned (OpenSpec.ofChange fnReportsAnywayWrong)

/-- 'laws.FnLateOnce': WHATEVER THE INPUT: true; the input reads as it did. -/
def fnLateOnceSpec : ChangeSpec := { name := "fnLateOnce", fn := fun _ => fun
  | [d1, d2] => { results := [.lit (.bool true)], args := [d1, d2] }
  | _ => none }
def fnLateOnceRow : OpenClaim := { program := "ytjoghfehmhapbaa", sum := "6625c8520356bf614af1dd72089729bc694e0c2947046ef594c33fb84844f2b0", func := "loop.example/g00051/laws.FnLateOnce", spec := "fnLateOnce", apart := false }
def FnLateOnceSaid : Prop := fnLateOnceRow.holds Try.pinned (OpenSpec.ofChange fnLateOnceSpec)

/-- ITS FALSE NEIGHBOUR: 'it returns false'. Refute it at one input. -/
def fnLateOnceWrong : ChangeSpec := { name := "fnLateOnce", fn := fun _ => fun
  | [d1, d2] => { results := [.lit (.bool false)], args := [d1, d2] }
  | _ => none }
def FnLateOnceWrongFalsely : Prop := fnLateOnceRow.holds Try.pinned (OpenSpec.ofChange fnLateOnceWrong)

/-- 'laws.FnExactNewRun': WHATEVER THE INPUT: true; the input reads as it did. -/
def fnExactNewRunSpec : ChangeSpec := { name := "fnExactNewRun", fn := fun _ => fun
  | [d] => { results := [.lit (.bool true)], args := [d] }
  | _ => none }
def fnExactNewRunRow : OpenClaim := { program := "ytjoghfehmhapbaa", sum := "6625c8520356bf614af1dd72089729bc694e0c2947046ef594c33fb84844f2b0", func := "loop.example/g00051/laws.FnExactNewRun", spec := "fnExactNewRun", apart := false }
def FnExactNewRunSaid : Prop := fnExactNewRunRow.holds Try.pinned (OpenSpec.ofChange fnExactNewRunSpec)

/-- ITS FALSE NEIGHBOUR: 'it returns false'. Refute it at one input. -/
def fnExactNewRunWrong : ChangeSpec := { name := "fnExactNewRun", fn := fun _ => fun
  | [d] => { results := [.lit (.bool false)], args := [d] }
  | _ => none }
def FnExactNewRunWrongFalsely : Prop := fnExactNewRunRow.holds Try.pinned (OpenSpec.ofChange fnExactNewRunWrong)

/-- 'laws.FnExactStuck': WHATEVER THE INPUT: true; the input reads as it did. -/
def fnExactStuckSpec : ChangeSpec := { name := "fnExactStuck", fn := fun _ => fun
  | [d] => { results := [.lit (.bool true)], args := [d] }
  | _ => none }
def fnExactStuckRow : OpenClaim := { program := "ytjoghfehmhapbaa", sum := "6625c8520356bf614af1dd72089729bc694e0c2947046ef594c33fb84844f2b0", func := "loop.example/g00051/laws.FnExactStuck", spec := "fnExactStuck", unfollowed := true, recurses := true, apart := false }
def FnExactStuckSaid : Prop := fnExactStuckRow.holds Try.pinned (OpenSpec.ofChange fnExactStuckSpec)

/-- ITS FALSE NEIGHBOUR: 'it returns false'. Refute it at one input. -/
def fnExactStuckWrong : ChangeSpec := { name := "fnExactStuck", fn := fun _ => fun
  | [d] => { results := [.lit (.bool false)], args := [d] }
  | _ => none }
def FnExactStuckWrongFalsely : Prop := fnExactStuckRow.holds Try.pinned (OpenSpec.ofChange fnExactStuckWrong)

/-- 'laws.FnExactCrashRun': WHATEVER THE INPUT: true; the input reads as it did. -/
def fnExactCrashRunSpec : ChangeSpec := { name := "fnExactCrashRun", fn := fun _ => fun
  | [d] => { results := [.lit (.bool true)], args := [d] }
  | _ => none }
def fnExactCrashRunRow : OpenClaim := { program := "ytjoghfehmhapbaa", sum := "6625c8520356bf614af1dd72089729bc694e0c2947046ef594c33fb84844f2b0", func := "loop.example/g00051/laws.FnExactCrashRun", spec := "fnExactCrashRun", apart := false }
def FnExactCrashRunSaid : Prop := fnExactCrashRunRow.holds Try.pinned (OpenSpec.ofChange fnExactCrashRunSpec)

/-- ITS FALSE NEIGHBOUR: 'it returns false'. Refute it at one input. -/
def fnExactCrashRunWrong : ChangeSpec := { name := "fnExactCrashRun", fn := fun _ => fun
  | [d] => { results := [.lit (.bool false)], args := [d] }
  | _ => none }
def FnExactCrashRunWrongFalsely : Prop := fnExactCrashRunRow.holds Try.pinned (OpenSpec.ofChange fnExactCrashRunWrong)

/-- 'laws.FnExactTickRun': WHATEVER THE INPUT: true; the input reads as it did. -/
def fnExactTickRunSpec : ChangeSpec := { name := "fnExactTickRun", fn := fun _ => fun
  | [d1, d2] => { results := [.lit (.bool true)], args := [d1, d2] }
  | _ => none }
def fnExactTickRunRow : OpenClaim := { program := "ytjoghfehmhapbaa", sum := "6625c8520356bf614af1dd72089729bc694e0c2947046ef594c33fb84844f2b0", func := "loop.example/g00051/laws.FnExactTickRun", spec := "fnExactTickRun", apart := false }
def FnExactTickRunSaid : Prop := fnExactTickRunRow.holds Try.pinned (OpenSpec.ofChange fnExactTickRunSpec)

/-- ITS FALSE NEIGHBOUR: 'it returns false'. Refute it at one input. -/
def fnExactTickRunWrong : ChangeSpec := { name := "fnExactTickRun", fn := fun _ => fun
  | [d1, d2] => { results := [.lit (.bool false)], args := [d1, d2] }
  | _ => none }
def FnExactTickRunWrongFalsely : Prop := fnExactTickRunRow.holds Try.pinned (OpenSpec.ofChange fnExactTickRunWrong)

/-- 'laws.FnExactStartTasks': WHATEVER THE INPUT: true; the input reads as it did. -/
def fnExactStartTasksSpec : ChangeSpec := { name := "fnExactStartTasks", fn := fun _ => fun
  | [d] => { results := [.lit (.bool true)], args := [d] }
  | _ => none }
def fnExactStartTasksRow : OpenClaim := { program := "ytjoghfehmhapbaa", sum := "6625c8520356bf614af1dd72089729bc694e0c2947046ef594c33fb84844f2b0", func := "loop.example/g00051/laws.FnExactStartTasks", spec := "fnExactStartTasks", apart := false }
def FnExactStartTasksSaid : Prop := fnExactStartTasksRow.holds Try.pinned (OpenSpec.ofChange fnExactStartTasksSpec)

/-- ITS FALSE NEIGHBOUR: 'it returns false'. Refute it at one input. -/
def fnExactStartTasksWrong : ChangeSpec := { name := "fnExactStartTasks", fn := fun _ => fun
  | [d] => { results := [.lit (.bool false)], args := [d] }
  | _ => none }
def FnExactStartTasksWrongFalsely : Prop := fnExactStartTasksRow.holds Try.pinned (OpenSpec.ofChange fnExactStartTasksWrong)

/-- 'laws.FnExactReport': WHATEVER THE INPUT: true; the input reads as it did. -/
def fnExactReportSpec : ChangeSpec := { name := "fnExactReport", fn := fun _ => fun
  | [d1, d2, d3] => { results := [.lit (.bool true)], args := [d1, d2, d3] }
  | _ => none }
def fnExactReportRow : OpenClaim := { program := "ytjoghfehmhapbaa", sum := "6625c8520356bf614af1dd72089729bc694e0c2947046ef594c33fb84844f2b0", func := "loop.example/g00051/laws.FnExactReport", spec := "fnExactReport", apart := false }
def FnExactReportSaid : Prop := fnExactReportRow.holds Try.pinned (OpenSpec.ofChange fnExactReportSpec)

/-- ITS FALSE NEIGHBOUR: 'it returns false'. Refute it at one input. -/
def fnExactReportWrong : ChangeSpec := { name := "fnExactReport", fn := fun _ => fun
  | [d1, d2, d3] => { results := [.lit (.bool false)], args := [d1, d2, d3] }
  | _ => none }
def FnExactReportWrongFalsely : Prop := fnExactReportRow.holds Try.pinned (OpenSpec.ofChange fnExactReportWrong)

/- THE SECOND FORM. 'bulk': how many values and letters a reading holds, each counted each time it is reached (what is shared counts as often as it is met; a slice's spare places count too). A statement '..UptoSaid' is the law's where the arguments, and the package variables that the reading takes, are together of bulk at most 1048576: NARROWER than '..Said'. Prove '..Said' where nothing that the law and all that it calls make is longer than what came in: it says more and counts as full. Else prove '..UptoSaid'. A law counts once. -/
mutual
def uptoBulk {H : Type} : DataW H → Nat
  | .lit (.string bytes) => bytes.length + 1
  | .lit _ => 1
  | .nil => 1
  | .ptr d => uptoBulk d + 1
  | .slice elems spare => uptoBulkAll elems + uptoBulkAll spare + 1
  | .agg parts => uptoBulkAll parts + 1
  | .iface _ d => uptoBulk d + 1
  | .map entries => uptoBulkEntries entries + 1
  | .held _ => 1
def uptoBulkAll {H : Type} : List (DataW H) → Nat
  | [] => 0
  | d :: r => uptoBulk d + uptoBulkAll r
def uptoBulkEntries {H : Type} : List (Lit × DataW H) → Nat
  | [] => 0
  | x :: r => uptoBulkEntry x + uptoBulkEntries r
def uptoBulkEntry {H : Type} : Lit × DataW H → Nat
  | (.string bytes, d) => bytes.length + uptoBulk d + 1
  | (_, d) => uptoBulk d + 1
 end
def uptoSmall : (H : Type) → List (DataW H) → Bool := fun _ ds => decide (uptoBulkAll ds ≤ 1048576)
def OpenSpec.upto (s : _root_.Go.ChangeSpec) : _root_.Go.OpenSpec := { _root_.Go.OpenSpec.ofChange s with cond := some uptoSmall }

/-- 'laws.FnSuiteOnce', WHERE WHAT IT READS IS OF BULK AT MOST 1048576: true; the input reads as it did. -/
def fnSuiteOnceUptoRow : OpenClaim := { program := "ytjoghfehmhapbaa", sum := "6625c8520356bf614af1dd72089729bc694e0c2947046ef594c33fb84844f2b0", func := "loop.example/g00051/laws.FnSuiteOnce", spec := "fnSuiteOnce", unfollowed := true, recurses := true, apart := false, narrowed := true }
def FnSuiteOnceUptoSaid : Prop := fnSuiteOnceUptoRow.holds Try.pinned (OpenSpec.upto fnSuiteOnceSpec)

/-- 'laws.FnReportsAnyway', WHERE WHAT IT READS IS OF BULK AT MOST 1048576: true; the input reads as it did. -/
def fnReportsAnywayUptoRow : OpenClaim := { program := "ytjoghfehmhapbaa", sum := "6625c8520356bf614af1dd72089729bc694e0c2947046ef594c33fb84844f2b0", func := "loop.example/g00051/laws.FnReportsAnyway", spec := "fnReportsAnyway", apart := false, narrowed := true }
def FnReportsAnywayUptoSaid : Prop := fnReportsAnywayUptoRow.holds Try.pinned (OpenSpec.upto fnReportsAnywaySpec)

/-- 'laws.FnLateOnce', WHERE WHAT IT READS IS OF BULK AT MOST 1048576: true; the input reads as it did. -/
def fnLateOnceUptoRow : OpenClaim := { program := "ytjoghfehmhapbaa", sum := "6625c8520356bf614af1dd72089729bc694e0c2947046ef594c33fb84844f2b0", func := "loop.example/g00051/laws.FnLateOnce", spec := "fnLateOnce", apart := false, narrowed := true }
def FnLateOnceUptoSaid : Prop := fnLateOnceUptoRow.holds Try.pinned (OpenSpec.upto fnLateOnceSpec)

/-- 'laws.FnExactNewRun', WHERE WHAT IT READS IS OF BULK AT MOST 1048576: true; the input reads as it did. -/
def fnExactNewRunUptoRow : OpenClaim := { program := "ytjoghfehmhapbaa", sum := "6625c8520356bf614af1dd72089729bc694e0c2947046ef594c33fb84844f2b0", func := "loop.example/g00051/laws.FnExactNewRun", spec := "fnExactNewRun", apart := false, narrowed := true }
def FnExactNewRunUptoSaid : Prop := fnExactNewRunUptoRow.holds Try.pinned (OpenSpec.upto fnExactNewRunSpec)

/-- 'laws.FnExactStuck', WHERE WHAT IT READS IS OF BULK AT MOST 1048576: true; the input reads as it did. -/
def fnExactStuckUptoRow : OpenClaim := { program := "ytjoghfehmhapbaa", sum := "6625c8520356bf614af1dd72089729bc694e0c2947046ef594c33fb84844f2b0", func := "loop.example/g00051/laws.FnExactStuck", spec := "fnExactStuck", unfollowed := true, recurses := true, apart := false, narrowed := true }
def FnExactStuckUptoSaid : Prop := fnExactStuckUptoRow.holds Try.pinned (OpenSpec.upto fnExactStuckSpec)

/-- 'laws.FnExactCrashRun', WHERE WHAT IT READS IS OF BULK AT MOST 1048576: true; the input reads as it did. -/
def fnExactCrashRunUptoRow : OpenClaim := { program := "ytjoghfehmhapbaa", sum := "6625c8520356bf614af1dd72089729bc694e0c2947046ef594c33fb84844f2b0", func := "loop.example/g00051/laws.FnExactCrashRun", spec := "fnExactCrashRun", apart := false, narrowed := true }
def FnExactCrashRunUptoSaid : Prop := fnExactCrashRunUptoRow.holds Try.pinned (OpenSpec.upto fnExactCrashRunSpec)

/-- 'laws.FnExactTickRun', WHERE WHAT IT READS IS OF BULK AT MOST 1048576: true; the input reads as it did. -/
def fnExactTickRunUptoRow : OpenClaim := { program := "ytjoghfehmhapbaa", sum := "6625c8520356bf614af1dd72089729bc694e0c2947046ef594c33fb84844f2b0", func := "loop.example/g00051/laws.FnExactTickRun", spec := "fnExactTickRun", apart := false, narrowed := true }
def FnExactTickRunUptoSaid : Prop := fnExactTickRunUptoRow.holds Try.pinned (OpenSpec.upto fnExactTickRunSpec)

/-- 'laws.FnExactStartTasks', WHERE WHAT IT READS IS OF BULK AT MOST 1048576: true; the input reads as it did. -/
def fnExactStartTasksUptoRow : OpenClaim := { program := "ytjoghfehmhapbaa", sum := "6625c8520356bf614af1dd72089729bc694e0c2947046ef594c33fb84844f2b0", func := "loop.example/g00051/laws.FnExactStartTasks", spec := "fnExactStartTasks", apart := false, narrowed := true }
def FnExactStartTasksUptoSaid : Prop := fnExactStartTasksUptoRow.holds Try.pinned (OpenSpec.upto fnExactStartTasksSpec)

/-- 'laws.FnExactReport', WHERE WHAT IT READS IS OF BULK AT MOST 1048576: true; the input reads as it did. -/
def fnExactReportUptoRow : OpenClaim := { program := "ytjoghfehmhapbaa", sum := "6625c8520356bf614af1dd72089729bc694e0c2947046ef594c33fb84844f2b0", func := "loop.example/g00051/laws.FnExactReport", spec := "fnExactReport", apart := false, narrowed := true }
def FnExactReportUptoSaid : Prop := fnExactReportUptoRow.holds Try.pinned (OpenSpec.upto fnExactReportSpec)

end Rows
end Go.Proofs.Ytjoghfehmhapbaa
