/-
  No cell of these rows narrows 'for every input' (looked for: loops, veiled, ifaces, maps, wideKeys, modest, calm, conditions, laid).
  DERIVED. THE GIVEN ROWS OF THIS SEAT. 4 by the template 'for every input the law returns true; each argument reads behind the call as it read before'; 0 by the template 'total and deterministic' (their statements: YtcjhbmjimjbphaaTotals.lean).
  GIVEN WITH THE SEED: the statements are not yours to turn. If you find one false, say at which input.
  Laid BY PROGRAM, IN A SANDBOX (cutbox-rows.mjs): the forced cells as the released guide's own fill.sh prints them over the translation c9528fd3e850efbb… (all of the seat's roots in one cut). By AI agents, Wed Nov 11 2026. No macro, syntax, notation, axiom, sorry.
-/
import Derived.Test.YtcjhbmjimjbphaaChecked
import GoSem.Claim
import GoSem.ClaimJoined
import GoSem.ClaimMapViews
import Derived.JoinedTies
import Derived.KernelRfl
namespace Go.Proofs.Ytcjhbmjimjbphaa
/- THE CELL 'sum', in the pinned program and in every row, IS THE sha256 OF THE DUMP (.gsa) THAT YtcjhbmjimjbphaaProg.lean LOADS. Nothing in Lean hashes anything: it is a label: what it is worth is what the hold of that sum in a sandbox is worth. -/
noncomputable def Try.pinned : Pinned := { name := "ytcjhbmjimjbphaa", sum := "c9528fd3e850efbb65c7c42b96edbd7b4e96e469ac68e3acea9f6ab378ff4005", checked := Try.checked }
namespace Rows
def none {H : Type} : Left H := { results := [], args := [] }

/-- 'laws.FnExactCost': WHATEVER THE INPUT: true; the input reads as it did. -/
def fnExactCostSpec : ChangeSpec := { name := "fnExactCost", fn := fun _ => fun
  | [d1, d2] => { results := [.lit (.bool true)], args := [d1, d2] }
  | _ => none }
def fnExactCostRow : OpenClaim := { program := "ytcjhbmjimjbphaa", sum := "c9528fd3e850efbb65c7c42b96edbd7b4e96e469ac68e3acea9f6ab378ff4005", func := "loop.example/g00051/laws.FnExactCost", spec := "fnExactCost", apart := false }
def FnExactCostSaid : Prop := fnExactCostRow.holds Try.pinned (OpenSpec.ofChange fnExactCostSpec)

/-- ITS FALSE NEIGHBOUR: 'it returns false'. Refute it at one input. -/
def fnExactCostWrong : ChangeSpec := { name := "fnExactCost", fn := fun _ => fun
  | [d1, d2] => { results := [.lit (.bool false)], args := [d1, d2] }
  | _ => none }
def FnExactCostWrongFalsely : Prop := fnExactCostRow.holds Try.pinned (OpenSpec.ofChange fnExactCostWrong)

/-- 'laws.FnExactCertified': WHATEVER THE INPUT: true; the input reads as it did. -/
def fnExactCertifiedSpec : ChangeSpec := { name := "fnExactCertified", fn := fun _ => fun
  | [d1, d2] => { results := [.lit (.bool true)], args := [d1, d2] }
  | _ => none }
def fnExactCertifiedRow : OpenClaim := { program := "ytcjhbmjimjbphaa", sum := "c9528fd3e850efbb65c7c42b96edbd7b4e96e469ac68e3acea9f6ab378ff4005", func := "loop.example/g00051/laws.FnExactCertified", spec := "fnExactCertified", apart := false }
def FnExactCertifiedSaid : Prop := fnExactCertifiedRow.holds Try.pinned (OpenSpec.ofChange fnExactCertifiedSpec)

/-- ITS FALSE NEIGHBOUR: 'it returns false'. Refute it at one input. -/
def fnExactCertifiedWrong : ChangeSpec := { name := "fnExactCertified", fn := fun _ => fun
  | [d1, d2] => { results := [.lit (.bool false)], args := [d1, d2] }
  | _ => none }
def FnExactCertifiedWrongFalsely : Prop := fnExactCertifiedRow.holds Try.pinned (OpenSpec.ofChange fnExactCertifiedWrong)

/-- 'laws.FnExactDescend': WHATEVER THE INPUT: true; the input reads as it did. -/
def fnExactDescendSpec : ChangeSpec := { name := "fnExactDescend", fn := fun _ => fun
  | [d1, d2, d3] => { results := [.lit (.bool true)], args := [d1, d2, d3] }
  | _ => none }
def fnExactDescendRow : OpenClaim := { program := "ytcjhbmjimjbphaa", sum := "c9528fd3e850efbb65c7c42b96edbd7b4e96e469ac68e3acea9f6ab378ff4005", func := "loop.example/g00051/laws.FnExactDescend", spec := "fnExactDescend", apart := false }
def FnExactDescendSaid : Prop := fnExactDescendRow.holds Try.pinned (OpenSpec.ofChange fnExactDescendSpec)

/-- ITS FALSE NEIGHBOUR: 'it returns false'. Refute it at one input. -/
def fnExactDescendWrong : ChangeSpec := { name := "fnExactDescend", fn := fun _ => fun
  | [d1, d2, d3] => { results := [.lit (.bool false)], args := [d1, d2, d3] }
  | _ => none }
def FnExactDescendWrongFalsely : Prop := fnExactDescendRow.holds Try.pinned (OpenSpec.ofChange fnExactDescendWrong)

/-- 'laws.FnDescends': WHATEVER THE INPUT: true; the input reads as it did. -/
def fnDescendsSpec : ChangeSpec := { name := "fnDescends", fn := fun _ => fun
  | [d] => { results := [.lit (.bool true)], args := [d] }
  | _ => none }
def fnDescendsRow : OpenClaim := { program := "ytcjhbmjimjbphaa", sum := "c9528fd3e850efbb65c7c42b96edbd7b4e96e469ac68e3acea9f6ab378ff4005", func := "loop.example/g00051/laws.FnDescends", spec := "fnDescends", apart := false }
def FnDescendsSaid : Prop := fnDescendsRow.holds Try.pinned (OpenSpec.ofChange fnDescendsSpec)

/-- ITS FALSE NEIGHBOUR: 'it returns false'. Refute it at one input. -/
def fnDescendsWrong : ChangeSpec := { name := "fnDescends", fn := fun _ => fun
  | [d] => { results := [.lit (.bool false)], args := [d] }
  | _ => none }
def FnDescendsWrongFalsely : Prop := fnDescendsRow.holds Try.pinned (OpenSpec.ofChange fnDescendsWrong)

/- THE SECOND FORM. 'bulk': how many values and letters a reading holds, each counted each time it is reached (what is shared counts as often as it is met; a slice's spare places count too). A statement '..UptoSaid' is the law's where the arguments, and the package variables that the reading takes, are together of bulk at most 1048576: NARROWER than '..Said'. Prove '..Said' where nothing that the law and all that it calls make is longer than what came in: it says more and counts as full. Else prove '..UptoSaid'. A law counts once. -/
mutual
def uptoBulk {H : Type} : DataW H → Nat
  | .lit (.string bytes) => bytes.length + 1
  | .lit _ => 1
  | .nil => 1
  | .ptr d => uptoBulk d + 1
  | .slice elems spare => uptoBulkAll elems + uptoBulkAll spare + 1
  | .agg parts => uptoBulkAll parts + 1
  | .iface _ d => uptoBulk d + 1
  | .map entries => uptoBulkEntries entries + 1
  | .held _ => 1
def uptoBulkAll {H : Type} : List (DataW H) → Nat
  | [] => 0
  | d :: r => uptoBulk d + uptoBulkAll r
def uptoBulkEntries {H : Type} : List (Lit × DataW H) → Nat
  | [] => 0
  | x :: r => uptoBulkEntry x + uptoBulkEntries r
def uptoBulkEntry {H : Type} : Lit × DataW H → Nat
  | (.string bytes, d) => bytes.length + uptoBulk d + 1
  | (_, d) => uptoBulk d + 1
 end
def uptoSmall : (H : Type) → List (DataW H) → Bool := fun _ ds => decide (uptoBulkAll ds ≤ 1048576)
def OpenSpec.upto (s : _root_.Go.ChangeSpec) : _root_.Go.OpenSpec := { _root_.Go.OpenSpec.ofChange s with cond := some uptoSmall }

/-- 'laws.FnExactCost', WHERE WHAT IT READS IS OF BULK AT MOST 1048576: true; the input reads as it did. -/
def fnExactCostUptoRow : OpenClaim := { program := "ytcjhbmjimjbphaa", sum := "c9528fd3e850efbb65c7c42b96edbd7b4e96e469ac68e3acea9f6ab378ff4005", func := "loop.example/g00051/laws.FnExactCost", spec := "fnExactCost", apart := false, narrowed := true }
def FnExactCostUptoSaid : Prop := fnExactCostUptoRow.holds Try.pinned (OpenSpec.upto fnExactCostSpec)

/-- 'laws.FnExactCertified', WHERE WHAT IT READS IS OF BULK AT MOST 1048576: true; the input reads as it did. -/
def fnExactCertifiedUptoRow : OpenClaim := { program := "ytcjhbmjimjbphaa", sum := "c9528fd3e850efbb65c7c42b96edbd7b4e96e469ac68e3acea9f6ab378ff4005", func := "loop.example/g00051/laws.FnExactCertified", spec := "fnExactCertified", apart := false, narrowed := true }
def FnExactCertifiedUptoSaid : Prop := fnExactCertifiedUptoRow.holds Try.pinned (OpenSpec.upto fnExactCertifiedSpec)

/-- 'laws.FnExactDescend', WHERE WHAT IT READS IS OF BULK AT MOST 1048576: true; the input reads as it did. -/
def fnExactDescendUptoRow : OpenClaim := { program := "ytcjhbmjimjbphaa", sum := "c9528fd3e850efbb65c7c42b96edbd7b4e96e469ac68e3acea9f6ab378ff4005", func := "loop.example/g00051/laws.FnExactDescend", spec := "fnExactDescend", apart := false, narrowed := true }
def FnExactDescendUptoSaid : Prop := fnExactDescendUptoRow.holds Try.pinned (OpenSpec.upto fnExactDescendSpec)

/-- 'laws.FnDescends', WHERE WHAT IT READS IS OF BULK AT MOST 1048576: true; the input reads as it did. -/
def fnDescendsUptoRow : OpenClaim := { program := "ytcjhbmjimjbphaa", sum := "c9528fd3e850efbb65c7c42b96edbd7b4e96e469ac68e3acea9f6ab378ff4005", func := "loop.example/g00051/laws.FnDescends", spec := "fnDescends", apart := false, narrowed := true }
def FnDescendsUptoSaid : Prop := fnDescendsUptoRow.holds Try.pinned (OpenSpec.upto fnDescendsSpec)

end Rows
end Go.Proofs.Ytcjhbmjimjbphaa
