/-
  NARROWER THAN 'FOR EVERY INPUT', by the rows' own cells (each row's printed sentence says how): FnExactPhrase: laid · FnExactReadPhrase: laid · FnPhrases: laid.
  DERIVED. THE GIVEN ROWS OF THIS SEAT. 3 by the template 'for every input the law returns true; each argument reads behind the call as it read before'; 0 by the template 'total and deterministic' (their statements: YtllkijlmjapleaaDoorTotals.lean).
  GIVEN WITH THE SEED: the statements are not yours to turn. If you find one false, say at which input.
  Laid BY PROGRAM, IN A SANDBOX (cutbox-rows.mjs): the forced cells as the released guide's own fill.sh prints them over the translation 6f8f8882a6205150… (all of the seat's roots in one cut). By AI agents, Wed Nov 11 2026. No macro, syntax, notation, axiom, sorry.
-/
import Derived.Test.YtllkijlmjapleaaDoorChecked
import GoSem.Claim
import GoSem.ClaimJoined
import GoSem.ClaimMapViews
import Derived.JoinedTies
import Derived.KernelRfl
namespace Go.Proofs.YtllkijlmjapleaaDoor
/- THE CELL 'sum', in the pinned program and in every row, IS THE sha256 OF THE DUMP (.gsa) THAT YtllkijlmjapleaaDoorProg.lean LOADS. Nothing in Lean hashes anything: it is a label: what it is worth is what the hold of that sum in a sandbox is worth. -/
noncomputable def Tryd.pinned : Pinned := { name := "ytllkijlmjapleaadoor", sum := "6f8f8882a62051508e7499bfa16a12d04b27937d021320d0bbcc1d1976645c95", checked := Tryd.checked }
namespace Rows
def none {H : Type} : Left H := { results := [], args := [] }

/- WHAT THE LISTED PACKAGE-LEVEL VARIABLES READ AS WHEN THE CALL BEGINS. Each datum BY PROGRAM (the guide's laid-datum.mjs) off the statement by which the dump's own 'gosem.cut.vars' lays the variable. In a bare row this is a premise. The card (YtllkijlmjapleaaDoorCards.lean) ties it to the program's text. -/
def laid_math_bits_deBruijn32tab {H : Type} : DataW H := .agg [.lit (.int .u8 0), .lit (.int .u8 1), .lit (.int .u8 28), .lit (.int .u8 2), .lit (.int .u8 29), .lit (.int .u8 14), .lit (.int .u8 24), .lit (.int .u8 3), .lit (.int .u8 30), .lit (.int .u8 22), .lit (.int .u8 20), .lit (.int .u8 15), .lit (.int .u8 25), .lit (.int .u8 17), .lit (.int .u8 4), .lit (.int .u8 8), .lit (.int .u8 31), .lit (.int .u8 27), .lit (.int .u8 13), .lit (.int .u8 23), .lit (.int .u8 21), .lit (.int .u8 19), .lit (.int .u8 16), .lit (.int .u8 7), .lit (.int .u8 26), .lit (.int .u8 12), .lit (.int .u8 18), .lit (.int .u8 6), .lit (.int .u8 11), .lit (.int .u8 5), .lit (.int .u8 10), .lit (.int .u8 9)]
def laid_math_bits_deBruijn64tab {H : Type} : DataW H := .agg [.lit (.int .u8 0), .lit (.int .u8 1), .lit (.int .u8 56), .lit (.int .u8 2), .lit (.int .u8 57), .lit (.int .u8 49), .lit (.int .u8 28), .lit (.int .u8 3), .lit (.int .u8 61), .lit (.int .u8 58), .lit (.int .u8 42), .lit (.int .u8 50), .lit (.int .u8 38), .lit (.int .u8 29), .lit (.int .u8 17), .lit (.int .u8 4), .lit (.int .u8 62), .lit (.int .u8 47), .lit (.int .u8 59), .lit (.int .u8 36), .lit (.int .u8 45), .lit (.int .u8 43), .lit (.int .u8 51), .lit (.int .u8 22), .lit (.int .u8 53), .lit (.int .u8 39), .lit (.int .u8 33), .lit (.int .u8 30), .lit (.int .u8 24), .lit (.int .u8 18), .lit (.int .u8 12), .lit (.int .u8 5), .lit (.int .u8 63), .lit (.int .u8 55), .lit (.int .u8 48), .lit (.int .u8 27), .lit (.int .u8 60), .lit (.int .u8 41), .lit (.int .u8 37), .lit (.int .u8 16), .lit (.int .u8 46), .lit (.int .u8 35), .lit (.int .u8 44), .lit (.int .u8 21), .lit (.int .u8 52), .lit (.int .u8 32), .lit (.int .u8 23), .lit (.int .u8 11), .lit (.int .u8 54), .lit (.int .u8 26), .lit (.int .u8 40), .lit (.int .u8 15), .lit (.int .u8 34), .lit (.int .u8 20), .lit (.int .u8 31), .lit (.int .u8 10), .lit (.int .u8 25), .lit (.int .u8 14), .lit (.int .u8 19), .lit (.int .u8 9), .lit (.int .u8 13), .lit (.int .u8 8), .lit (.int .u8 7), .lit (.int .u8 6)]
def laid_internal_strconv_uint64pow10 {H : Type} : DataW H := .agg [.lit (.int .u64 1), .lit (.int .u64 10), .lit (.int .u64 100), .lit (.int .u64 1000), .lit (.int .u64 10000), .lit (.int .u64 100000), .lit (.int .u64 1000000), .lit (.int .u64 10000000), .lit (.int .u64 100000000), .lit (.int .u64 1000000000), .lit (.int .u64 10000000000), .lit (.int .u64 100000000000), .lit (.int .u64 1000000000000), .lit (.int .u64 10000000000000), .lit (.int .u64 100000000000000), .lit (.int .u64 1000000000000000), .lit (.int .u64 10000000000000000), .lit (.int .u64 100000000000000000), .lit (.int .u64 1000000000000000000), .lit (.int .u64 10000000000000000000)]
def laid_loop_example_g00051_impl_tongues {H : Type} : DataW H := .agg [.agg [.lit (.string []), .lit (.string []), .lit (.string []), .lit (.string []), .lit (.string []), .lit (.string []), .lit (.string []), .lit (.string []), .lit (.string []), .agg [.lit (.string []), .lit (.string []), .lit (.string []), .lit (.string []), .lit (.string []), .lit (.string []), .lit (.string []), .lit (.string []), .lit (.string [])], .agg [.lit (.string []), .lit (.string []), .lit (.string []), .lit (.string [])]], .agg [.lit (.string [99, 97, 108, 109]), .lit (.string []), .lit (.string [32]), .lit (.string [44, 32, 114, 105, 115, 105, 110, 103, 32, 116, 111, 32]), .lit (.string [44, 32, 102, 97, 108, 108, 105, 110, 103, 32, 116, 111, 32]), .lit (.string [100, 114, 121]), .lit (.string [32, 105, 110, 32]), .lit (.string [112, 108, 97, 99, 101]), .lit (.string [112, 108, 97, 99, 101, 115]), .agg [.lit (.string []), .lit (.string [110, 111, 114, 116, 104, 45, 101, 97, 115, 116]), .lit (.string [101, 97, 115, 116]), .lit (.string [115, 111, 117, 116, 104, 45, 101, 97, 115, 116]), .lit (.string [115, 111, 117, 116, 104]), .lit (.string [115, 111, 117, 116, 104, 45, 119, 101, 115, 116]), .lit (.string [119, 101, 115, 116]), .lit (.string [110, 111, 114, 116, 104, 45, 119, 101, 115, 116]), .lit (.string [110, 111, 114, 116, 104])], .agg [.lit (.string []), .lit (.string [114, 97, 105, 110]), .lit (.string [115, 110, 111, 119]), .lit (.string [104, 97, 105, 108])]], .agg [.lit (.string [119, 105, 110, 100, 115, 116, 105, 108, 108]), .lit (.string []), .lit (.string [32, 83, 116, 195, 164, 114, 107, 101, 32]), .lit (.string [44, 32, 122, 117, 110, 101, 104, 109, 101, 110, 100, 32]), .lit (.string [44, 32, 97, 98, 110, 101, 104, 109, 101, 110, 100, 32]), .lit (.string [116, 114, 111, 99, 107, 101, 110]), .lit (.string [32, 97, 110, 32]), .lit (.string [79, 114, 116]), .lit (.string [79, 114, 116, 101, 110]), .agg [.lit (.string []), .lit (.string [78, 111, 114, 100, 111, 115, 116]), .lit (.string [79, 115, 116]), .lit (.string [83, 195, 188, 100, 111, 115, 116]), .lit (.string [83, 195, 188, 100]), .lit (.string [83, 195, 188, 100, 119, 101, 115, 116]), .lit (.string [87, 101, 115, 116]), .lit (.string [78, 111, 114, 100, 119, 101, 115, 116]), .lit (.string [78, 111, 114, 100])], .agg [.lit (.string []), .lit (.string [82, 101, 103, 101, 110]), .lit (.string [83, 99, 104, 110, 101, 101]), .lit (.string [72, 97, 103, 101, 108])]], .agg [.lit (.string [99, 105, 115, 122, 97]), .lit (.string [119, 105, 97, 116, 114, 32]), .lit (.string [44, 32, 115, 105, 197, 130, 97, 32]), .lit (.string [44, 32, 119, 122, 114, 111, 115, 116, 32, 100, 111, 32]), .lit (.string [44, 32, 115, 112, 97, 100, 101, 107, 32, 100, 111, 32]), .lit (.string [115, 117, 99, 104, 111]), .lit (.string [32, 119, 32]), .lit (.string [109, 105, 101, 106, 115, 99, 117]), .lit (.string [109, 105, 101, 106, 115, 99, 97, 99, 104]), .agg [.lit (.string []), .lit (.string [112, 195, 179, 197, 130, 110, 111, 99, 110, 111, 45, 119, 115, 99, 104, 111, 100, 110, 105]), .lit (.string [119, 115, 99, 104, 111, 100, 110, 105]), .lit (.string [112, 111, 197, 130, 117, 100, 110, 105, 111, 119, 111, 45, 119, 115, 99, 104, 111, 100, 110, 105]), .lit (.string [112, 111, 197, 130, 117, 100, 110, 105, 111, 119, 121]), .lit (.string [112, 111, 197, 130, 117, 100, 110, 105, 111, 119, 111, 45, 122, 97, 99, 104, 111, 100, 110, 105]), .lit (.string [122, 97, 99, 104, 111, 100, 110, 105]), .lit (.string [112, 195, 179, 197, 130, 110, 111, 99, 110, 111, 45, 122, 97, 99, 104, 111, 100, 110, 105]), .lit (.string [112, 195, 179, 197, 130, 110, 111, 99, 110, 121])], .agg [.lit (.string []), .lit (.string [100, 101, 115, 122, 99, 122]), .lit (.string [197, 155, 110, 105, 101, 103]), .lit (.string [103, 114, 97, 100])]]]

/-- 'laws.FnExactPhrase': WHATEVER THE INPUT: true; the input reads as it did. -/
def fnExactPhraseSpec : ChangeSpec := { name := "fnExactPhrase", vars := ["loop.example/g00051/impl.tongues"], fn := fun _ => fun
  | [d1, d2, g1] => { results := [.lit (.bool true)], args := [d1, d2], vars := [g1] }
  | _ => none }
def fnExactPhraseRow : OpenClaim := { program := "ytllkijlmjapleaadoor", sum := "6f8f8882a62051508e7499bfa16a12d04b27937d021320d0bbcc1d1976645c95", func := "loop.example/g00051/laws.FnExactPhrase", spec := "fnExactPhrase", named := ["loop.example/g00051/impl.tongues", "internal/strconv.uint64pow10", "math/bits.deBruijn32tab", "math/bits.deBruijn64tab"], apart := false, laid := [("math/bits.deBruijn32tab", laid_math_bits_deBruijn32tab), ("math/bits.deBruijn64tab", laid_math_bits_deBruijn64tab), ("internal/strconv.uint64pow10", laid_internal_strconv_uint64pow10), ("loop.example/g00051/impl.tongues", laid_loop_example_g00051_impl_tongues)] }
def FnExactPhraseSaid : Prop := fnExactPhraseRow.holds Tryd.pinned (OpenSpec.ofChange fnExactPhraseSpec)

/-- ITS FALSE NEIGHBOUR: 'it returns false'. Refute it at one input. -/
def fnExactPhraseWrong : ChangeSpec := { name := "fnExactPhrase", vars := ["loop.example/g00051/impl.tongues"], fn := fun _ => fun
  | [d1, d2, g1] => { results := [.lit (.bool false)], args := [d1, d2], vars := [g1] }
  | _ => none }
def FnExactPhraseWrongFalsely : Prop := fnExactPhraseRow.holds Tryd.pinned (OpenSpec.ofChange fnExactPhraseWrong)

/-- 'laws.FnExactReadPhrase': WHATEVER THE INPUT: true; the input reads as it did. -/
def fnExactReadPhraseSpec : ChangeSpec := { name := "fnExactReadPhrase", vars := ["loop.example/g00051/impl.tongues"], fn := fun _ => fun
  | [d1, d2, g1] => { results := [.lit (.bool true)], args := [d1, d2], vars := [g1] }
  | _ => none }
def fnExactReadPhraseRow : OpenClaim := { program := "ytllkijlmjapleaadoor", sum := "6f8f8882a62051508e7499bfa16a12d04b27937d021320d0bbcc1d1976645c95", func := "loop.example/g00051/laws.FnExactReadPhrase", spec := "fnExactReadPhrase", named := ["loop.example/g00051/impl.tongues", "internal/strconv.uint64pow10", "math/bits.deBruijn32tab", "math/bits.deBruijn64tab"], apart := false, laid := [("math/bits.deBruijn32tab", laid_math_bits_deBruijn32tab), ("math/bits.deBruijn64tab", laid_math_bits_deBruijn64tab), ("internal/strconv.uint64pow10", laid_internal_strconv_uint64pow10), ("loop.example/g00051/impl.tongues", laid_loop_example_g00051_impl_tongues)] }
def FnExactReadPhraseSaid : Prop := fnExactReadPhraseRow.holds Tryd.pinned (OpenSpec.ofChange fnExactReadPhraseSpec)

/-- ITS FALSE NEIGHBOUR: 'it returns false'. Refute it at one input. -/
def fnExactReadPhraseWrong : ChangeSpec := { name := "fnExactReadPhrase", vars := ["loop.example/g00051/impl.tongues"], fn := fun _ => fun
  | [d1, d2, g1] => { results := [.lit (.bool false)], args := [d1, d2], vars := [g1] }
  | _ => none }
def FnExactReadPhraseWrongFalsely : Prop := fnExactReadPhraseRow.holds Tryd.pinned (OpenSpec.ofChange fnExactReadPhraseWrong)

/-- 'laws.FnPhrases': WHATEVER THE INPUT: true; the input reads as it did. -/
def fnPhrasesSpec : ChangeSpec := { name := "fnPhrases", vars := ["loop.example/g00051/impl.tongues"], fn := fun _ => fun
  | [d1, d2, g1] => { results := [.lit (.bool true)], args := [d1, d2], vars := [g1] }
  | _ => none }
def fnPhrasesRow : OpenClaim := { program := "ytllkijlmjapleaadoor", sum := "6f8f8882a62051508e7499bfa16a12d04b27937d021320d0bbcc1d1976645c95", func := "loop.example/g00051/laws.FnPhrases", spec := "fnPhrases", named := ["loop.example/g00051/impl.tongues", "internal/strconv.uint64pow10", "math/bits.deBruijn32tab", "math/bits.deBruijn64tab"], apart := false, laid := [("math/bits.deBruijn32tab", laid_math_bits_deBruijn32tab), ("math/bits.deBruijn64tab", laid_math_bits_deBruijn64tab), ("internal/strconv.uint64pow10", laid_internal_strconv_uint64pow10), ("loop.example/g00051/impl.tongues", laid_loop_example_g00051_impl_tongues)] }
def FnPhrasesSaid : Prop := fnPhrasesRow.holds Tryd.pinned (OpenSpec.ofChange fnPhrasesSpec)

/-- ITS FALSE NEIGHBOUR: 'it returns false'. Refute it at one input. -/
def fnPhrasesWrong : ChangeSpec := { name := "fnPhrases", vars := ["loop.example/g00051/impl.tongues"], fn := fun _ => fun
  | [d1, d2, g1] => { results := [.lit (.bool false)], args := [d1, d2], vars := [g1] }
  | _ => none }
def FnPhrasesWrongFalsely : Prop := fnPhrasesRow.holds Tryd.pinned (OpenSpec.ofChange fnPhrasesWrong)

/- THE SECOND FORM. 'bulk': how many values and letters a reading holds, each counted each time it is reached (what is shared counts as often as it is met; a slice's spare places count too). A statement '..UptoSaid' is the law's where the arguments, and the package variables that the reading takes, are together of bulk at most 1048576: NARROWER than '..Said'. Prove '..Said' where nothing that the law and all that it calls make is longer than what came in: it says more and counts as full. Else prove '..UptoSaid'. A law counts once. -/
mutual
def uptoBulk {H : Type} : DataW H → Nat
  | .lit (.string bytes) => bytes.length + 1
  | .lit _ => 1
  | .nil => 1
  | .ptr d => uptoBulk d + 1
  | .slice elems spare => uptoBulkAll elems + uptoBulkAll spare + 1
  | .agg parts => uptoBulkAll parts + 1
  | .iface _ d => uptoBulk d + 1
  | .map entries => uptoBulkEntries entries + 1
  | .held _ => 1
def uptoBulkAll {H : Type} : List (DataW H) → Nat
  | [] => 0
  | d :: r => uptoBulk d + uptoBulkAll r
def uptoBulkEntries {H : Type} : List (Lit × DataW H) → Nat
  | [] => 0
  | x :: r => uptoBulkEntry x + uptoBulkEntries r
def uptoBulkEntry {H : Type} : Lit × DataW H → Nat
  | (.string bytes, d) => bytes.length + uptoBulk d + 1
  | (_, d) => uptoBulk d + 1
 end
def uptoSmall : (H : Type) → List (DataW H) → Bool := fun _ ds => decide (uptoBulkAll ds ≤ 1048576)
def OpenSpec.upto (s : _root_.Go.ChangeSpec) : _root_.Go.OpenSpec := { _root_.Go.OpenSpec.ofChange s with cond := some uptoSmall }

/-- 'laws.FnExactPhrase', WHERE WHAT IT READS IS OF BULK AT MOST 1048576: true; the input reads as it did. -/
def fnExactPhraseUptoRow : OpenClaim := { program := "ytllkijlmjapleaadoor", sum := "6f8f8882a62051508e7499bfa16a12d04b27937d021320d0bbcc1d1976645c95", func := "loop.example/g00051/laws.FnExactPhrase", spec := "fnExactPhrase", named := ["loop.example/g00051/impl.tongues", "internal/strconv.uint64pow10", "math/bits.deBruijn32tab", "math/bits.deBruijn64tab"], apart := false, laid := [("math/bits.deBruijn32tab", laid_math_bits_deBruijn32tab), ("math/bits.deBruijn64tab", laid_math_bits_deBruijn64tab), ("internal/strconv.uint64pow10", laid_internal_strconv_uint64pow10), ("loop.example/g00051/impl.tongues", laid_loop_example_g00051_impl_tongues)], narrowed := true }
def FnExactPhraseUptoSaid : Prop := fnExactPhraseUptoRow.holds Tryd.pinned (OpenSpec.upto fnExactPhraseSpec)

/-- 'laws.FnExactReadPhrase', WHERE WHAT IT READS IS OF BULK AT MOST 1048576: true; the input reads as it did. -/
def fnExactReadPhraseUptoRow : OpenClaim := { program := "ytllkijlmjapleaadoor", sum := "6f8f8882a62051508e7499bfa16a12d04b27937d021320d0bbcc1d1976645c95", func := "loop.example/g00051/laws.FnExactReadPhrase", spec := "fnExactReadPhrase", named := ["loop.example/g00051/impl.tongues", "internal/strconv.uint64pow10", "math/bits.deBruijn32tab", "math/bits.deBruijn64tab"], apart := false, laid := [("math/bits.deBruijn32tab", laid_math_bits_deBruijn32tab), ("math/bits.deBruijn64tab", laid_math_bits_deBruijn64tab), ("internal/strconv.uint64pow10", laid_internal_strconv_uint64pow10), ("loop.example/g00051/impl.tongues", laid_loop_example_g00051_impl_tongues)], narrowed := true }
def FnExactReadPhraseUptoSaid : Prop := fnExactReadPhraseUptoRow.holds Tryd.pinned (OpenSpec.upto fnExactReadPhraseSpec)

/-- 'laws.FnPhrases', WHERE WHAT IT READS IS OF BULK AT MOST 1048576: true; the input reads as it did. -/
def fnPhrasesUptoRow : OpenClaim := { program := "ytllkijlmjapleaadoor", sum := "6f8f8882a62051508e7499bfa16a12d04b27937d021320d0bbcc1d1976645c95", func := "loop.example/g00051/laws.FnPhrases", spec := "fnPhrases", named := ["loop.example/g00051/impl.tongues", "internal/strconv.uint64pow10", "math/bits.deBruijn32tab", "math/bits.deBruijn64tab"], apart := false, laid := [("math/bits.deBruijn32tab", laid_math_bits_deBruijn32tab), ("math/bits.deBruijn64tab", laid_math_bits_deBruijn64tab), ("internal/strconv.uint64pow10", laid_internal_strconv_uint64pow10), ("loop.example/g00051/impl.tongues", laid_loop_example_g00051_impl_tongues)], narrowed := true }
def FnPhrasesUptoSaid : Prop := fnPhrasesUptoRow.holds Tryd.pinned (OpenSpec.upto fnPhrasesSpec)

end Rows
end Go.Proofs.YtllkijlmjapleaaDoor
