/-
  DERIVED. GIVEN WITH THE SEED: THE CARDS: each row of YtgdlmbnnfngieaaDoorRows.lean that lists a variable, with what it lists TIED to the program's text (the seventh form; the later family's looks); each row that meets fmt, with fmt's text TOLD by the authors' own Lean function (tested against real Go, not proved from fmt's source: count such statements apart). THE CARD IS WHAT COUNTS. Prove the row's statement (the work); the ties are given (YtgdlmbnnfngieaaDoorTie.lean); close each card by the builder's one call (the guide's Derived/Test/ToyasCard.lean, 'card_holds'). Laid BY PROGRAM, IN A SANDBOX (cutbox-door.mjs). By AI agents, Wed Nov 11 2026. No macro, syntax, notation, axiom, sorry.
-/
import Derived.Test.YtgdlmbnnfngieaaDoorRows
import GoSem.ClaimSeven
namespace Go.Proofs.YtgdlmbnnfngieaaDoor
namespace Rows

/-- THE TIED CARD OF 'laws.FnExactPhrase'. -/
def fnExactPhraseCard : Claim7 := { stood := { row := fnExactPhraseRow, standIns := [], harness := (true, "8e9c81b537d7e8a5bb085f4f384955fa23cc6aa048949099ec2731d8edd46ed1"), looks := false }, kinds := [], alts := [], laidByText := true, laidKinds := [.data, .data, .data, .data], laidTests := true, laidLooks := .later }
def FnExactPhraseCardSaid : Prop := Claim7.holds Tryd.pinned (.plain (OpenSpec.ofChange fnExactPhraseSpec)) fnExactPhraseCard

/-- THE TIED CARD OF 'laws.FnExactTitle'. -/
def fnExactTitleCard : Claim7 := { stood := { row := fnExactTitleRow, standIns := [], harness := (true, "8e9c81b537d7e8a5bb085f4f384955fa23cc6aa048949099ec2731d8edd46ed1"), looks := false }, kinds := [], alts := [], laidByText := true, laidKinds := [.data, .pinned], laidTests := true, laidLooks := .later }
def FnExactTitleCardSaid : Prop := Claim7.holds Tryd.pinned (.plain (OpenSpec.ofChange fnExactTitleSpec)) fnExactTitleCard

/-- THE SECOND FORM's CARD OF 'laws.FnExactPhrase'. -/
def fnExactPhraseUptoCard : Claim7 := { stood := { row := fnExactPhraseUptoRow, standIns := [], harness := (true, "8e9c81b537d7e8a5bb085f4f384955fa23cc6aa048949099ec2731d8edd46ed1"), looks := false }, kinds := [], alts := [], laidByText := true, laidKinds := [.data, .data, .data, .data], laidTests := true, laidLooks := .later }
def FnExactPhraseUptoCardSaid : Prop := Claim7.holds Tryd.pinned (.plain (OpenSpec.upto fnExactPhraseSpec)) fnExactPhraseUptoCard

/-- THE SECOND FORM's CARD OF 'laws.FnExactTitle'. -/
def fnExactTitleUptoCard : Claim7 := { stood := { row := fnExactTitleUptoRow, standIns := [], harness := (true, "8e9c81b537d7e8a5bb085f4f384955fa23cc6aa048949099ec2731d8edd46ed1"), looks := false }, kinds := [], alts := [], laidByText := true, laidKinds := [.data, .pinned], laidTests := true, laidLooks := .later }
def FnExactTitleUptoCardSaid : Prop := Claim7.holds Tryd.pinned (.plain (OpenSpec.upto fnExactTitleSpec)) fnExactTitleUptoCard
end Rows
end Go.Proofs.YtgdlmbnnfngieaaDoor
