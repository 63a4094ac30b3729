/-
  DERIVED. GIVEN WITH THE SEED: THE CARDS: each row of YtllkijlmjapleaaDoorRows.lean that lists a variable, with what it lists TIED to the program's text (the seventh form; the later family's looks); each row that meets fmt, with fmt's text TOLD by the authors' own Lean function (tested against real Go, not proved from fmt's source: count such statements apart). THE CARD IS WHAT COUNTS. Prove the row's statement (the work); the ties are given (YtllkijlmjapleaaDoorTie.lean); close each card by the builder's one call (the guide's Derived/Test/ToyasCard.lean, 'card_holds'). Laid BY PROGRAM, IN A SANDBOX (cutbox-door.mjs). By AI agents, Wed Nov 11 2026. No macro, syntax, notation, axiom, sorry.
-/
import Derived.Test.YtllkijlmjapleaaDoorRows
import GoSem.ClaimSeven
namespace Go.Proofs.YtllkijlmjapleaaDoor
namespace Rows

/-- THE TIED CARD OF 'laws.FnExactPhrase'. -/
def fnExactPhraseCard : Claim7 := { stood := { row := fnExactPhraseRow, standIns := [], harness := (true, "f9cdb5aac343849ecb966b4b3b26b23fb42f411ddbf8decad7e334907170e79e"), looks := false }, kinds := [], alts := [], laidByText := true, laidKinds := [.data, .data, .data, .data], laidTests := true, laidLooks := .later }
def FnExactPhraseCardSaid : Prop := Claim7.holds Tryd.pinned (.plain (OpenSpec.ofChange fnExactPhraseSpec)) fnExactPhraseCard

/-- THE TIED CARD OF 'laws.FnExactReadPhrase'. -/
def fnExactReadPhraseCard : Claim7 := { stood := { row := fnExactReadPhraseRow, standIns := [], harness := (true, "f9cdb5aac343849ecb966b4b3b26b23fb42f411ddbf8decad7e334907170e79e"), looks := false }, kinds := [], alts := [], laidByText := true, laidKinds := [.data, .data, .data, .data], laidTests := true, laidLooks := .later }
def FnExactReadPhraseCardSaid : Prop := Claim7.holds Tryd.pinned (.plain (OpenSpec.ofChange fnExactReadPhraseSpec)) fnExactReadPhraseCard

/-- THE TIED CARD OF 'laws.FnPhrases'. -/
def fnPhrasesCard : Claim7 := { stood := { row := fnPhrasesRow, standIns := [], harness := (true, "f9cdb5aac343849ecb966b4b3b26b23fb42f411ddbf8decad7e334907170e79e"), looks := false }, kinds := [], alts := [], laidByText := true, laidKinds := [.data, .data, .data, .data], laidTests := true, laidLooks := .later }
def FnPhrasesCardSaid : Prop := Claim7.holds Tryd.pinned (.plain (OpenSpec.ofChange fnPhrasesSpec)) fnPhrasesCard

/-- THE SECOND FORM's CARD OF 'laws.FnExactPhrase'. -/
def fnExactPhraseUptoCard : Claim7 := { stood := { row := fnExactPhraseUptoRow, standIns := [], harness := (true, "f9cdb5aac343849ecb966b4b3b26b23fb42f411ddbf8decad7e334907170e79e"), looks := false }, kinds := [], alts := [], laidByText := true, laidKinds := [.data, .data, .data, .data], laidTests := true, laidLooks := .later }
def FnExactPhraseUptoCardSaid : Prop := Claim7.holds Tryd.pinned (.plain (OpenSpec.upto fnExactPhraseSpec)) fnExactPhraseUptoCard

/-- THE SECOND FORM's CARD OF 'laws.FnExactReadPhrase'. -/
def fnExactReadPhraseUptoCard : Claim7 := { stood := { row := fnExactReadPhraseUptoRow, standIns := [], harness := (true, "f9cdb5aac343849ecb966b4b3b26b23fb42f411ddbf8decad7e334907170e79e"), looks := false }, kinds := [], alts := [], laidByText := true, laidKinds := [.data, .data, .data, .data], laidTests := true, laidLooks := .later }
def FnExactReadPhraseUptoCardSaid : Prop := Claim7.holds Tryd.pinned (.plain (OpenSpec.upto fnExactReadPhraseSpec)) fnExactReadPhraseUptoCard

/-- THE SECOND FORM's CARD OF 'laws.FnPhrases'. -/
def fnPhrasesUptoCard : Claim7 := { stood := { row := fnPhrasesUptoRow, standIns := [], harness := (true, "f9cdb5aac343849ecb966b4b3b26b23fb42f411ddbf8decad7e334907170e79e"), looks := false }, kinds := [], alts := [], laidByText := true, laidKinds := [.data, .data, .data, .data], laidTests := true, laidLooks := .later }
def FnPhrasesUptoCardSaid : Prop := Claim7.holds Tryd.pinned (.plain (OpenSpec.upto fnPhrasesSpec)) fnPhrasesUptoCard
end Rows
end Go.Proofs.YtllkijlmjapleaaDoor
