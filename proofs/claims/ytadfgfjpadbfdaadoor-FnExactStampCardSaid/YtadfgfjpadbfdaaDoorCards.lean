/-
  DERIVED. GIVEN WITH THE SEED: THE CARDS: each row of YtadfgfjpadbfdaaDoorRows.lean that lists a variable, with what it lists TIED to the program's text (the seventh form; the later family's looks); each row that meets fmt, with fmt's text TOLD by the authors' own Lean function (tested against real Go, not proved from fmt's source: count such statements apart). THE CARD IS WHAT COUNTS. Prove the row's statement (the work); the ties are given (YtadfgfjpadbfdaaDoorTie.lean); close each card by the builder's one call (the guide's Derived/Test/ToyasCard.lean, 'card_holds'). Laid BY PROGRAM, IN A SANDBOX (cutbox-door.mjs). By AI agents, Wed Nov 11 2026. No macro, syntax, notation, axiom, sorry.
-/
import Derived.Test.YtadfgfjpadbfdaaDoorRows
import GoSem.ClaimSeven
namespace Go.Proofs.YtadfgfjpadbfdaaDoor
namespace Rows

/-- THE TIED CARD OF 'laws.FnExactSoilText'. -/
def fnExactSoilTextCard : Claim7 := { stood := { row := fnExactSoilTextRow, standIns := [], harness := (true, "637a82d12a055ed84ee0b00f4706826dd7336f39d818dd0eac060501d0d385c7"), looks := false }, kinds := [], alts := [], laidByText := true, laidKinds := [.data, .data, .data], laidTests := true, laidLooks := .later }
def FnExactSoilTextCardSaid : Prop := Claim7.holds Tryd.pinned (.plain (OpenSpec.ofChange fnExactSoilTextSpec)) fnExactSoilTextCard

/-- THE TIED CARD OF 'laws.FnExactStamp'. -/
def fnExactStampCard : Claim7 := { stood := { row := fnExactStampRow, standIns := [], harness := (true, "637a82d12a055ed84ee0b00f4706826dd7336f39d818dd0eac060501d0d385c7"), looks := false }, kinds := [], alts := [], laidByText := true, laidKinds := [.data, .data, .data], laidTests := true, laidLooks := .later }
def FnExactStampCardSaid : Prop := Claim7.holds Tryd.pinned (.plain (OpenSpec.ofChange fnExactStampSpec)) fnExactStampCard

/-- THE SECOND FORM's CARD OF 'laws.FnExactSoilText'. -/
def fnExactSoilTextUptoCard : Claim7 := { stood := { row := fnExactSoilTextUptoRow, standIns := [], harness := (true, "637a82d12a055ed84ee0b00f4706826dd7336f39d818dd0eac060501d0d385c7"), looks := false }, kinds := [], alts := [], laidByText := true, laidKinds := [.data, .data, .data], laidTests := true, laidLooks := .later }
def FnExactSoilTextUptoCardSaid : Prop := Claim7.holds Tryd.pinned (.plain (OpenSpec.upto fnExactSoilTextSpec)) fnExactSoilTextUptoCard

/-- THE SECOND FORM's CARD OF 'laws.FnExactStamp'. -/
def fnExactStampUptoCard : Claim7 := { stood := { row := fnExactStampUptoRow, standIns := [], harness := (true, "637a82d12a055ed84ee0b00f4706826dd7336f39d818dd0eac060501d0d385c7"), looks := false }, kinds := [], alts := [], laidByText := true, laidKinds := [.data, .data, .data], laidTests := true, laidLooks := .later }
def FnExactStampUptoCardSaid : Prop := Claim7.holds Tryd.pinned (.plain (OpenSpec.upto fnExactStampSpec)) fnExactStampUptoCard
end Rows
end Go.Proofs.YtadfgfjpadbfdaaDoor
