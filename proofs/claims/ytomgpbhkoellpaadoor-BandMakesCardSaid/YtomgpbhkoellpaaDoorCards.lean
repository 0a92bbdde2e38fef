/-
  DERIVED. GIVEN WITH THE SEED: THE CARDS: each row of YtomgpbhkoellpaaDoorRows.lean that lists a variable, with what it lists TIED to the program's text (the seventh form; the later family's looks); each row that meets fmt, with fmt's text TOLD by the authors' own Lean function (tested against real Go, not proved from fmt's source: count such statements apart). THE CARD IS WHAT COUNTS. Prove the row's statement (the work); the ties are given (YtomgpbhkoellpaaDoorTie.lean); close each card by the builder's one call (the guide's Derived/Test/ToyasCard.lean, 'card_holds'). Laid BY PROGRAM, IN A SANDBOX (cutbox-door.mjs). By AI agents, Wed Nov 11 2026. No macro, syntax, notation, axiom, sorry.
-/
import Derived.Test.YtomgpbhkoellpaaDoorRows
import GoSem.ClaimSeven
namespace Go.Proofs.YtomgpbhkoellpaaDoor
namespace Rows

/-- THE TIED CARD OF 'gutterlaw03.BandMakes'. -/
def bandMakesCard : Claim7 := { stood := { row := bandMakesRow, standIns := [], harness := (true, "ac9d298ba8180d8e28314710ac8d3f43303b32e2ef07f873131167b130a3c7d2"), looks := true }, kinds := [], alts := [], laidByText := true, laidKinds := [.sentinel], laidTests := true, laidLooks := .later }
def BandMakesCardSaid : Prop := Claim7.holds Tryd.pinned (.plain (OpenSpec.ofChange bandMakesSpec)) bandMakesCard

/-- THE TIED CARD OF 'gutterlaw03.BandFirst'. -/
def bandFirstCard : Claim7 := { stood := { row := bandFirstRow, standIns := [], harness := (true, "ac9d298ba8180d8e28314710ac8d3f43303b32e2ef07f873131167b130a3c7d2"), looks := true }, kinds := [], alts := [], laidByText := true, laidKinds := [.sentinel], laidTests := true, laidLooks := .later }
def BandFirstCardSaid : Prop := Claim7.holds Tryd.pinned (.plain (OpenSpec.ofChange bandFirstSpec)) bandFirstCard

/-- THE TIED CARD OF 'gutterlaw03.BandTells'. -/
def bandTellsCard : Claim7 := { stood := { row := bandTellsRow, standIns := [], harness := (true, "ac9d298ba8180d8e28314710ac8d3f43303b32e2ef07f873131167b130a3c7d2"), looks := true }, kinds := [], alts := [], laidByText := true, laidKinds := [.sentinel], laidTests := true, laidLooks := .later }
def BandTellsCardSaid : Prop := Claim7.holds Tryd.pinned (.plain (OpenSpec.ofChange bandTellsSpec)) bandTellsCard

/-- THE TIED CARD OF 'gutterlaw03.BandTurns'. -/
def bandTurnsCard : Claim7 := { stood := { row := bandTurnsRow, standIns := [], harness := (true, "ac9d298ba8180d8e28314710ac8d3f43303b32e2ef07f873131167b130a3c7d2"), looks := true }, kinds := [], alts := [], laidByText := true, laidKinds := [.sentinel], laidTests := true, laidLooks := .later }
def BandTurnsCardSaid : Prop := Claim7.holds Tryd.pinned (.plain (OpenSpec.ofChange bandTurnsSpec)) bandTurnsCard

/-- THE TIED CARD OF 'gutterlaw03.BandAgain'. -/
def bandAgainCard : Claim7 := { stood := { row := bandAgainRow, standIns := [], harness := (true, "ac9d298ba8180d8e28314710ac8d3f43303b32e2ef07f873131167b130a3c7d2"), looks := true }, kinds := [], alts := [], laidByText := true, laidKinds := [.sentinel], laidTests := true, laidLooks := .later }
def BandAgainCardSaid : Prop := Claim7.holds Tryd.pinned (.plain (OpenSpec.ofChange bandAgainSpec)) bandAgainCard

/-- THE TIED CARD OF 'gutterlaw03.BandSums'. -/
def bandSumsCard : Claim7 := { stood := { row := bandSumsRow, standIns := [], harness := (true, "ac9d298ba8180d8e28314710ac8d3f43303b32e2ef07f873131167b130a3c7d2"), looks := true }, kinds := [], alts := [], laidByText := true, laidKinds := [.sentinel], laidTests := true, laidLooks := .later }
def BandSumsCardSaid : Prop := Claim7.holds Tryd.pinned (.plain (OpenSpec.ofChange bandSumsSpec)) bandSumsCard

/-- THE TIED CARD OF 'gutterlaw03.BandBack'. -/
def bandBackCard : Claim7 := { stood := { row := bandBackRow, standIns := [], harness := (true, "ac9d298ba8180d8e28314710ac8d3f43303b32e2ef07f873131167b130a3c7d2"), looks := true }, kinds := [], alts := [], laidByText := true, laidKinds := [.sentinel], laidTests := true, laidLooks := .later }
def BandBackCardSaid : Prop := Claim7.holds Tryd.pinned (.plain (OpenSpec.ofChange bandBackSpec)) bandBackCard

/-- THE TIED CARD OF 'gutterlaw03.BandBoth'. -/
def bandBothCard : Claim7 := { stood := { row := bandBothRow, standIns := [], harness := (true, "ac9d298ba8180d8e28314710ac8d3f43303b32e2ef07f873131167b130a3c7d2"), looks := true }, kinds := [], alts := [], laidByText := true, laidKinds := [.sentinel], laidTests := true, laidLooks := .later }
def BandBothCardSaid : Prop := Claim7.holds Tryd.pinned (.plain (OpenSpec.ofChange bandBothSpec)) bandBothCard

/-- THE SECOND FORM's CARD OF 'gutterlaw03.BandMakes'. -/
def bandMakesUptoCard : Claim7 := { stood := { row := bandMakesUptoRow, standIns := [], harness := (true, "ac9d298ba8180d8e28314710ac8d3f43303b32e2ef07f873131167b130a3c7d2"), looks := true }, kinds := [], alts := [], laidByText := true, laidKinds := [.sentinel], laidTests := true, laidLooks := .later }
def BandMakesUptoCardSaid : Prop := Claim7.holds Tryd.pinned (.plain (OpenSpec.upto bandMakesSpec)) bandMakesUptoCard

/-- THE SECOND FORM's CARD OF 'gutterlaw03.BandFirst'. -/
def bandFirstUptoCard : Claim7 := { stood := { row := bandFirstUptoRow, standIns := [], harness := (true, "ac9d298ba8180d8e28314710ac8d3f43303b32e2ef07f873131167b130a3c7d2"), looks := true }, kinds := [], alts := [], laidByText := true, laidKinds := [.sentinel], laidTests := true, laidLooks := .later }
def BandFirstUptoCardSaid : Prop := Claim7.holds Tryd.pinned (.plain (OpenSpec.upto bandFirstSpec)) bandFirstUptoCard

/-- THE SECOND FORM's CARD OF 'gutterlaw03.BandTells'. -/
def bandTellsUptoCard : Claim7 := { stood := { row := bandTellsUptoRow, standIns := [], harness := (true, "ac9d298ba8180d8e28314710ac8d3f43303b32e2ef07f873131167b130a3c7d2"), looks := true }, kinds := [], alts := [], laidByText := true, laidKinds := [.sentinel], laidTests := true, laidLooks := .later }
def BandTellsUptoCardSaid : Prop := Claim7.holds Tryd.pinned (.plain (OpenSpec.upto bandTellsSpec)) bandTellsUptoCard

/-- THE SECOND FORM's CARD OF 'gutterlaw03.BandTurns'. -/
def bandTurnsUptoCard : Claim7 := { stood := { row := bandTurnsUptoRow, standIns := [], harness := (true, "ac9d298ba8180d8e28314710ac8d3f43303b32e2ef07f873131167b130a3c7d2"), looks := true }, kinds := [], alts := [], laidByText := true, laidKinds := [.sentinel], laidTests := true, laidLooks := .later }
def BandTurnsUptoCardSaid : Prop := Claim7.holds Tryd.pinned (.plain (OpenSpec.upto bandTurnsSpec)) bandTurnsUptoCard

/-- THE SECOND FORM's CARD OF 'gutterlaw03.BandAgain'. -/
def bandAgainUptoCard : Claim7 := { stood := { row := bandAgainUptoRow, standIns := [], harness := (true, "ac9d298ba8180d8e28314710ac8d3f43303b32e2ef07f873131167b130a3c7d2"), looks := true }, kinds := [], alts := [], laidByText := true, laidKinds := [.sentinel], laidTests := true, laidLooks := .later }
def BandAgainUptoCardSaid : Prop := Claim7.holds Tryd.pinned (.plain (OpenSpec.upto bandAgainSpec)) bandAgainUptoCard

/-- THE SECOND FORM's CARD OF 'gutterlaw03.BandSums'. -/
def bandSumsUptoCard : Claim7 := { stood := { row := bandSumsUptoRow, standIns := [], harness := (true, "ac9d298ba8180d8e28314710ac8d3f43303b32e2ef07f873131167b130a3c7d2"), looks := true }, kinds := [], alts := [], laidByText := true, laidKinds := [.sentinel], laidTests := true, laidLooks := .later }
def BandSumsUptoCardSaid : Prop := Claim7.holds Tryd.pinned (.plain (OpenSpec.upto bandSumsSpec)) bandSumsUptoCard

/-- THE SECOND FORM's CARD OF 'gutterlaw03.BandBack'. -/
def bandBackUptoCard : Claim7 := { stood := { row := bandBackUptoRow, standIns := [], harness := (true, "ac9d298ba8180d8e28314710ac8d3f43303b32e2ef07f873131167b130a3c7d2"), looks := true }, kinds := [], alts := [], laidByText := true, laidKinds := [.sentinel], laidTests := true, laidLooks := .later }
def BandBackUptoCardSaid : Prop := Claim7.holds Tryd.pinned (.plain (OpenSpec.upto bandBackSpec)) bandBackUptoCard

/-- THE SECOND FORM's CARD OF 'gutterlaw03.BandBoth'. -/
def bandBothUptoCard : Claim7 := { stood := { row := bandBothUptoRow, standIns := [], harness := (true, "ac9d298ba8180d8e28314710ac8d3f43303b32e2ef07f873131167b130a3c7d2"), looks := true }, kinds := [], alts := [], laidByText := true, laidKinds := [.sentinel], laidTests := true, laidLooks := .later }
def BandBothUptoCardSaid : Prop := Claim7.holds Tryd.pinned (.plain (OpenSpec.upto bandBothSpec)) bandBothUptoCard
end Rows
end Go.Proofs.YtomgpbhkoellpaaDoor
