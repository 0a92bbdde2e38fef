/-
  DERIVED. GIVEN WITH THE SEED: THE CARDS: each row of YtjpifknencfipaaDoorRows.lean that lists a variable, with what it lists TIED to the program's text (the seventh form; the later family's looks); each row that meets fmt, with fmt's text TOLD by the authors' own Lean function (tested against real Go, not proved from fmt's source: count such statements apart). THE CARD IS WHAT COUNTS. Prove the row's statement (the work); the ties are given (YtjpifknencfipaaDoorTie.lean); close each card by the builder's one call (the guide's Derived/Test/ToyasCard.lean, 'card_holds'). Laid BY PROGRAM, IN A SANDBOX (cutbox-door.mjs). By AI agents, Wed Nov 11 2026. No macro, syntax, notation, axiom, sorry.
-/
import Derived.Test.YtjpifknencfipaaDoorRows
import GoSem.ClaimSeven
namespace Go.Proofs.YtjpifknencfipaaDoor
namespace Rows

/-- THE TIED CARD OF 'gutterlaw15.BalanceOne'. -/
def balanceOneCard : Claim7 := { stood := { row := balanceOneRow, standIns := [], harness := (true, "b9d29a5a8ac8ffd65bd7abf0387edf791e422c0f8ec1e9ac251d4174caa9c425"), looks := true }, kinds := [], alts := [], laidByText := true, laidKinds := [.sentinel, .sentinel], laidTests := true, laidLooks := .later }
def BalanceOneCardSaid : Prop := Claim7.holds Tryd.pinned (.plain (OpenSpec.ofChange balanceOneSpec)) balanceOneCard

/-- THE TIED CARD OF 'gutterlaw15.BalanceLeast'. -/
def balanceLeastCard : Claim7 := { stood := { row := balanceLeastRow, standIns := [], harness := (true, "b9d29a5a8ac8ffd65bd7abf0387edf791e422c0f8ec1e9ac251d4174caa9c425"), looks := true }, kinds := [], alts := [], laidByText := true, laidKinds := [.sentinel, .sentinel], laidTests := true, laidLooks := .later }
def BalanceLeastCardSaid : Prop := Claim7.holds Tryd.pinned (.plain (OpenSpec.ofChange balanceLeastSpec)) balanceLeastCard

/-- THE TIED CARD OF 'gutterlaw15.BalanceFits'. -/
def balanceFitsCard : Claim7 := { stood := { row := balanceFitsRow, standIns := [], harness := (true, "b9d29a5a8ac8ffd65bd7abf0387edf791e422c0f8ec1e9ac251d4174caa9c425"), looks := true }, kinds := [], alts := [], laidByText := true, laidKinds := [.sentinel, .sentinel], laidTests := true, laidLooks := .later }
def BalanceFitsCardSaid : Prop := Claim7.holds Tryd.pinned (.plain (OpenSpec.ofChange balanceFitsSpec)) balanceFitsCard

/-- THE TIED CARD OF 'gutterlaw15.BalanceMore'. -/
def balanceMoreCard : Claim7 := { stood := { row := balanceMoreRow, standIns := [], harness := (true, "b9d29a5a8ac8ffd65bd7abf0387edf791e422c0f8ec1e9ac251d4174caa9c425"), looks := true }, kinds := [], alts := [], laidByText := true, laidKinds := [.sentinel, .sentinel], laidTests := true, laidLooks := .later }
def BalanceMoreCardSaid : Prop := Claim7.holds Tryd.pinned (.plain (OpenSpec.ofChange balanceMoreSpec)) balanceMoreCard

/-- THE TIED CARD OF 'gutterlaw15.BalanceMakes'. -/
def balanceMakesCard : Claim7 := { stood := { row := balanceMakesRow, standIns := [], harness := (true, "b9d29a5a8ac8ffd65bd7abf0387edf791e422c0f8ec1e9ac251d4174caa9c425"), looks := true }, kinds := [], alts := [], laidByText := true, laidKinds := [.sentinel, .sentinel], laidTests := true, laidLooks := .later }
def BalanceMakesCardSaid : Prop := Claim7.holds Tryd.pinned (.plain (OpenSpec.ofChange balanceMakesSpec)) balanceMakesCard

/-- THE TIED CARD OF 'gutterlaw15.BalanceBegins'. -/
def balanceBeginsCard : Claim7 := { stood := { row := balanceBeginsRow, standIns := [], harness := (true, "b9d29a5a8ac8ffd65bd7abf0387edf791e422c0f8ec1e9ac251d4174caa9c425"), looks := true }, kinds := [], alts := [], laidByText := true, laidKinds := [.sentinel, .sentinel], laidTests := true, laidLooks := .later }
def BalanceBeginsCardSaid : Prop := Claim7.holds Tryd.pinned (.plain (OpenSpec.ofChange balanceBeginsSpec)) balanceBeginsCard

/-- THE TIED CARD OF 'gutterlaw17.RowLays'. -/
def rowLaysCard : Claim7 := { stood := { row := rowLaysRow, standIns := [], harness := (true, "b9d29a5a8ac8ffd65bd7abf0387edf791e422c0f8ec1e9ac251d4174caa9c425"), looks := true }, kinds := [], alts := [], laidByText := true, laidKinds := [.sentinel, .sentinel, .sentinel], laidTests := true, laidLooks := .later }
def RowLaysCardSaid : Prop := Claim7.holds Tryd.pinned (.plain (OpenSpec.ofChange rowLaysSpec)) rowLaysCard

/-- THE TIED CARD OF 'gutterlaw17.RowAll'. -/
def rowAllCard : Claim7 := { stood := { row := rowAllRow, standIns := [], harness := (true, "b9d29a5a8ac8ffd65bd7abf0387edf791e422c0f8ec1e9ac251d4174caa9c425"), looks := true }, kinds := [], alts := [], laidByText := true, laidKinds := [.sentinel, .sentinel, .sentinel], laidTests := true, laidLooks := .later }
def RowAllCardSaid : Prop := Claim7.holds Tryd.pinned (.plain (OpenSpec.ofChange rowAllSpec)) rowAllCard

/-- THE TIED CARD OF 'gutterlaw17.RowWithin'. -/
def rowWithinCard : Claim7 := { stood := { row := rowWithinRow, standIns := [], harness := (true, "b9d29a5a8ac8ffd65bd7abf0387edf791e422c0f8ec1e9ac251d4174caa9c425"), looks := true }, kinds := [], alts := [], laidByText := true, laidKinds := [.sentinel, .sentinel, .sentinel], laidTests := true, laidLooks := .later }
def RowWithinCardSaid : Prop := Claim7.holds Tryd.pinned (.plain (OpenSpec.ofChange rowWithinSpec)) rowWithinCard

/-- THE TIED CARD OF 'gutterlaw17.RowPlain'. -/
def rowPlainCard : Claim7 := { stood := { row := rowPlainRow, standIns := [], harness := (true, "b9d29a5a8ac8ffd65bd7abf0387edf791e422c0f8ec1e9ac251d4174caa9c425"), looks := true }, kinds := [], alts := [], laidByText := true, laidKinds := [.sentinel, .sentinel, .sentinel], laidTests := true, laidLooks := .later }
def RowPlainCardSaid : Prop := Claim7.holds Tryd.pinned (.plain (OpenSpec.ofChange rowPlainSpec)) rowPlainCard

/-- THE TIED CARD OF 'gutterlaw17.RowAuto'. -/
def rowAutoCard : Claim7 := { stood := { row := rowAutoRow, standIns := [], harness := (true, "b9d29a5a8ac8ffd65bd7abf0387edf791e422c0f8ec1e9ac251d4174caa9c425"), looks := true }, kinds := [], alts := [], laidByText := true, laidKinds := [.sentinel, .sentinel, .sentinel], laidTests := true, laidLooks := .later }
def RowAutoCardSaid : Prop := Claim7.holds Tryd.pinned (.plain (OpenSpec.ofChange rowAutoSpec)) rowAutoCard

/-- THE TIED CARD OF 'gutterlaw17.RowMoves'. -/
def rowMovesCard : Claim7 := { stood := { row := rowMovesRow, standIns := [], harness := (true, "b9d29a5a8ac8ffd65bd7abf0387edf791e422c0f8ec1e9ac251d4174caa9c425"), looks := true }, kinds := [], alts := [], laidByText := true, laidKinds := [.sentinel, .sentinel, .sentinel], laidTests := true, laidLooks := .later }
def RowMovesCardSaid : Prop := Claim7.holds Tryd.pinned (.plain (OpenSpec.ofChange rowMovesSpec)) rowMovesCard

/-- THE TIED CARD OF 'gutterlaw17.RowBack'. -/
def rowBackCard : Claim7 := { stood := { row := rowBackRow, standIns := [], harness := (true, "b9d29a5a8ac8ffd65bd7abf0387edf791e422c0f8ec1e9ac251d4174caa9c425"), looks := true }, kinds := [], alts := [], laidByText := true, laidKinds := [.sentinel, .sentinel, .sentinel], laidTests := true, laidLooks := .later }
def RowBackCardSaid : Prop := Claim7.holds Tryd.pinned (.plain (OpenSpec.ofChange rowBackSpec)) rowBackCard

/-- THE TIED CARD OF 'gutterlaw14.FillAll'. -/
def fillAllCard : Claim7 := { stood := { row := fillAllRow, standIns := [], harness := (true, "b9d29a5a8ac8ffd65bd7abf0387edf791e422c0f8ec1e9ac251d4174caa9c425"), looks := true }, kinds := [], alts := [], laidByText := true, laidKinds := [.sentinel], laidTests := true, laidLooks := .later }
def FillAllCardSaid : Prop := Claim7.holds Tryd.pinned (.plain (OpenSpec.ofChange fillAllSpec)) fillAllCard

/-- THE TIED CARD OF 'gutterlaw14.FillEnds'. -/
def fillEndsCard : Claim7 := { stood := { row := fillEndsRow, standIns := [], harness := (true, "b9d29a5a8ac8ffd65bd7abf0387edf791e422c0f8ec1e9ac251d4174caa9c425"), looks := true }, kinds := [], alts := [], laidByText := true, laidKinds := [.sentinel], laidTests := true, laidLooks := .later }
def FillEndsCardSaid : Prop := Claim7.holds Tryd.pinned (.plain (OpenSpec.ofChange fillEndsSpec)) fillEndsCard

/-- THE TIED CARD OF 'gutterlaw14.FillSums'. -/
def fillSumsCard : Claim7 := { stood := { row := fillSumsRow, standIns := [], harness := (true, "b9d29a5a8ac8ffd65bd7abf0387edf791e422c0f8ec1e9ac251d4174caa9c425"), looks := true }, kinds := [], alts := [], laidByText := true, laidKinds := [.sentinel], laidTests := true, laidLooks := .later }
def FillSumsCardSaid : Prop := Claim7.holds Tryd.pinned (.plain (OpenSpec.ofChange fillSumsSpec)) fillSumsCard

/-- THE TIED CARD OF 'gutterlaw14.FillMakes'. -/
def fillMakesCard : Claim7 := { stood := { row := fillMakesRow, standIns := [], harness := (true, "b9d29a5a8ac8ffd65bd7abf0387edf791e422c0f8ec1e9ac251d4174caa9c425"), looks := true }, kinds := [], alts := [], laidByText := true, laidKinds := [.sentinel], laidTests := true, laidLooks := .later }
def FillMakesCardSaid : Prop := Claim7.holds Tryd.pinned (.plain (OpenSpec.ofChange fillMakesSpec)) fillMakesCard

/-- THE TIED CARD OF 'gutterlaw14.FillOne'. -/
def fillOneCard : Claim7 := { stood := { row := fillOneRow, standIns := [], harness := (true, "b9d29a5a8ac8ffd65bd7abf0387edf791e422c0f8ec1e9ac251d4174caa9c425"), looks := true }, kinds := [], alts := [], laidByText := true, laidKinds := [.sentinel], laidTests := true, laidLooks := .later }
def FillOneCardSaid : Prop := Claim7.holds Tryd.pinned (.plain (OpenSpec.ofChange fillOneSpec)) fillOneCard

/-- THE TIED CARD OF 'gutterlaw14.FillHeights'. -/
def fillHeightsCard : Claim7 := { stood := { row := fillHeightsRow, standIns := [], harness := (true, "b9d29a5a8ac8ffd65bd7abf0387edf791e422c0f8ec1e9ac251d4174caa9c425"), looks := true }, kinds := [], alts := [], laidByText := true, laidKinds := [.sentinel], laidTests := true, laidLooks := .later }
def FillHeightsCardSaid : Prop := Claim7.holds Tryd.pinned (.plain (OpenSpec.ofChange fillHeightsSpec)) fillHeightsCard

/-- THE TIED CARD OF 'gutterlaw14.FillBetween'. -/
def fillBetweenCard : Claim7 := { stood := { row := fillBetweenRow, standIns := [], harness := (true, "b9d29a5a8ac8ffd65bd7abf0387edf791e422c0f8ec1e9ac251d4174caa9c425"), looks := true }, kinds := [], alts := [], laidByText := true, laidKinds := [.sentinel], laidTests := true, laidLooks := .later }
def FillBetweenCardSaid : Prop := Claim7.holds Tryd.pinned (.plain (OpenSpec.ofChange fillBetweenSpec)) fillBetweenCard

/-- THE TIED CARD OF 'gutterlaw14.FillMore'. -/
def fillMoreCard : Claim7 := { stood := { row := fillMoreRow, standIns := [], harness := (true, "b9d29a5a8ac8ffd65bd7abf0387edf791e422c0f8ec1e9ac251d4174caa9c425"), looks := true }, kinds := [], alts := [], laidByText := true, laidKinds := [.sentinel], laidTests := true, laidLooks := .later }
def FillMoreCardSaid : Prop := Claim7.holds Tryd.pinned (.plain (OpenSpec.ofChange fillMoreSpec)) fillMoreCard

/-- THE SECOND FORM's CARD OF 'gutterlaw15.BalanceOne'. -/
def balanceOneUptoCard : Claim7 := { stood := { row := balanceOneUptoRow, standIns := [], harness := (true, "b9d29a5a8ac8ffd65bd7abf0387edf791e422c0f8ec1e9ac251d4174caa9c425"), looks := true }, kinds := [], alts := [], laidByText := true, laidKinds := [.sentinel, .sentinel], laidTests := true, laidLooks := .later }
def BalanceOneUptoCardSaid : Prop := Claim7.holds Tryd.pinned (.plain (OpenSpec.upto balanceOneSpec)) balanceOneUptoCard

/-- THE SECOND FORM's CARD OF 'gutterlaw15.BalanceLeast'. -/
def balanceLeastUptoCard : Claim7 := { stood := { row := balanceLeastUptoRow, standIns := [], harness := (true, "b9d29a5a8ac8ffd65bd7abf0387edf791e422c0f8ec1e9ac251d4174caa9c425"), looks := true }, kinds := [], alts := [], laidByText := true, laidKinds := [.sentinel, .sentinel], laidTests := true, laidLooks := .later }
def BalanceLeastUptoCardSaid : Prop := Claim7.holds Tryd.pinned (.plain (OpenSpec.upto balanceLeastSpec)) balanceLeastUptoCard

/-- THE SECOND FORM's CARD OF 'gutterlaw15.BalanceFits'. -/
def balanceFitsUptoCard : Claim7 := { stood := { row := balanceFitsUptoRow, standIns := [], harness := (true, "b9d29a5a8ac8ffd65bd7abf0387edf791e422c0f8ec1e9ac251d4174caa9c425"), looks := true }, kinds := [], alts := [], laidByText := true, laidKinds := [.sentinel, .sentinel], laidTests := true, laidLooks := .later }
def BalanceFitsUptoCardSaid : Prop := Claim7.holds Tryd.pinned (.plain (OpenSpec.upto balanceFitsSpec)) balanceFitsUptoCard

/-- THE SECOND FORM's CARD OF 'gutterlaw15.BalanceMore'. -/
def balanceMoreUptoCard : Claim7 := { stood := { row := balanceMoreUptoRow, standIns := [], harness := (true, "b9d29a5a8ac8ffd65bd7abf0387edf791e422c0f8ec1e9ac251d4174caa9c425"), looks := true }, kinds := [], alts := [], laidByText := true, laidKinds := [.sentinel, .sentinel], laidTests := true, laidLooks := .later }
def BalanceMoreUptoCardSaid : Prop := Claim7.holds Tryd.pinned (.plain (OpenSpec.upto balanceMoreSpec)) balanceMoreUptoCard

/-- THE SECOND FORM's CARD OF 'gutterlaw15.BalanceMakes'. -/
def balanceMakesUptoCard : Claim7 := { stood := { row := balanceMakesUptoRow, standIns := [], harness := (true, "b9d29a5a8ac8ffd65bd7abf0387edf791e422c0f8ec1e9ac251d4174caa9c425"), looks := true }, kinds := [], alts := [], laidByText := true, laidKinds := [.sentinel, .sentinel], laidTests := true, laidLooks := .later }
def BalanceMakesUptoCardSaid : Prop := Claim7.holds Tryd.pinned (.plain (OpenSpec.upto balanceMakesSpec)) balanceMakesUptoCard

/-- THE SECOND FORM's CARD OF 'gutterlaw15.BalanceBegins'. -/
def balanceBeginsUptoCard : Claim7 := { stood := { row := balanceBeginsUptoRow, standIns := [], harness := (true, "b9d29a5a8ac8ffd65bd7abf0387edf791e422c0f8ec1e9ac251d4174caa9c425"), looks := true }, kinds := [], alts := [], laidByText := true, laidKinds := [.sentinel, .sentinel], laidTests := true, laidLooks := .later }
def BalanceBeginsUptoCardSaid : Prop := Claim7.holds Tryd.pinned (.plain (OpenSpec.upto balanceBeginsSpec)) balanceBeginsUptoCard

/-- THE SECOND FORM's CARD OF 'gutterlaw17.RowLays'. -/
def rowLaysUptoCard : Claim7 := { stood := { row := rowLaysUptoRow, standIns := [], harness := (true, "b9d29a5a8ac8ffd65bd7abf0387edf791e422c0f8ec1e9ac251d4174caa9c425"), looks := true }, kinds := [], alts := [], laidByText := true, laidKinds := [.sentinel, .sentinel, .sentinel], laidTests := true, laidLooks := .later }
def RowLaysUptoCardSaid : Prop := Claim7.holds Tryd.pinned (.plain (OpenSpec.upto rowLaysSpec)) rowLaysUptoCard

/-- THE SECOND FORM's CARD OF 'gutterlaw17.RowAll'. -/
def rowAllUptoCard : Claim7 := { stood := { row := rowAllUptoRow, standIns := [], harness := (true, "b9d29a5a8ac8ffd65bd7abf0387edf791e422c0f8ec1e9ac251d4174caa9c425"), looks := true }, kinds := [], alts := [], laidByText := true, laidKinds := [.sentinel, .sentinel, .sentinel], laidTests := true, laidLooks := .later }
def RowAllUptoCardSaid : Prop := Claim7.holds Tryd.pinned (.plain (OpenSpec.upto rowAllSpec)) rowAllUptoCard

/-- THE SECOND FORM's CARD OF 'gutterlaw17.RowWithin'. -/
def rowWithinUptoCard : Claim7 := { stood := { row := rowWithinUptoRow, standIns := [], harness := (true, "b9d29a5a8ac8ffd65bd7abf0387edf791e422c0f8ec1e9ac251d4174caa9c425"), looks := true }, kinds := [], alts := [], laidByText := true, laidKinds := [.sentinel, .sentinel, .sentinel], laidTests := true, laidLooks := .later }
def RowWithinUptoCardSaid : Prop := Claim7.holds Tryd.pinned (.plain (OpenSpec.upto rowWithinSpec)) rowWithinUptoCard

/-- THE SECOND FORM's CARD OF 'gutterlaw17.RowPlain'. -/
def rowPlainUptoCard : Claim7 := { stood := { row := rowPlainUptoRow, standIns := [], harness := (true, "b9d29a5a8ac8ffd65bd7abf0387edf791e422c0f8ec1e9ac251d4174caa9c425"), looks := true }, kinds := [], alts := [], laidByText := true, laidKinds := [.sentinel, .sentinel, .sentinel], laidTests := true, laidLooks := .later }
def RowPlainUptoCardSaid : Prop := Claim7.holds Tryd.pinned (.plain (OpenSpec.upto rowPlainSpec)) rowPlainUptoCard

/-- THE SECOND FORM's CARD OF 'gutterlaw17.RowAuto'. -/
def rowAutoUptoCard : Claim7 := { stood := { row := rowAutoUptoRow, standIns := [], harness := (true, "b9d29a5a8ac8ffd65bd7abf0387edf791e422c0f8ec1e9ac251d4174caa9c425"), looks := true }, kinds := [], alts := [], laidByText := true, laidKinds := [.sentinel, .sentinel, .sentinel], laidTests := true, laidLooks := .later }
def RowAutoUptoCardSaid : Prop := Claim7.holds Tryd.pinned (.plain (OpenSpec.upto rowAutoSpec)) rowAutoUptoCard

/-- THE SECOND FORM's CARD OF 'gutterlaw17.RowMoves'. -/
def rowMovesUptoCard : Claim7 := { stood := { row := rowMovesUptoRow, standIns := [], harness := (true, "b9d29a5a8ac8ffd65bd7abf0387edf791e422c0f8ec1e9ac251d4174caa9c425"), looks := true }, kinds := [], alts := [], laidByText := true, laidKinds := [.sentinel, .sentinel, .sentinel], laidTests := true, laidLooks := .later }
def RowMovesUptoCardSaid : Prop := Claim7.holds Tryd.pinned (.plain (OpenSpec.upto rowMovesSpec)) rowMovesUptoCard

/-- THE SECOND FORM's CARD OF 'gutterlaw17.RowBack'. -/
def rowBackUptoCard : Claim7 := { stood := { row := rowBackUptoRow, standIns := [], harness := (true, "b9d29a5a8ac8ffd65bd7abf0387edf791e422c0f8ec1e9ac251d4174caa9c425"), looks := true }, kinds := [], alts := [], laidByText := true, laidKinds := [.sentinel, .sentinel, .sentinel], laidTests := true, laidLooks := .later }
def RowBackUptoCardSaid : Prop := Claim7.holds Tryd.pinned (.plain (OpenSpec.upto rowBackSpec)) rowBackUptoCard

/-- THE SECOND FORM's CARD OF 'gutterlaw14.FillAll'. -/
def fillAllUptoCard : Claim7 := { stood := { row := fillAllUptoRow, standIns := [], harness := (true, "b9d29a5a8ac8ffd65bd7abf0387edf791e422c0f8ec1e9ac251d4174caa9c425"), looks := true }, kinds := [], alts := [], laidByText := true, laidKinds := [.sentinel], laidTests := true, laidLooks := .later }
def FillAllUptoCardSaid : Prop := Claim7.holds Tryd.pinned (.plain (OpenSpec.upto fillAllSpec)) fillAllUptoCard

/-- THE SECOND FORM's CARD OF 'gutterlaw14.FillEnds'. -/
def fillEndsUptoCard : Claim7 := { stood := { row := fillEndsUptoRow, standIns := [], harness := (true, "b9d29a5a8ac8ffd65bd7abf0387edf791e422c0f8ec1e9ac251d4174caa9c425"), looks := true }, kinds := [], alts := [], laidByText := true, laidKinds := [.sentinel], laidTests := true, laidLooks := .later }
def FillEndsUptoCardSaid : Prop := Claim7.holds Tryd.pinned (.plain (OpenSpec.upto fillEndsSpec)) fillEndsUptoCard

/-- THE SECOND FORM's CARD OF 'gutterlaw14.FillSums'. -/
def fillSumsUptoCard : Claim7 := { stood := { row := fillSumsUptoRow, standIns := [], harness := (true, "b9d29a5a8ac8ffd65bd7abf0387edf791e422c0f8ec1e9ac251d4174caa9c425"), looks := true }, kinds := [], alts := [], laidByText := true, laidKinds := [.sentinel], laidTests := true, laidLooks := .later }
def FillSumsUptoCardSaid : Prop := Claim7.holds Tryd.pinned (.plain (OpenSpec.upto fillSumsSpec)) fillSumsUptoCard

/-- THE SECOND FORM's CARD OF 'gutterlaw14.FillMakes'. -/
def fillMakesUptoCard : Claim7 := { stood := { row := fillMakesUptoRow, standIns := [], harness := (true, "b9d29a5a8ac8ffd65bd7abf0387edf791e422c0f8ec1e9ac251d4174caa9c425"), looks := true }, kinds := [], alts := [], laidByText := true, laidKinds := [.sentinel], laidTests := true, laidLooks := .later }
def FillMakesUptoCardSaid : Prop := Claim7.holds Tryd.pinned (.plain (OpenSpec.upto fillMakesSpec)) fillMakesUptoCard

/-- THE SECOND FORM's CARD OF 'gutterlaw14.FillOne'. -/
def fillOneUptoCard : Claim7 := { stood := { row := fillOneUptoRow, standIns := [], harness := (true, "b9d29a5a8ac8ffd65bd7abf0387edf791e422c0f8ec1e9ac251d4174caa9c425"), looks := true }, kinds := [], alts := [], laidByText := true, laidKinds := [.sentinel], laidTests := true, laidLooks := .later }
def FillOneUptoCardSaid : Prop := Claim7.holds Tryd.pinned (.plain (OpenSpec.upto fillOneSpec)) fillOneUptoCard

/-- THE SECOND FORM's CARD OF 'gutterlaw14.FillHeights'. -/
def fillHeightsUptoCard : Claim7 := { stood := { row := fillHeightsUptoRow, standIns := [], harness := (true, "b9d29a5a8ac8ffd65bd7abf0387edf791e422c0f8ec1e9ac251d4174caa9c425"), looks := true }, kinds := [], alts := [], laidByText := true, laidKinds := [.sentinel], laidTests := true, laidLooks := .later }
def FillHeightsUptoCardSaid : Prop := Claim7.holds Tryd.pinned (.plain (OpenSpec.upto fillHeightsSpec)) fillHeightsUptoCard

/-- THE SECOND FORM's CARD OF 'gutterlaw14.FillBetween'. -/
def fillBetweenUptoCard : Claim7 := { stood := { row := fillBetweenUptoRow, standIns := [], harness := (true, "b9d29a5a8ac8ffd65bd7abf0387edf791e422c0f8ec1e9ac251d4174caa9c425"), looks := true }, kinds := [], alts := [], laidByText := true, laidKinds := [.sentinel], laidTests := true, laidLooks := .later }
def FillBetweenUptoCardSaid : Prop := Claim7.holds Tryd.pinned (.plain (OpenSpec.upto fillBetweenSpec)) fillBetweenUptoCard

/-- THE SECOND FORM's CARD OF 'gutterlaw14.FillMore'. -/
def fillMoreUptoCard : Claim7 := { stood := { row := fillMoreUptoRow, standIns := [], harness := (true, "b9d29a5a8ac8ffd65bd7abf0387edf791e422c0f8ec1e9ac251d4174caa9c425"), looks := true }, kinds := [], alts := [], laidByText := true, laidKinds := [.sentinel], laidTests := true, laidLooks := .later }
def FillMoreUptoCardSaid : Prop := Claim7.holds Tryd.pinned (.plain (OpenSpec.upto fillMoreSpec)) fillMoreUptoCard
end Rows
end Go.Proofs.YtjpifknencfipaaDoor
