/-
  NARROWER THAN 'FOR EVERY INPUT', by the rows' own cells (each row's printed sentence says how): BalanceOne: laid · BalanceLeast: laid · BalanceFits: laid · BalanceMore: laid · BalanceMakes: laid · BalanceBegins: laid · RowLays: laid · RowAll: laid · RowWithin: laid · RowPlain: laid · RowAuto: laid · RowMoves: laid · RowBack: laid · FillAll: laid · FillEnds: laid · FillSums: laid · FillMakes: laid · FillOne: laid · FillHeights: laid · FillBetween: laid · FillMore: laid.
  DERIVED. THE GIVEN ROWS OF THIS SEAT. 21 by the template 'for every input the law returns true; each argument reads behind the call as it read before'; 0 by the template 'total and deterministic' (their statements: YtjpifknencfipaaDoorTotals.lean).
  GIVEN WITH THE SEED: the statements are not yours to turn. If you find one false, say at which input.
  Laid BY PROGRAM, IN A SANDBOX (cutbox-rows.mjs): the forced cells as the released guide's own fill.sh prints them over the translation 1a80eaffdf0b36a3… (all of the seat's roots in one cut). By AI agents, Wed Nov 11 2026. No macro, syntax, notation, axiom, sorry.
-/
import Derived.Test.YtjpifknencfipaaDoorChecked
import GoSem.Claim
import GoSem.ClaimJoined
import GoSem.ClaimMapViews
import Derived.JoinedTies
import Derived.KernelRfl
namespace Go.Proofs.YtjpifknencfipaaDoor
/- THE CELL 'sum', in the pinned program and in every row, IS THE sha256 OF THE DUMP (.gsa) THAT YtjpifknencfipaaDoorProg.lean LOADS. Nothing in Lean hashes anything: it is a label: what it is worth is what the hold of that sum in a sandbox is worth. -/
noncomputable def Tryd.pinned : Pinned := { name := "ytjpifknencfipaadoor", sum := "1a80eaffdf0b36a3b56c3187b85285aa2112d865b0fd4b82811c5f6c3b4b7749", checked := Tryd.checked }
namespace Rows
def none {H : Type} : Left H := { results := [], args := [] }

/- WHAT THE LISTED PACKAGE-LEVEL VARIABLES READ AS WHEN THE CALL BEGINS. Each datum BY PROGRAM (the guide's laid-datum.mjs) off the statement by which the dump's own 'gosem.cut.vars' lays the variable. In a bare row this is a premise. The card (YtjpifknencfipaaDoorCards.lean) ties it to the program's text. -/
def laid_gutter_fill_errFill {H : Type} : DataW H := .iface "*errors.errorString" (.ptr (.agg [.lit (.string [110, 111, 116, 32, 102, 105, 108, 108, 101, 100])]))
def laid_gutter_balance_errBalance {H : Type} : DataW H := .iface "*errors.errorString" (.ptr (.agg [.lit (.string [110, 111, 116, 32, 98, 97, 108, 97, 110, 99, 101, 100])]))
def laid_gutter_row_errRow {H : Type} : DataW H := .iface "*errors.errorString" (.ptr (.agg [.lit (.string [110, 111, 32, 114, 111, 119])]))

/-- 'gutterlaw15.BalanceOne': WHATEVER THE INPUT: true; the input reads as it did. -/
def balanceOneSpec : ChangeSpec := { name := "balanceOne", fn := fun _ => fun
  | [d] => { results := [.lit (.bool true)], args := [d] }
  | _ => none }
def balanceOneRow : OpenClaim := { program := "ytjpifknencfipaadoor", sum := "1a80eaffdf0b36a3b56c3187b85285aa2112d865b0fd4b82811c5f6c3b4b7749", func := "gutter/gutterlaw15.BalanceOne", spec := "balanceOne", inPlace := ["internal/reflectlite.TypeOf"], unfollowed := true, recurses := true, named := ["gutter/balance.errBalance", "gutter/fill.errFill"], apart := false, laid := [("gutter/fill.errFill", laid_gutter_fill_errFill), ("gutter/balance.errBalance", laid_gutter_balance_errBalance)] }
def BalanceOneSaid : Prop := balanceOneRow.holds Tryd.pinned (OpenSpec.ofChange balanceOneSpec)

/-- ITS FALSE NEIGHBOUR: 'it returns false'. Refute it at one input. -/
def balanceOneWrong : ChangeSpec := { name := "balanceOne", fn := fun _ => fun
  | [d] => { results := [.lit (.bool false)], args := [d] }
  | _ => none }
def BalanceOneWrongFalsely : Prop := balanceOneRow.holds Tryd.pinned (OpenSpec.ofChange balanceOneWrong)

/-- 'gutterlaw15.BalanceLeast': WHATEVER THE INPUT: true; the input reads as it did. -/
def balanceLeastSpec : ChangeSpec := { name := "balanceLeast", fn := fun _ => fun
  | [d1, d2, d3] => { results := [.lit (.bool true)], args := [d1, d2, d3] }
  | _ => none }
def balanceLeastRow : OpenClaim := { program := "ytjpifknencfipaadoor", sum := "1a80eaffdf0b36a3b56c3187b85285aa2112d865b0fd4b82811c5f6c3b4b7749", func := "gutter/gutterlaw15.BalanceLeast", spec := "balanceLeast", inPlace := ["internal/reflectlite.TypeOf"], unfollowed := true, recurses := true, named := ["gutter/balance.errBalance", "gutter/fill.errFill"], apart := false, laid := [("gutter/fill.errFill", laid_gutter_fill_errFill), ("gutter/balance.errBalance", laid_gutter_balance_errBalance)] }
def BalanceLeastSaid : Prop := balanceLeastRow.holds Tryd.pinned (OpenSpec.ofChange balanceLeastSpec)

/-- ITS FALSE NEIGHBOUR: 'it returns false'. Refute it at one input. -/
def balanceLeastWrong : ChangeSpec := { name := "balanceLeast", fn := fun _ => fun
  | [d1, d2, d3] => { results := [.lit (.bool false)], args := [d1, d2, d3] }
  | _ => none }
def BalanceLeastWrongFalsely : Prop := balanceLeastRow.holds Tryd.pinned (OpenSpec.ofChange balanceLeastWrong)

/-- 'gutterlaw15.BalanceFits': WHATEVER THE INPUT: true; the input reads as it did. -/
def balanceFitsSpec : ChangeSpec := { name := "balanceFits", fn := fun _ => fun
  | [d1, d2, d3, d4] => { results := [.lit (.bool true)], args := [d1, d2, d3, d4] }
  | _ => none }
def balanceFitsRow : OpenClaim := { program := "ytjpifknencfipaadoor", sum := "1a80eaffdf0b36a3b56c3187b85285aa2112d865b0fd4b82811c5f6c3b4b7749", func := "gutter/gutterlaw15.BalanceFits", spec := "balanceFits", inPlace := ["internal/reflectlite.TypeOf"], unfollowed := true, recurses := true, named := ["gutter/balance.errBalance", "gutter/fill.errFill"], apart := false, laid := [("gutter/fill.errFill", laid_gutter_fill_errFill), ("gutter/balance.errBalance", laid_gutter_balance_errBalance)] }
def BalanceFitsSaid : Prop := balanceFitsRow.holds Tryd.pinned (OpenSpec.ofChange balanceFitsSpec)

/-- ITS FALSE NEIGHBOUR: 'it returns false'. Refute it at one input. -/
def balanceFitsWrong : ChangeSpec := { name := "balanceFits", fn := fun _ => fun
  | [d1, d2, d3, d4] => { results := [.lit (.bool false)], args := [d1, d2, d3, d4] }
  | _ => none }
def BalanceFitsWrongFalsely : Prop := balanceFitsRow.holds Tryd.pinned (OpenSpec.ofChange balanceFitsWrong)

/-- 'gutterlaw15.BalanceMore': WHATEVER THE INPUT: true; the input reads as it did. -/
def balanceMoreSpec : ChangeSpec := { name := "balanceMore", fn := fun _ => fun
  | [d1, d2, d3, d4, d5] => { results := [.lit (.bool true)], args := [d1, d2, d3, d4, d5] }
  | _ => none }
def balanceMoreRow : OpenClaim := { program := "ytjpifknencfipaadoor", sum := "1a80eaffdf0b36a3b56c3187b85285aa2112d865b0fd4b82811c5f6c3b4b7749", func := "gutter/gutterlaw15.BalanceMore", spec := "balanceMore", inPlace := ["internal/reflectlite.TypeOf"], unfollowed := true, recurses := true, named := ["gutter/balance.errBalance", "gutter/fill.errFill"], apart := false, laid := [("gutter/fill.errFill", laid_gutter_fill_errFill), ("gutter/balance.errBalance", laid_gutter_balance_errBalance)] }
def BalanceMoreSaid : Prop := balanceMoreRow.holds Tryd.pinned (OpenSpec.ofChange balanceMoreSpec)

/-- ITS FALSE NEIGHBOUR: 'it returns false'. Refute it at one input. -/
def balanceMoreWrong : ChangeSpec := { name := "balanceMore", fn := fun _ => fun
  | [d1, d2, d3, d4, d5] => { results := [.lit (.bool false)], args := [d1, d2, d3, d4, d5] }
  | _ => none }
def BalanceMoreWrongFalsely : Prop := balanceMoreRow.holds Tryd.pinned (OpenSpec.ofChange balanceMoreWrong)

/-- 'gutterlaw15.BalanceMakes': WHATEVER THE INPUT: true; the input reads as it did. -/
def balanceMakesSpec : ChangeSpec := { name := "balanceMakes", fn := fun _ => fun
  | [d1, d2, d3, d4] => { results := [.lit (.bool true)], args := [d1, d2, d3, d4] }
  | _ => none }
def balanceMakesRow : OpenClaim := { program := "ytjpifknencfipaadoor", sum := "1a80eaffdf0b36a3b56c3187b85285aa2112d865b0fd4b82811c5f6c3b4b7749", func := "gutter/gutterlaw15.BalanceMakes", spec := "balanceMakes", inPlace := ["internal/reflectlite.TypeOf"], unfollowed := true, recurses := true, named := ["gutter/balance.errBalance", "gutter/fill.errFill"], apart := false, laid := [("gutter/fill.errFill", laid_gutter_fill_errFill), ("gutter/balance.errBalance", laid_gutter_balance_errBalance)] }
def BalanceMakesSaid : Prop := balanceMakesRow.holds Tryd.pinned (OpenSpec.ofChange balanceMakesSpec)

/-- ITS FALSE NEIGHBOUR: 'it returns false'. Refute it at one input. -/
def balanceMakesWrong : ChangeSpec := { name := "balanceMakes", fn := fun _ => fun
  | [d1, d2, d3, d4] => { results := [.lit (.bool false)], args := [d1, d2, d3, d4] }
  | _ => none }
def BalanceMakesWrongFalsely : Prop := balanceMakesRow.holds Tryd.pinned (OpenSpec.ofChange balanceMakesWrong)

/-- 'gutterlaw15.BalanceBegins': WHATEVER THE INPUT: true; the input reads as it did. -/
def balanceBeginsSpec : ChangeSpec := { name := "balanceBegins", fn := fun _ => fun
  | [d1, d2, d3] => { results := [.lit (.bool true)], args := [d1, d2, d3] }
  | _ => none }
def balanceBeginsRow : OpenClaim := { program := "ytjpifknencfipaadoor", sum := "1a80eaffdf0b36a3b56c3187b85285aa2112d865b0fd4b82811c5f6c3b4b7749", func := "gutter/gutterlaw15.BalanceBegins", spec := "balanceBegins", inPlace := ["internal/reflectlite.TypeOf"], unfollowed := true, recurses := true, named := ["gutter/balance.errBalance", "gutter/fill.errFill"], apart := false, laid := [("gutter/fill.errFill", laid_gutter_fill_errFill), ("gutter/balance.errBalance", laid_gutter_balance_errBalance)] }
def BalanceBeginsSaid : Prop := balanceBeginsRow.holds Tryd.pinned (OpenSpec.ofChange balanceBeginsSpec)

/-- ITS FALSE NEIGHBOUR: 'it returns false'. Refute it at one input. -/
def balanceBeginsWrong : ChangeSpec := { name := "balanceBegins", fn := fun _ => fun
  | [d1, d2, d3] => { results := [.lit (.bool false)], args := [d1, d2, d3] }
  | _ => none }
def BalanceBeginsWrongFalsely : Prop := balanceBeginsRow.holds Tryd.pinned (OpenSpec.ofChange balanceBeginsWrong)

/-- 'gutterlaw17.RowLays': WHATEVER THE INPUT: true; the input reads as it did. -/
def rowLaysSpec : ChangeSpec := { name := "rowLays", fn := fun _ => fun
  | [d1, d2, d3, d4, d5, d6] => { results := [.lit (.bool true)], args := [d1, d2, d3, d4, d5, d6] }
  | _ => none }
def rowLaysRow : OpenClaim := { program := "ytjpifknencfipaadoor", sum := "1a80eaffdf0b36a3b56c3187b85285aa2112d865b0fd4b82811c5f6c3b4b7749", func := "gutter/gutterlaw17.RowLays", spec := "rowLays", inPlace := ["internal/reflectlite.TypeOf"], unfollowed := true, recurses := true, named := ["gutter/row.errRow", "gutter/balance.errBalance", "gutter/fill.errFill"], apart := false, laid := [("gutter/fill.errFill", laid_gutter_fill_errFill), ("gutter/balance.errBalance", laid_gutter_balance_errBalance), ("gutter/row.errRow", laid_gutter_row_errRow)] }
def RowLaysSaid : Prop := rowLaysRow.holds Tryd.pinned (OpenSpec.ofChange rowLaysSpec)

/-- ITS FALSE NEIGHBOUR: 'it returns false'. Refute it at one input. -/
def rowLaysWrong : ChangeSpec := { name := "rowLays", fn := fun _ => fun
  | [d1, d2, d3, d4, d5, d6] => { results := [.lit (.bool false)], args := [d1, d2, d3, d4, d5, d6] }
  | _ => none }
def RowLaysWrongFalsely : Prop := rowLaysRow.holds Tryd.pinned (OpenSpec.ofChange rowLaysWrong)

/-- 'gutterlaw17.RowAll': WHATEVER THE INPUT: true; the input reads as it did. -/
def rowAllSpec : ChangeSpec := { name := "rowAll", fn := fun _ => fun
  | [d1, d2, d3, d4, d5, d6] => { results := [.lit (.bool true)], args := [d1, d2, d3, d4, d5, d6] }
  | _ => none }
def rowAllRow : OpenClaim := { program := "ytjpifknencfipaadoor", sum := "1a80eaffdf0b36a3b56c3187b85285aa2112d865b0fd4b82811c5f6c3b4b7749", func := "gutter/gutterlaw17.RowAll", spec := "rowAll", inPlace := ["internal/reflectlite.TypeOf"], unfollowed := true, recurses := true, named := ["gutter/row.errRow", "gutter/balance.errBalance", "gutter/fill.errFill"], apart := false, laid := [("gutter/fill.errFill", laid_gutter_fill_errFill), ("gutter/balance.errBalance", laid_gutter_balance_errBalance), ("gutter/row.errRow", laid_gutter_row_errRow)] }
def RowAllSaid : Prop := rowAllRow.holds Tryd.pinned (OpenSpec.ofChange rowAllSpec)

/-- ITS FALSE NEIGHBOUR: 'it returns false'. Refute it at one input. -/
def rowAllWrong : ChangeSpec := { name := "rowAll", fn := fun _ => fun
  | [d1, d2, d3, d4, d5, d6] => { results := [.lit (.bool false)], args := [d1, d2, d3, d4, d5, d6] }
  | _ => none }
def RowAllWrongFalsely : Prop := rowAllRow.holds Tryd.pinned (OpenSpec.ofChange rowAllWrong)

/-- 'gutterlaw17.RowWithin': WHATEVER THE INPUT: true; the input reads as it did. -/
def rowWithinSpec : ChangeSpec := { name := "rowWithin", fn := fun _ => fun
  | [d1, d2, d3, d4] => { results := [.lit (.bool true)], args := [d1, d2, d3, d4] }
  | _ => none }
def rowWithinRow : OpenClaim := { program := "ytjpifknencfipaadoor", sum := "1a80eaffdf0b36a3b56c3187b85285aa2112d865b0fd4b82811c5f6c3b4b7749", func := "gutter/gutterlaw17.RowWithin", spec := "rowWithin", inPlace := ["internal/reflectlite.TypeOf"], unfollowed := true, recurses := true, named := ["gutter/row.errRow", "gutter/balance.errBalance", "gutter/fill.errFill"], apart := false, laid := [("gutter/fill.errFill", laid_gutter_fill_errFill), ("gutter/balance.errBalance", laid_gutter_balance_errBalance), ("gutter/row.errRow", laid_gutter_row_errRow)] }
def RowWithinSaid : Prop := rowWithinRow.holds Tryd.pinned (OpenSpec.ofChange rowWithinSpec)

/-- ITS FALSE NEIGHBOUR: 'it returns false'. Refute it at one input. -/
def rowWithinWrong : ChangeSpec := { name := "rowWithin", fn := fun _ => fun
  | [d1, d2, d3, d4] => { results := [.lit (.bool false)], args := [d1, d2, d3, d4] }
  | _ => none }
def RowWithinWrongFalsely : Prop := rowWithinRow.holds Tryd.pinned (OpenSpec.ofChange rowWithinWrong)

/-- 'gutterlaw17.RowPlain': WHATEVER THE INPUT: true; the input reads as it did. -/
def rowPlainSpec : ChangeSpec := { name := "rowPlain", fn := fun _ => fun
  | [d1, d2] => { results := [.lit (.bool true)], args := [d1, d2] }
  | _ => none }
def rowPlainRow : OpenClaim := { program := "ytjpifknencfipaadoor", sum := "1a80eaffdf0b36a3b56c3187b85285aa2112d865b0fd4b82811c5f6c3b4b7749", func := "gutter/gutterlaw17.RowPlain", spec := "rowPlain", inPlace := ["internal/reflectlite.TypeOf"], unfollowed := true, recurses := true, named := ["gutter/row.errRow", "gutter/balance.errBalance", "gutter/fill.errFill"], apart := false, laid := [("gutter/fill.errFill", laid_gutter_fill_errFill), ("gutter/balance.errBalance", laid_gutter_balance_errBalance), ("gutter/row.errRow", laid_gutter_row_errRow)] }
def RowPlainSaid : Prop := rowPlainRow.holds Tryd.pinned (OpenSpec.ofChange rowPlainSpec)

/-- ITS FALSE NEIGHBOUR: 'it returns false'. Refute it at one input. -/
def rowPlainWrong : ChangeSpec := { name := "rowPlain", fn := fun _ => fun
  | [d1, d2] => { results := [.lit (.bool false)], args := [d1, d2] }
  | _ => none }
def RowPlainWrongFalsely : Prop := rowPlainRow.holds Tryd.pinned (OpenSpec.ofChange rowPlainWrong)

/-- 'gutterlaw17.RowAuto': WHATEVER THE INPUT: true; the input reads as it did. -/
def rowAutoSpec : ChangeSpec := { name := "rowAuto", fn := fun _ => fun
  | [d1, d2, d3] => { results := [.lit (.bool true)], args := [d1, d2, d3] }
  | _ => none }
def rowAutoRow : OpenClaim := { program := "ytjpifknencfipaadoor", sum := "1a80eaffdf0b36a3b56c3187b85285aa2112d865b0fd4b82811c5f6c3b4b7749", func := "gutter/gutterlaw17.RowAuto", spec := "rowAuto", inPlace := ["internal/reflectlite.TypeOf"], unfollowed := true, recurses := true, named := ["gutter/row.errRow", "gutter/balance.errBalance", "gutter/fill.errFill"], apart := false, laid := [("gutter/fill.errFill", laid_gutter_fill_errFill), ("gutter/balance.errBalance", laid_gutter_balance_errBalance), ("gutter/row.errRow", laid_gutter_row_errRow)] }
def RowAutoSaid : Prop := rowAutoRow.holds Tryd.pinned (OpenSpec.ofChange rowAutoSpec)

/-- ITS FALSE NEIGHBOUR: 'it returns false'. Refute it at one input. -/
def rowAutoWrong : ChangeSpec := { name := "rowAuto", fn := fun _ => fun
  | [d1, d2, d3] => { results := [.lit (.bool false)], args := [d1, d2, d3] }
  | _ => none }
def RowAutoWrongFalsely : Prop := rowAutoRow.holds Tryd.pinned (OpenSpec.ofChange rowAutoWrong)

/-- 'gutterlaw17.RowMoves': WHATEVER THE INPUT: true; the input reads as it did. -/
def rowMovesSpec : ChangeSpec := { name := "rowMoves", fn := fun _ => fun
  | [d1, d2, d3, d4, d5, d6] => { results := [.lit (.bool true)], args := [d1, d2, d3, d4, d5, d6] }
  | _ => none }
def rowMovesRow : OpenClaim := { program := "ytjpifknencfipaadoor", sum := "1a80eaffdf0b36a3b56c3187b85285aa2112d865b0fd4b82811c5f6c3b4b7749", func := "gutter/gutterlaw17.RowMoves", spec := "rowMoves", inPlace := ["internal/reflectlite.TypeOf"], unfollowed := true, recurses := true, named := ["gutter/row.errRow", "gutter/balance.errBalance", "gutter/fill.errFill"], apart := false, laid := [("gutter/fill.errFill", laid_gutter_fill_errFill), ("gutter/balance.errBalance", laid_gutter_balance_errBalance), ("gutter/row.errRow", laid_gutter_row_errRow)] }
def RowMovesSaid : Prop := rowMovesRow.holds Tryd.pinned (OpenSpec.ofChange rowMovesSpec)

/-- ITS FALSE NEIGHBOUR: 'it returns false'. Refute it at one input. -/
def rowMovesWrong : ChangeSpec := { name := "rowMoves", fn := fun _ => fun
  | [d1, d2, d3, d4, d5, d6] => { results := [.lit (.bool false)], args := [d1, d2, d3, d4, d5, d6] }
  | _ => none }
def RowMovesWrongFalsely : Prop := rowMovesRow.holds Tryd.pinned (OpenSpec.ofChange rowMovesWrong)

/-- 'gutterlaw17.RowBack': WHATEVER THE INPUT: true; the input reads as it did. -/
def rowBackSpec : ChangeSpec := { name := "rowBack", fn := fun _ => fun
  | [d1, d2, d3] => { results := [.lit (.bool true)], args := [d1, d2, d3] }
  | _ => none }
def rowBackRow : OpenClaim := { program := "ytjpifknencfipaadoor", sum := "1a80eaffdf0b36a3b56c3187b85285aa2112d865b0fd4b82811c5f6c3b4b7749", func := "gutter/gutterlaw17.RowBack", spec := "rowBack", inPlace := ["internal/reflectlite.TypeOf"], unfollowed := true, recurses := true, named := ["gutter/row.errRow", "gutter/balance.errBalance", "gutter/fill.errFill"], apart := false, laid := [("gutter/fill.errFill", laid_gutter_fill_errFill), ("gutter/balance.errBalance", laid_gutter_balance_errBalance), ("gutter/row.errRow", laid_gutter_row_errRow)] }
def RowBackSaid : Prop := rowBackRow.holds Tryd.pinned (OpenSpec.ofChange rowBackSpec)

/-- ITS FALSE NEIGHBOUR: 'it returns false'. Refute it at one input. -/
def rowBackWrong : ChangeSpec := { name := "rowBack", fn := fun _ => fun
  | [d1, d2, d3] => { results := [.lit (.bool false)], args := [d1, d2, d3] }
  | _ => none }
def RowBackWrongFalsely : Prop := rowBackRow.holds Tryd.pinned (OpenSpec.ofChange rowBackWrong)

/-- 'gutterlaw14.FillAll': WHATEVER THE INPUT: true; the input reads as it did. -/
def fillAllSpec : ChangeSpec := { name := "fillAll", fn := fun _ => fun
  | [d1, d2] => { results := [.lit (.bool true)], args := [d1, d2] }
  | _ => none }
def fillAllRow : OpenClaim := { program := "ytjpifknencfipaadoor", sum := "1a80eaffdf0b36a3b56c3187b85285aa2112d865b0fd4b82811c5f6c3b4b7749", func := "gutter/gutterlaw14.FillAll", spec := "fillAll", inPlace := ["internal/reflectlite.TypeOf"], unfollowed := true, recurses := true, named := ["gutter/fill.errFill"], apart := false, laid := [("gutter/fill.errFill", laid_gutter_fill_errFill)] }
def FillAllSaid : Prop := fillAllRow.holds Tryd.pinned (OpenSpec.ofChange fillAllSpec)

/-- ITS FALSE NEIGHBOUR: 'it returns false'. Refute it at one input. -/
def fillAllWrong : ChangeSpec := { name := "fillAll", fn := fun _ => fun
  | [d1, d2] => { results := [.lit (.bool false)], args := [d1, d2] }
  | _ => none }
def FillAllWrongFalsely : Prop := fillAllRow.holds Tryd.pinned (OpenSpec.ofChange fillAllWrong)

/-- 'gutterlaw14.FillEnds': WHATEVER THE INPUT: true; the input reads as it did. -/
def fillEndsSpec : ChangeSpec := { name := "fillEnds", fn := fun _ => fun
  | [d1, d2] => { results := [.lit (.bool true)], args := [d1, d2] }
  | _ => none }
def fillEndsRow : OpenClaim := { program := "ytjpifknencfipaadoor", sum := "1a80eaffdf0b36a3b56c3187b85285aa2112d865b0fd4b82811c5f6c3b4b7749", func := "gutter/gutterlaw14.FillEnds", spec := "fillEnds", inPlace := ["internal/reflectlite.TypeOf"], unfollowed := true, recurses := true, named := ["gutter/fill.errFill"], apart := false, laid := [("gutter/fill.errFill", laid_gutter_fill_errFill)] }
def FillEndsSaid : Prop := fillEndsRow.holds Tryd.pinned (OpenSpec.ofChange fillEndsSpec)

/-- ITS FALSE NEIGHBOUR: 'it returns false'. Refute it at one input. -/
def fillEndsWrong : ChangeSpec := { name := "fillEnds", fn := fun _ => fun
  | [d1, d2] => { results := [.lit (.bool false)], args := [d1, d2] }
  | _ => none }
def FillEndsWrongFalsely : Prop := fillEndsRow.holds Tryd.pinned (OpenSpec.ofChange fillEndsWrong)

/-- 'gutterlaw14.FillSums': WHATEVER THE INPUT: true; the input reads as it did. -/
def fillSumsSpec : ChangeSpec := { name := "fillSums", fn := fun _ => fun
  | [d1, d2] => { results := [.lit (.bool true)], args := [d1, d2] }
  | _ => none }
def fillSumsRow : OpenClaim := { program := "ytjpifknencfipaadoor", sum := "1a80eaffdf0b36a3b56c3187b85285aa2112d865b0fd4b82811c5f6c3b4b7749", func := "gutter/gutterlaw14.FillSums", spec := "fillSums", inPlace := ["internal/reflectlite.TypeOf"], unfollowed := true, recurses := true, named := ["gutter/fill.errFill"], apart := false, laid := [("gutter/fill.errFill", laid_gutter_fill_errFill)] }
def FillSumsSaid : Prop := fillSumsRow.holds Tryd.pinned (OpenSpec.ofChange fillSumsSpec)

/-- ITS FALSE NEIGHBOUR: 'it returns false'. Refute it at one input. -/
def fillSumsWrong : ChangeSpec := { name := "fillSums", fn := fun _ => fun
  | [d1, d2] => { results := [.lit (.bool false)], args := [d1, d2] }
  | _ => none }
def FillSumsWrongFalsely : Prop := fillSumsRow.holds Tryd.pinned (OpenSpec.ofChange fillSumsWrong)

/-- 'gutterlaw14.FillMakes': WHATEVER THE INPUT: true; the input reads as it did. -/
def fillMakesSpec : ChangeSpec := { name := "fillMakes", fn := fun _ => fun
  | [d1, d2] => { results := [.lit (.bool true)], args := [d1, d2] }
  | _ => none }
def fillMakesRow : OpenClaim := { program := "ytjpifknencfipaadoor", sum := "1a80eaffdf0b36a3b56c3187b85285aa2112d865b0fd4b82811c5f6c3b4b7749", func := "gutter/gutterlaw14.FillMakes", spec := "fillMakes", inPlace := ["internal/reflectlite.TypeOf"], unfollowed := true, recurses := true, named := ["gutter/fill.errFill"], apart := false, laid := [("gutter/fill.errFill", laid_gutter_fill_errFill)] }
def FillMakesSaid : Prop := fillMakesRow.holds Tryd.pinned (OpenSpec.ofChange fillMakesSpec)

/-- ITS FALSE NEIGHBOUR: 'it returns false'. Refute it at one input. -/
def fillMakesWrong : ChangeSpec := { name := "fillMakes", fn := fun _ => fun
  | [d1, d2] => { results := [.lit (.bool false)], args := [d1, d2] }
  | _ => none }
def FillMakesWrongFalsely : Prop := fillMakesRow.holds Tryd.pinned (OpenSpec.ofChange fillMakesWrong)

/-- 'gutterlaw14.FillOne': WHATEVER THE INPUT: true; the input reads as it did. -/
def fillOneSpec : ChangeSpec := { name := "fillOne", fn := fun _ => fun
  | [d] => { results := [.lit (.bool true)], args := [d] }
  | _ => none }
def fillOneRow : OpenClaim := { program := "ytjpifknencfipaadoor", sum := "1a80eaffdf0b36a3b56c3187b85285aa2112d865b0fd4b82811c5f6c3b4b7749", func := "gutter/gutterlaw14.FillOne", spec := "fillOne", inPlace := ["internal/reflectlite.TypeOf"], unfollowed := true, recurses := true, named := ["gutter/fill.errFill"], apart := false, laid := [("gutter/fill.errFill", laid_gutter_fill_errFill)] }
def FillOneSaid : Prop := fillOneRow.holds Tryd.pinned (OpenSpec.ofChange fillOneSpec)

/-- ITS FALSE NEIGHBOUR: 'it returns false'. Refute it at one input. -/
def fillOneWrong : ChangeSpec := { name := "fillOne", fn := fun _ => fun
  | [d] => { results := [.lit (.bool false)], args := [d] }
  | _ => none }
def FillOneWrongFalsely : Prop := fillOneRow.holds Tryd.pinned (OpenSpec.ofChange fillOneWrong)

/-- 'gutterlaw14.FillHeights': WHATEVER THE INPUT: true; the input reads as it did. -/
def fillHeightsSpec : ChangeSpec := { name := "fillHeights", fn := fun _ => fun
  | [d1, d2, d3] => { results := [.lit (.bool true)], args := [d1, d2, d3] }
  | _ => none }
def fillHeightsRow : OpenClaim := { program := "ytjpifknencfipaadoor", sum := "1a80eaffdf0b36a3b56c3187b85285aa2112d865b0fd4b82811c5f6c3b4b7749", func := "gutter/gutterlaw14.FillHeights", spec := "fillHeights", inPlace := ["internal/reflectlite.TypeOf"], unfollowed := true, recurses := true, named := ["gutter/fill.errFill"], apart := false, laid := [("gutter/fill.errFill", laid_gutter_fill_errFill)] }
def FillHeightsSaid : Prop := fillHeightsRow.holds Tryd.pinned (OpenSpec.ofChange fillHeightsSpec)

/-- ITS FALSE NEIGHBOUR: 'it returns false'. Refute it at one input. -/
def fillHeightsWrong : ChangeSpec := { name := "fillHeights", fn := fun _ => fun
  | [d1, d2, d3] => { results := [.lit (.bool false)], args := [d1, d2, d3] }
  | _ => none }
def FillHeightsWrongFalsely : Prop := fillHeightsRow.holds Tryd.pinned (OpenSpec.ofChange fillHeightsWrong)

/-- 'gutterlaw14.FillBetween': WHATEVER THE INPUT: true; the input reads as it did. -/
def fillBetweenSpec : ChangeSpec := { name := "fillBetween", fn := fun _ => fun
  | [d1, d2, d3] => { results := [.lit (.bool true)], args := [d1, d2, d3] }
  | _ => none }
def fillBetweenRow : OpenClaim := { program := "ytjpifknencfipaadoor", sum := "1a80eaffdf0b36a3b56c3187b85285aa2112d865b0fd4b82811c5f6c3b4b7749", func := "gutter/gutterlaw14.FillBetween", spec := "fillBetween", inPlace := ["internal/reflectlite.TypeOf"], unfollowed := true, recurses := true, named := ["gutter/fill.errFill"], apart := false, laid := [("gutter/fill.errFill", laid_gutter_fill_errFill)] }
def FillBetweenSaid : Prop := fillBetweenRow.holds Tryd.pinned (OpenSpec.ofChange fillBetweenSpec)

/-- ITS FALSE NEIGHBOUR: 'it returns false'. Refute it at one input. -/
def fillBetweenWrong : ChangeSpec := { name := "fillBetween", fn := fun _ => fun
  | [d1, d2, d3] => { results := [.lit (.bool false)], args := [d1, d2, d3] }
  | _ => none }
def FillBetweenWrongFalsely : Prop := fillBetweenRow.holds Tryd.pinned (OpenSpec.ofChange fillBetweenWrong)

/-- 'gutterlaw14.FillMore': WHATEVER THE INPUT: true; the input reads as it did. -/
def fillMoreSpec : ChangeSpec := { name := "fillMore", fn := fun _ => fun
  | [d1, d2] => { results := [.lit (.bool true)], args := [d1, d2] }
  | _ => none }
def fillMoreRow : OpenClaim := { program := "ytjpifknencfipaadoor", sum := "1a80eaffdf0b36a3b56c3187b85285aa2112d865b0fd4b82811c5f6c3b4b7749", func := "gutter/gutterlaw14.FillMore", spec := "fillMore", inPlace := ["internal/reflectlite.TypeOf"], unfollowed := true, recurses := true, named := ["gutter/fill.errFill"], apart := false, laid := [("gutter/fill.errFill", laid_gutter_fill_errFill)] }
def FillMoreSaid : Prop := fillMoreRow.holds Tryd.pinned (OpenSpec.ofChange fillMoreSpec)

/-- ITS FALSE NEIGHBOUR: 'it returns false'. Refute it at one input. -/
def fillMoreWrong : ChangeSpec := { name := "fillMore", fn := fun _ => fun
  | [d1, d2] => { results := [.lit (.bool false)], args := [d1, d2] }
  | _ => none }
def FillMoreWrongFalsely : Prop := fillMoreRow.holds Tryd.pinned (OpenSpec.ofChange fillMoreWrong)

/- THE SECOND FORM. 'bulk': how many values and letters a reading holds, each counted each time it is reached (what is shared counts as often as it is met; a slice's spare places count too). A statement '..UptoSaid' is the law's where the arguments, and the package variables that the reading takes, are together of bulk at most 1048576: NARROWER than '..Said'. Prove '..Said' where nothing that the law and all that it calls make is longer than what came in: it says more and counts as full. Else prove '..UptoSaid'. A law counts once. -/
mutual
def uptoBulk {H : Type} : DataW H → Nat
  | .lit (.string bytes) => bytes.length + 1
  | .lit _ => 1
  | .nil => 1
  | .ptr d => uptoBulk d + 1
  | .slice elems spare => uptoBulkAll elems + uptoBulkAll spare + 1
  | .agg parts => uptoBulkAll parts + 1
  | .iface _ d => uptoBulk d + 1
  | .map entries => uptoBulkEntries entries + 1
  | .held _ => 1
def uptoBulkAll {H : Type} : List (DataW H) → Nat
  | [] => 0
  | d :: r => uptoBulk d + uptoBulkAll r
def uptoBulkEntries {H : Type} : List (Lit × DataW H) → Nat
  | [] => 0
  | x :: r => uptoBulkEntry x + uptoBulkEntries r
def uptoBulkEntry {H : Type} : Lit × DataW H → Nat
  | (.string bytes, d) => bytes.length + uptoBulk d + 1
  | (_, d) => uptoBulk d + 1
 end
def uptoSmall : (H : Type) → List (DataW H) → Bool := fun _ ds => decide (uptoBulkAll ds ≤ 1048576)
def OpenSpec.upto (s : _root_.Go.ChangeSpec) : _root_.Go.OpenSpec := { _root_.Go.OpenSpec.ofChange s with cond := some uptoSmall }

/-- 'gutterlaw15.BalanceOne', WHERE WHAT IT READS IS OF BULK AT MOST 1048576: true; the input reads as it did. -/
def balanceOneUptoRow : OpenClaim := { program := "ytjpifknencfipaadoor", sum := "1a80eaffdf0b36a3b56c3187b85285aa2112d865b0fd4b82811c5f6c3b4b7749", func := "gutter/gutterlaw15.BalanceOne", spec := "balanceOne", inPlace := ["internal/reflectlite.TypeOf"], unfollowed := true, recurses := true, named := ["gutter/balance.errBalance", "gutter/fill.errFill"], apart := false, laid := [("gutter/fill.errFill", laid_gutter_fill_errFill), ("gutter/balance.errBalance", laid_gutter_balance_errBalance)], narrowed := true }
def BalanceOneUptoSaid : Prop := balanceOneUptoRow.holds Tryd.pinned (OpenSpec.upto balanceOneSpec)

/-- 'gutterlaw15.BalanceLeast', WHERE WHAT IT READS IS OF BULK AT MOST 1048576: true; the input reads as it did. -/
def balanceLeastUptoRow : OpenClaim := { program := "ytjpifknencfipaadoor", sum := "1a80eaffdf0b36a3b56c3187b85285aa2112d865b0fd4b82811c5f6c3b4b7749", func := "gutter/gutterlaw15.BalanceLeast", spec := "balanceLeast", inPlace := ["internal/reflectlite.TypeOf"], unfollowed := true, recurses := true, named := ["gutter/balance.errBalance", "gutter/fill.errFill"], apart := false, laid := [("gutter/fill.errFill", laid_gutter_fill_errFill), ("gutter/balance.errBalance", laid_gutter_balance_errBalance)], narrowed := true }
def BalanceLeastUptoSaid : Prop := balanceLeastUptoRow.holds Tryd.pinned (OpenSpec.upto balanceLeastSpec)

/-- 'gutterlaw15.BalanceFits', WHERE WHAT IT READS IS OF BULK AT MOST 1048576: true; the input reads as it did. -/
def balanceFitsUptoRow : OpenClaim := { program := "ytjpifknencfipaadoor", sum := "1a80eaffdf0b36a3b56c3187b85285aa2112d865b0fd4b82811c5f6c3b4b7749", func := "gutter/gutterlaw15.BalanceFits", spec := "balanceFits", inPlace := ["internal/reflectlite.TypeOf"], unfollowed := true, recurses := true, named := ["gutter/balance.errBalance", "gutter/fill.errFill"], apart := false, laid := [("gutter/fill.errFill", laid_gutter_fill_errFill), ("gutter/balance.errBalance", laid_gutter_balance_errBalance)], narrowed := true }
def BalanceFitsUptoSaid : Prop := balanceFitsUptoRow.holds Tryd.pinned (OpenSpec.upto balanceFitsSpec)

/-- 'gutterlaw15.BalanceMore', WHERE WHAT IT READS IS OF BULK AT MOST 1048576: true; the input reads as it did. -/
def balanceMoreUptoRow : OpenClaim := { program := "ytjpifknencfipaadoor", sum := "1a80eaffdf0b36a3b56c3187b85285aa2112d865b0fd4b82811c5f6c3b4b7749", func := "gutter/gutterlaw15.BalanceMore", spec := "balanceMore", inPlace := ["internal/reflectlite.TypeOf"], unfollowed := true, recurses := true, named := ["gutter/balance.errBalance", "gutter/fill.errFill"], apart := false, laid := [("gutter/fill.errFill", laid_gutter_fill_errFill), ("gutter/balance.errBalance", laid_gutter_balance_errBalance)], narrowed := true }
def BalanceMoreUptoSaid : Prop := balanceMoreUptoRow.holds Tryd.pinned (OpenSpec.upto balanceMoreSpec)

/-- 'gutterlaw15.BalanceMakes', WHERE WHAT IT READS IS OF BULK AT MOST 1048576: true; the input reads as it did. -/
def balanceMakesUptoRow : OpenClaim := { program := "ytjpifknencfipaadoor", sum := "1a80eaffdf0b36a3b56c3187b85285aa2112d865b0fd4b82811c5f6c3b4b7749", func := "gutter/gutterlaw15.BalanceMakes", spec := "balanceMakes", inPlace := ["internal/reflectlite.TypeOf"], unfollowed := true, recurses := true, named := ["gutter/balance.errBalance", "gutter/fill.errFill"], apart := false, laid := [("gutter/fill.errFill", laid_gutter_fill_errFill), ("gutter/balance.errBalance", laid_gutter_balance_errBalance)], narrowed := true }
def BalanceMakesUptoSaid : Prop := balanceMakesUptoRow.holds Tryd.pinned (OpenSpec.upto balanceMakesSpec)

/-- 'gutterlaw15.BalanceBegins', WHERE WHAT IT READS IS OF BULK AT MOST 1048576: true; the input reads as it did. -/
def balanceBeginsUptoRow : OpenClaim := { program := "ytjpifknencfipaadoor", sum := "1a80eaffdf0b36a3b56c3187b85285aa2112d865b0fd4b82811c5f6c3b4b7749", func := "gutter/gutterlaw15.BalanceBegins", spec := "balanceBegins", inPlace := ["internal/reflectlite.TypeOf"], unfollowed := true, recurses := true, named := ["gutter/balance.errBalance", "gutter/fill.errFill"], apart := false, laid := [("gutter/fill.errFill", laid_gutter_fill_errFill), ("gutter/balance.errBalance", laid_gutter_balance_errBalance)], narrowed := true }
def BalanceBeginsUptoSaid : Prop := balanceBeginsUptoRow.holds Tryd.pinned (OpenSpec.upto balanceBeginsSpec)

/-- 'gutterlaw17.RowLays', WHERE WHAT IT READS IS OF BULK AT MOST 1048576: true; the input reads as it did. -/
def rowLaysUptoRow : OpenClaim := { program := "ytjpifknencfipaadoor", sum := "1a80eaffdf0b36a3b56c3187b85285aa2112d865b0fd4b82811c5f6c3b4b7749", func := "gutter/gutterlaw17.RowLays", spec := "rowLays", inPlace := ["internal/reflectlite.TypeOf"], unfollowed := true, recurses := true, named := ["gutter/row.errRow", "gutter/balance.errBalance", "gutter/fill.errFill"], apart := false, laid := [("gutter/fill.errFill", laid_gutter_fill_errFill), ("gutter/balance.errBalance", laid_gutter_balance_errBalance), ("gutter/row.errRow", laid_gutter_row_errRow)], narrowed := true }
def RowLaysUptoSaid : Prop := rowLaysUptoRow.holds Tryd.pinned (OpenSpec.upto rowLaysSpec)

/-- 'gutterlaw17.RowAll', WHERE WHAT IT READS IS OF BULK AT MOST 1048576: true; the input reads as it did. -/
def rowAllUptoRow : OpenClaim := { program := "ytjpifknencfipaadoor", sum := "1a80eaffdf0b36a3b56c3187b85285aa2112d865b0fd4b82811c5f6c3b4b7749", func := "gutter/gutterlaw17.RowAll", spec := "rowAll", inPlace := ["internal/reflectlite.TypeOf"], unfollowed := true, recurses := true, named := ["gutter/row.errRow", "gutter/balance.errBalance", "gutter/fill.errFill"], apart := false, laid := [("gutter/fill.errFill", laid_gutter_fill_errFill), ("gutter/balance.errBalance", laid_gutter_balance_errBalance), ("gutter/row.errRow", laid_gutter_row_errRow)], narrowed := true }
def RowAllUptoSaid : Prop := rowAllUptoRow.holds Tryd.pinned (OpenSpec.upto rowAllSpec)

/-- 'gutterlaw17.RowWithin', WHERE WHAT IT READS IS OF BULK AT MOST 1048576: true; the input reads as it did. -/
def rowWithinUptoRow : OpenClaim := { program := "ytjpifknencfipaadoor", sum := "1a80eaffdf0b36a3b56c3187b85285aa2112d865b0fd4b82811c5f6c3b4b7749", func := "gutter/gutterlaw17.RowWithin", spec := "rowWithin", inPlace := ["internal/reflectlite.TypeOf"], unfollowed := true, recurses := true, named := ["gutter/row.errRow", "gutter/balance.errBalance", "gutter/fill.errFill"], apart := false, laid := [("gutter/fill.errFill", laid_gutter_fill_errFill), ("gutter/balance.errBalance", laid_gutter_balance_errBalance), ("gutter/row.errRow", laid_gutter_row_errRow)], narrowed := true }
def RowWithinUptoSaid : Prop := rowWithinUptoRow.holds Tryd.pinned (OpenSpec.upto rowWithinSpec)

/-- 'gutterlaw17.RowPlain', WHERE WHAT IT READS IS OF BULK AT MOST 1048576: true; the input reads as it did. -/
def rowPlainUptoRow : OpenClaim := { program := "ytjpifknencfipaadoor", sum := "1a80eaffdf0b36a3b56c3187b85285aa2112d865b0fd4b82811c5f6c3b4b7749", func := "gutter/gutterlaw17.RowPlain", spec := "rowPlain", inPlace := ["internal/reflectlite.TypeOf"], unfollowed := true, recurses := true, named := ["gutter/row.errRow", "gutter/balance.errBalance", "gutter/fill.errFill"], apart := false, laid := [("gutter/fill.errFill", laid_gutter_fill_errFill), ("gutter/balance.errBalance", laid_gutter_balance_errBalance), ("gutter/row.errRow", laid_gutter_row_errRow)], narrowed := true }
def RowPlainUptoSaid : Prop := rowPlainUptoRow.holds Tryd.pinned (OpenSpec.upto rowPlainSpec)

/-- 'gutterlaw17.RowAuto', WHERE WHAT IT READS IS OF BULK AT MOST 1048576: true; the input reads as it did. -/
def rowAutoUptoRow : OpenClaim := { program := "ytjpifknencfipaadoor", sum := "1a80eaffdf0b36a3b56c3187b85285aa2112d865b0fd4b82811c5f6c3b4b7749", func := "gutter/gutterlaw17.RowAuto", spec := "rowAuto", inPlace := ["internal/reflectlite.TypeOf"], unfollowed := true, recurses := true, named := ["gutter/row.errRow", "gutter/balance.errBalance", "gutter/fill.errFill"], apart := false, laid := [("gutter/fill.errFill", laid_gutter_fill_errFill), ("gutter/balance.errBalance", laid_gutter_balance_errBalance), ("gutter/row.errRow", laid_gutter_row_errRow)], narrowed := true }
def RowAutoUptoSaid : Prop := rowAutoUptoRow.holds Tryd.pinned (OpenSpec.upto rowAutoSpec)

/-- 'gutterlaw17.RowMoves', WHERE WHAT IT READS IS OF BULK AT MOST 1048576: true; the input reads as it did. -/
def rowMovesUptoRow : OpenClaim := { program := "ytjpifknencfipaadoor", sum := "1a80eaffdf0b36a3b56c3187b85285aa2112d865b0fd4b82811c5f6c3b4b7749", func := "gutter/gutterlaw17.RowMoves", spec := "rowMoves", inPlace := ["internal/reflectlite.TypeOf"], unfollowed := true, recurses := true, named := ["gutter/row.errRow", "gutter/balance.errBalance", "gutter/fill.errFill"], apart := false, laid := [("gutter/fill.errFill", laid_gutter_fill_errFill), ("gutter/balance.errBalance", laid_gutter_balance_errBalance), ("gutter/row.errRow", laid_gutter_row_errRow)], narrowed := true }
def RowMovesUptoSaid : Prop := rowMovesUptoRow.holds Tryd.pinned (OpenSpec.upto rowMovesSpec)

/-- 'gutterlaw17.RowBack', WHERE WHAT IT READS IS OF BULK AT MOST 1048576: true; the input reads as it did. -/
def rowBackUptoRow : OpenClaim := { program := "ytjpifknencfipaadoor", sum := "1a80eaffdf0b36a3b56c3187b85285aa2112d865b0fd4b82811c5f6c3b4b7749", func := "gutter/gutterlaw17.RowBack", spec := "rowBack", inPlace := ["internal/reflectlite.TypeOf"], unfollowed := true, recurses := true, named := ["gutter/row.errRow", "gutter/balance.errBalance", "gutter/fill.errFill"], apart := false, laid := [("gutter/fill.errFill", laid_gutter_fill_errFill), ("gutter/balance.errBalance", laid_gutter_balance_errBalance), ("gutter/row.errRow", laid_gutter_row_errRow)], narrowed := true }
def RowBackUptoSaid : Prop := rowBackUptoRow.holds Tryd.pinned (OpenSpec.upto rowBackSpec)

/-- 'gutterlaw14.FillAll', WHERE WHAT IT READS IS OF BULK AT MOST 1048576: true; the input reads as it did. -/
def fillAllUptoRow : OpenClaim := { program := "ytjpifknencfipaadoor", sum := "1a80eaffdf0b36a3b56c3187b85285aa2112d865b0fd4b82811c5f6c3b4b7749", func := "gutter/gutterlaw14.FillAll", spec := "fillAll", inPlace := ["internal/reflectlite.TypeOf"], unfollowed := true, recurses := true, named := ["gutter/fill.errFill"], apart := false, laid := [("gutter/fill.errFill", laid_gutter_fill_errFill)], narrowed := true }
def FillAllUptoSaid : Prop := fillAllUptoRow.holds Tryd.pinned (OpenSpec.upto fillAllSpec)

/-- 'gutterlaw14.FillEnds', WHERE WHAT IT READS IS OF BULK AT MOST 1048576: true; the input reads as it did. -/
def fillEndsUptoRow : OpenClaim := { program := "ytjpifknencfipaadoor", sum := "1a80eaffdf0b36a3b56c3187b85285aa2112d865b0fd4b82811c5f6c3b4b7749", func := "gutter/gutterlaw14.FillEnds", spec := "fillEnds", inPlace := ["internal/reflectlite.TypeOf"], unfollowed := true, recurses := true, named := ["gutter/fill.errFill"], apart := false, laid := [("gutter/fill.errFill", laid_gutter_fill_errFill)], narrowed := true }
def FillEndsUptoSaid : Prop := fillEndsUptoRow.holds Tryd.pinned (OpenSpec.upto fillEndsSpec)

/-- 'gutterlaw14.FillSums', WHERE WHAT IT READS IS OF BULK AT MOST 1048576: true; the input reads as it did. -/
def fillSumsUptoRow : OpenClaim := { program := "ytjpifknencfipaadoor", sum := "1a80eaffdf0b36a3b56c3187b85285aa2112d865b0fd4b82811c5f6c3b4b7749", func := "gutter/gutterlaw14.FillSums", spec := "fillSums", inPlace := ["internal/reflectlite.TypeOf"], unfollowed := true, recurses := true, named := ["gutter/fill.errFill"], apart := false, laid := [("gutter/fill.errFill", laid_gutter_fill_errFill)], narrowed := true }
def FillSumsUptoSaid : Prop := fillSumsUptoRow.holds Tryd.pinned (OpenSpec.upto fillSumsSpec)

/-- 'gutterlaw14.FillMakes', WHERE WHAT IT READS IS OF BULK AT MOST 1048576: true; the input reads as it did. -/
def fillMakesUptoRow : OpenClaim := { program := "ytjpifknencfipaadoor", sum := "1a80eaffdf0b36a3b56c3187b85285aa2112d865b0fd4b82811c5f6c3b4b7749", func := "gutter/gutterlaw14.FillMakes", spec := "fillMakes", inPlace := ["internal/reflectlite.TypeOf"], unfollowed := true, recurses := true, named := ["gutter/fill.errFill"], apart := false, laid := [("gutter/fill.errFill", laid_gutter_fill_errFill)], narrowed := true }
def FillMakesUptoSaid : Prop := fillMakesUptoRow.holds Tryd.pinned (OpenSpec.upto fillMakesSpec)

/-- 'gutterlaw14.FillOne', WHERE WHAT IT READS IS OF BULK AT MOST 1048576: true; the input reads as it did. -/
def fillOneUptoRow : OpenClaim := { program := "ytjpifknencfipaadoor", sum := "1a80eaffdf0b36a3b56c3187b85285aa2112d865b0fd4b82811c5f6c3b4b7749", func := "gutter/gutterlaw14.FillOne", spec := "fillOne", inPlace := ["internal/reflectlite.TypeOf"], unfollowed := true, recurses := true, named := ["gutter/fill.errFill"], apart := false, laid := [("gutter/fill.errFill", laid_gutter_fill_errFill)], narrowed := true }
def FillOneUptoSaid : Prop := fillOneUptoRow.holds Tryd.pinned (OpenSpec.upto fillOneSpec)

/-- 'gutterlaw14.FillHeights', WHERE WHAT IT READS IS OF BULK AT MOST 1048576: true; the input reads as it did. -/
def fillHeightsUptoRow : OpenClaim := { program := "ytjpifknencfipaadoor", sum := "1a80eaffdf0b36a3b56c3187b85285aa2112d865b0fd4b82811c5f6c3b4b7749", func := "gutter/gutterlaw14.FillHeights", spec := "fillHeights", inPlace := ["internal/reflectlite.TypeOf"], unfollowed := true, recurses := true, named := ["gutter/fill.errFill"], apart := false, laid := [("gutter/fill.errFill", laid_gutter_fill_errFill)], narrowed := true }
def FillHeightsUptoSaid : Prop := fillHeightsUptoRow.holds Tryd.pinned (OpenSpec.upto fillHeightsSpec)

/-- 'gutterlaw14.FillBetween', WHERE WHAT IT READS IS OF BULK AT MOST 1048576: true; the input reads as it did. -/
def fillBetweenUptoRow : OpenClaim := { program := "ytjpifknencfipaadoor", sum := "1a80eaffdf0b36a3b56c3187b85285aa2112d865b0fd4b82811c5f6c3b4b7749", func := "gutter/gutterlaw14.FillBetween", spec := "fillBetween", inPlace := ["internal/reflectlite.TypeOf"], unfollowed := true, recurses := true, named := ["gutter/fill.errFill"], apart := false, laid := [("gutter/fill.errFill", laid_gutter_fill_errFill)], narrowed := true }
def FillBetweenUptoSaid : Prop := fillBetweenUptoRow.holds Tryd.pinned (OpenSpec.upto fillBetweenSpec)

/-- 'gutterlaw14.FillMore', WHERE WHAT IT READS IS OF BULK AT MOST 1048576: true; the input reads as it did. -/
def fillMoreUptoRow : OpenClaim := { program := "ytjpifknencfipaadoor", sum := "1a80eaffdf0b36a3b56c3187b85285aa2112d865b0fd4b82811c5f6c3b4b7749", func := "gutter/gutterlaw14.FillMore", spec := "fillMore", inPlace := ["internal/reflectlite.TypeOf"], unfollowed := true, recurses := true, named := ["gutter/fill.errFill"], apart := false, laid := [("gutter/fill.errFill", laid_gutter_fill_errFill)], narrowed := true }
def FillMoreUptoSaid : Prop := fillMoreUptoRow.holds Tryd.pinned (OpenSpec.upto fillMoreSpec)

end Rows
end Go.Proofs.YtjpifknencfipaaDoor
