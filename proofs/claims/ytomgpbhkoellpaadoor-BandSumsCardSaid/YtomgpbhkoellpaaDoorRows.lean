/-
  NARROWER THAN 'FOR EVERY INPUT', by the rows' own cells (each row's printed sentence says how): BandMakes: laid · BandFirst: laid · BandTells: laid · BandTurns: laid · BandAgain: laid · BandSums: laid · BandBack: laid · BandBoth: laid.
  DERIVED. THE GIVEN ROWS OF THIS SEAT. 8 by the template 'for every input the law returns true; each argument reads behind the call as it read before'; 0 by the template 'total and deterministic' (their statements: YtomgpbhkoellpaaDoorTotals.lean).
  GIVEN WITH THE SEED: the statements are not yours to turn. If you find one false, say at which input.
  Laid BY PROGRAM, IN A SANDBOX (cutbox-rows.mjs): the forced cells as the released guide's own fill.sh prints them over the translation e805c4e47a7b1ab9… (all of the seat's roots in one cut). By AI agents, Wed Nov 11 2026. No macro, syntax, notation, axiom, sorry.
-/
import Derived.Test.YtomgpbhkoellpaaDoorChecked
import GoSem.Claim
import GoSem.ClaimJoined
import GoSem.ClaimMapViews
import Derived.JoinedTies
import Derived.KernelRfl
namespace Go.Proofs.YtomgpbhkoellpaaDoor
/- THE CELL 'sum', in the pinned program and in every row, IS THE sha256 OF THE DUMP (.gsa) THAT YtomgpbhkoellpaaDoorProg.lean LOADS. Nothing in Lean hashes anything: it is a label: what it is worth is what the hold of that sum in a sandbox is worth. -/
noncomputable def Tryd.pinned : Pinned := { name := "ytomgpbhkoellpaadoor", sum := "e805c4e47a7b1ab97ccaaf685af2a7e605a9b05e3c6735b98335b32947c12876", checked := Tryd.checked }
namespace Rows
def none {H : Type} : Left H := { results := [], args := [] }

/- WHAT THE LISTED PACKAGE-LEVEL VARIABLES READ AS WHEN THE CALL BEGINS. Each datum BY PROGRAM (the guide's laid-datum.mjs) off the statement by which the dump's own 'gosem.cut.vars' lays the variable. In a bare row this is a premise. The card (YtomgpbhkoellpaaDoorCards.lean) ties it to the program's text. -/
def laid_gutter_band_errBand {H : Type} : DataW H := .iface "*errors.errorString" (.ptr (.agg [.lit (.string [110, 111, 32, 98, 97, 110, 100])]))

/-- 'gutterlaw03.BandMakes': WHATEVER THE INPUT: true; the input reads as it did. -/
def bandMakesSpec : ChangeSpec := { name := "bandMakes", fn := fun _ => fun
  | [d1, d2, d3] => { results := [.lit (.bool true)], args := [d1, d2, d3] }
  | _ => none }
def bandMakesRow : OpenClaim := { program := "ytomgpbhkoellpaadoor", sum := "e805c4e47a7b1ab97ccaaf685af2a7e605a9b05e3c6735b98335b32947c12876", func := "gutter/gutterlaw03.BandMakes", spec := "bandMakes", inPlace := ["internal/reflectlite.TypeOf"], unfollowed := true, recurses := true, named := ["gutter/band.errBand"], apart := false, laid := [("gutter/band.errBand", laid_gutter_band_errBand)] }
def BandMakesSaid : Prop := bandMakesRow.holds Tryd.pinned (OpenSpec.ofChange bandMakesSpec)

/-- ITS FALSE NEIGHBOUR: 'it returns false'. Refute it at one input. -/
def bandMakesWrong : ChangeSpec := { name := "bandMakes", fn := fun _ => fun
  | [d1, d2, d3] => { results := [.lit (.bool false)], args := [d1, d2, d3] }
  | _ => none }
def BandMakesWrongFalsely : Prop := bandMakesRow.holds Tryd.pinned (OpenSpec.ofChange bandMakesWrong)

/-- 'gutterlaw03.BandFirst': WHATEVER THE INPUT: true; the input reads as it did. -/
def bandFirstSpec : ChangeSpec := { name := "bandFirst", fn := fun _ => fun
  | [d1, d2] => { results := [.lit (.bool true)], args := [d1, d2] }
  | _ => none }
def bandFirstRow : OpenClaim := { program := "ytomgpbhkoellpaadoor", sum := "e805c4e47a7b1ab97ccaaf685af2a7e605a9b05e3c6735b98335b32947c12876", func := "gutter/gutterlaw03.BandFirst", spec := "bandFirst", inPlace := ["internal/reflectlite.TypeOf"], unfollowed := true, recurses := true, named := ["gutter/band.errBand"], apart := false, laid := [("gutter/band.errBand", laid_gutter_band_errBand)] }
def BandFirstSaid : Prop := bandFirstRow.holds Tryd.pinned (OpenSpec.ofChange bandFirstSpec)

/-- ITS FALSE NEIGHBOUR: 'it returns false'. Refute it at one input. -/
def bandFirstWrong : ChangeSpec := { name := "bandFirst", fn := fun _ => fun
  | [d1, d2] => { results := [.lit (.bool false)], args := [d1, d2] }
  | _ => none }
def BandFirstWrongFalsely : Prop := bandFirstRow.holds Tryd.pinned (OpenSpec.ofChange bandFirstWrong)

/-- 'gutterlaw03.BandTells': WHATEVER THE INPUT: true; the input reads as it did. -/
def bandTellsSpec : ChangeSpec := { name := "bandTells", fn := fun _ => fun
  | [d1, d2, d3] => { results := [.lit (.bool true)], args := [d1, d2, d3] }
  | _ => none }
def bandTellsRow : OpenClaim := { program := "ytomgpbhkoellpaadoor", sum := "e805c4e47a7b1ab97ccaaf685af2a7e605a9b05e3c6735b98335b32947c12876", func := "gutter/gutterlaw03.BandTells", spec := "bandTells", inPlace := ["internal/reflectlite.TypeOf"], unfollowed := true, recurses := true, named := ["gutter/band.errBand"], apart := false, laid := [("gutter/band.errBand", laid_gutter_band_errBand)] }
def BandTellsSaid : Prop := bandTellsRow.holds Tryd.pinned (OpenSpec.ofChange bandTellsSpec)

/-- ITS FALSE NEIGHBOUR: 'it returns false'. Refute it at one input. -/
def bandTellsWrong : ChangeSpec := { name := "bandTells", fn := fun _ => fun
  | [d1, d2, d3] => { results := [.lit (.bool false)], args := [d1, d2, d3] }
  | _ => none }
def BandTellsWrongFalsely : Prop := bandTellsRow.holds Tryd.pinned (OpenSpec.ofChange bandTellsWrong)

/-- 'gutterlaw03.BandTurns': WHATEVER THE INPUT: true; the input reads as it did. -/
def bandTurnsSpec : ChangeSpec := { name := "bandTurns", fn := fun _ => fun
  | [d1, d2, d3] => { results := [.lit (.bool true)], args := [d1, d2, d3] }
  | _ => none }
def bandTurnsRow : OpenClaim := { program := "ytomgpbhkoellpaadoor", sum := "e805c4e47a7b1ab97ccaaf685af2a7e605a9b05e3c6735b98335b32947c12876", func := "gutter/gutterlaw03.BandTurns", spec := "bandTurns", inPlace := ["internal/reflectlite.TypeOf"], unfollowed := true, recurses := true, named := ["gutter/band.errBand"], apart := false, laid := [("gutter/band.errBand", laid_gutter_band_errBand)] }
def BandTurnsSaid : Prop := bandTurnsRow.holds Tryd.pinned (OpenSpec.ofChange bandTurnsSpec)

/-- ITS FALSE NEIGHBOUR: 'it returns false'. Refute it at one input. -/
def bandTurnsWrong : ChangeSpec := { name := "bandTurns", fn := fun _ => fun
  | [d1, d2, d3] => { results := [.lit (.bool false)], args := [d1, d2, d3] }
  | _ => none }
def BandTurnsWrongFalsely : Prop := bandTurnsRow.holds Tryd.pinned (OpenSpec.ofChange bandTurnsWrong)

/-- 'gutterlaw03.BandAgain': WHATEVER THE INPUT: true; the input reads as it did. -/
def bandAgainSpec : ChangeSpec := { name := "bandAgain", fn := fun _ => fun
  | [d1, d2] => { results := [.lit (.bool true)], args := [d1, d2] }
  | _ => none }
def bandAgainRow : OpenClaim := { program := "ytomgpbhkoellpaadoor", sum := "e805c4e47a7b1ab97ccaaf685af2a7e605a9b05e3c6735b98335b32947c12876", func := "gutter/gutterlaw03.BandAgain", spec := "bandAgain", inPlace := ["internal/reflectlite.TypeOf"], unfollowed := true, recurses := true, named := ["gutter/band.errBand"], apart := false, laid := [("gutter/band.errBand", laid_gutter_band_errBand)] }
def BandAgainSaid : Prop := bandAgainRow.holds Tryd.pinned (OpenSpec.ofChange bandAgainSpec)

/-- ITS FALSE NEIGHBOUR: 'it returns false'. Refute it at one input. -/
def bandAgainWrong : ChangeSpec := { name := "bandAgain", fn := fun _ => fun
  | [d1, d2] => { results := [.lit (.bool false)], args := [d1, d2] }
  | _ => none }
def BandAgainWrongFalsely : Prop := bandAgainRow.holds Tryd.pinned (OpenSpec.ofChange bandAgainWrong)

/-- 'gutterlaw03.BandSums': WHATEVER THE INPUT: true; the input reads as it did. -/
def bandSumsSpec : ChangeSpec := { name := "bandSums", fn := fun _ => fun
  | [d1, d2] => { results := [.lit (.bool true)], args := [d1, d2] }
  | _ => none }
def bandSumsRow : OpenClaim := { program := "ytomgpbhkoellpaadoor", sum := "e805c4e47a7b1ab97ccaaf685af2a7e605a9b05e3c6735b98335b32947c12876", func := "gutter/gutterlaw03.BandSums", spec := "bandSums", inPlace := ["internal/reflectlite.TypeOf"], unfollowed := true, recurses := true, named := ["gutter/band.errBand"], apart := false, laid := [("gutter/band.errBand", laid_gutter_band_errBand)] }
def BandSumsSaid : Prop := bandSumsRow.holds Tryd.pinned (OpenSpec.ofChange bandSumsSpec)

/-- ITS FALSE NEIGHBOUR: 'it returns false'. Refute it at one input. -/
def bandSumsWrong : ChangeSpec := { name := "bandSums", fn := fun _ => fun
  | [d1, d2] => { results := [.lit (.bool false)], args := [d1, d2] }
  | _ => none }
def BandSumsWrongFalsely : Prop := bandSumsRow.holds Tryd.pinned (OpenSpec.ofChange bandSumsWrong)

/-- 'gutterlaw03.BandBack': WHATEVER THE INPUT: true; the input reads as it did. -/
def bandBackSpec : ChangeSpec := { name := "bandBack", fn := fun _ => fun
  | [d1, d2] => { results := [.lit (.bool true)], args := [d1, d2] }
  | _ => none }
def bandBackRow : OpenClaim := { program := "ytomgpbhkoellpaadoor", sum := "e805c4e47a7b1ab97ccaaf685af2a7e605a9b05e3c6735b98335b32947c12876", func := "gutter/gutterlaw03.BandBack", spec := "bandBack", inPlace := ["internal/reflectlite.TypeOf"], unfollowed := true, recurses := true, named := ["gutter/band.errBand"], apart := false, laid := [("gutter/band.errBand", laid_gutter_band_errBand)] }
def BandBackSaid : Prop := bandBackRow.holds Tryd.pinned (OpenSpec.ofChange bandBackSpec)

/-- ITS FALSE NEIGHBOUR: 'it returns false'. Refute it at one input. -/
def bandBackWrong : ChangeSpec := { name := "bandBack", fn := fun _ => fun
  | [d1, d2] => { results := [.lit (.bool false)], args := [d1, d2] }
  | _ => none }
def BandBackWrongFalsely : Prop := bandBackRow.holds Tryd.pinned (OpenSpec.ofChange bandBackWrong)

/-- 'gutterlaw03.BandBoth': WHATEVER THE INPUT: true; the input reads as it did. -/
def bandBothSpec : ChangeSpec := { name := "bandBoth", fn := fun _ => fun
  | [d1, d2] => { results := [.lit (.bool true)], args := [d1, d2] }
  | _ => none }
def bandBothRow : OpenClaim := { program := "ytomgpbhkoellpaadoor", sum := "e805c4e47a7b1ab97ccaaf685af2a7e605a9b05e3c6735b98335b32947c12876", func := "gutter/gutterlaw03.BandBoth", spec := "bandBoth", inPlace := ["internal/reflectlite.TypeOf"], unfollowed := true, recurses := true, named := ["gutter/band.errBand"], apart := false, laid := [("gutter/band.errBand", laid_gutter_band_errBand)] }
def BandBothSaid : Prop := bandBothRow.holds Tryd.pinned (OpenSpec.ofChange bandBothSpec)

/-- ITS FALSE NEIGHBOUR: 'it returns false'. Refute it at one input. -/
def bandBothWrong : ChangeSpec := { name := "bandBoth", fn := fun _ => fun
  | [d1, d2] => { results := [.lit (.bool false)], args := [d1, d2] }
  | _ => none }
def BandBothWrongFalsely : Prop := bandBothRow.holds Tryd.pinned (OpenSpec.ofChange bandBothWrong)

/- THE SECOND FORM. 'bulk': how many values and letters a reading holds, each counted each time it is reached (what is shared counts as often as it is met; a slice's spare places count too). A statement '..UptoSaid' is the law's where the arguments, and the package variables that the reading takes, are together of bulk at most 1048576: NARROWER than '..Said'. Prove '..Said' where nothing that the law and all that it calls make is longer than what came in: it says more and counts as full. Else prove '..UptoSaid'. A law counts once. -/
mutual
def uptoBulk {H : Type} : DataW H → Nat
  | .lit (.string bytes) => bytes.length + 1
  | .lit _ => 1
  | .nil => 1
  | .ptr d => uptoBulk d + 1
  | .slice elems spare => uptoBulkAll elems + uptoBulkAll spare + 1
  | .agg parts => uptoBulkAll parts + 1
  | .iface _ d => uptoBulk d + 1
  | .map entries => uptoBulkEntries entries + 1
  | .held _ => 1
def uptoBulkAll {H : Type} : List (DataW H) → Nat
  | [] => 0
  | d :: r => uptoBulk d + uptoBulkAll r
def uptoBulkEntries {H : Type} : List (Lit × DataW H) → Nat
  | [] => 0
  | x :: r => uptoBulkEntry x + uptoBulkEntries r
def uptoBulkEntry {H : Type} : Lit × DataW H → Nat
  | (.string bytes, d) => bytes.length + uptoBulk d + 1
  | (_, d) => uptoBulk d + 1
 end
def uptoSmall : (H : Type) → List (DataW H) → Bool := fun _ ds => decide (uptoBulkAll ds ≤ 1048576)
def OpenSpec.upto (s : _root_.Go.ChangeSpec) : _root_.Go.OpenSpec := { _root_.Go.OpenSpec.ofChange s with cond := some uptoSmall }

/-- 'gutterlaw03.BandMakes', WHERE WHAT IT READS IS OF BULK AT MOST 1048576: true; the input reads as it did. -/
def bandMakesUptoRow : OpenClaim := { program := "ytomgpbhkoellpaadoor", sum := "e805c4e47a7b1ab97ccaaf685af2a7e605a9b05e3c6735b98335b32947c12876", func := "gutter/gutterlaw03.BandMakes", spec := "bandMakes", inPlace := ["internal/reflectlite.TypeOf"], unfollowed := true, recurses := true, named := ["gutter/band.errBand"], apart := false, laid := [("gutter/band.errBand", laid_gutter_band_errBand)], narrowed := true }
def BandMakesUptoSaid : Prop := bandMakesUptoRow.holds Tryd.pinned (OpenSpec.upto bandMakesSpec)

/-- 'gutterlaw03.BandFirst', WHERE WHAT IT READS IS OF BULK AT MOST 1048576: true; the input reads as it did. -/
def bandFirstUptoRow : OpenClaim := { program := "ytomgpbhkoellpaadoor", sum := "e805c4e47a7b1ab97ccaaf685af2a7e605a9b05e3c6735b98335b32947c12876", func := "gutter/gutterlaw03.BandFirst", spec := "bandFirst", inPlace := ["internal/reflectlite.TypeOf"], unfollowed := true, recurses := true, named := ["gutter/band.errBand"], apart := false, laid := [("gutter/band.errBand", laid_gutter_band_errBand)], narrowed := true }
def BandFirstUptoSaid : Prop := bandFirstUptoRow.holds Tryd.pinned (OpenSpec.upto bandFirstSpec)

/-- 'gutterlaw03.BandTells', WHERE WHAT IT READS IS OF BULK AT MOST 1048576: true; the input reads as it did. -/
def bandTellsUptoRow : OpenClaim := { program := "ytomgpbhkoellpaadoor", sum := "e805c4e47a7b1ab97ccaaf685af2a7e605a9b05e3c6735b98335b32947c12876", func := "gutter/gutterlaw03.BandTells", spec := "bandTells", inPlace := ["internal/reflectlite.TypeOf"], unfollowed := true, recurses := true, named := ["gutter/band.errBand"], apart := false, laid := [("gutter/band.errBand", laid_gutter_band_errBand)], narrowed := true }
def BandTellsUptoSaid : Prop := bandTellsUptoRow.holds Tryd.pinned (OpenSpec.upto bandTellsSpec)

/-- 'gutterlaw03.BandTurns', WHERE WHAT IT READS IS OF BULK AT MOST 1048576: true; the input reads as it did. -/
def bandTurnsUptoRow : OpenClaim := { program := "ytomgpbhkoellpaadoor", sum := "e805c4e47a7b1ab97ccaaf685af2a7e605a9b05e3c6735b98335b32947c12876", func := "gutter/gutterlaw03.BandTurns", spec := "bandTurns", inPlace := ["internal/reflectlite.TypeOf"], unfollowed := true, recurses := true, named := ["gutter/band.errBand"], apart := false, laid := [("gutter/band.errBand", laid_gutter_band_errBand)], narrowed := true }
def BandTurnsUptoSaid : Prop := bandTurnsUptoRow.holds Tryd.pinned (OpenSpec.upto bandTurnsSpec)

/-- 'gutterlaw03.BandAgain', WHERE WHAT IT READS IS OF BULK AT MOST 1048576: true; the input reads as it did. -/
def bandAgainUptoRow : OpenClaim := { program := "ytomgpbhkoellpaadoor", sum := "e805c4e47a7b1ab97ccaaf685af2a7e605a9b05e3c6735b98335b32947c12876", func := "gutter/gutterlaw03.BandAgain", spec := "bandAgain", inPlace := ["internal/reflectlite.TypeOf"], unfollowed := true, recurses := true, named := ["gutter/band.errBand"], apart := false, laid := [("gutter/band.errBand", laid_gutter_band_errBand)], narrowed := true }
def BandAgainUptoSaid : Prop := bandAgainUptoRow.holds Tryd.pinned (OpenSpec.upto bandAgainSpec)

/-- 'gutterlaw03.BandSums', WHERE WHAT IT READS IS OF BULK AT MOST 1048576: true; the input reads as it did. -/
def bandSumsUptoRow : OpenClaim := { program := "ytomgpbhkoellpaadoor", sum := "e805c4e47a7b1ab97ccaaf685af2a7e605a9b05e3c6735b98335b32947c12876", func := "gutter/gutterlaw03.BandSums", spec := "bandSums", inPlace := ["internal/reflectlite.TypeOf"], unfollowed := true, recurses := true, named := ["gutter/band.errBand"], apart := false, laid := [("gutter/band.errBand", laid_gutter_band_errBand)], narrowed := true }
def BandSumsUptoSaid : Prop := bandSumsUptoRow.holds Tryd.pinned (OpenSpec.upto bandSumsSpec)

/-- 'gutterlaw03.BandBack', WHERE WHAT IT READS IS OF BULK AT MOST 1048576: true; the input reads as it did. -/
def bandBackUptoRow : OpenClaim := { program := "ytomgpbhkoellpaadoor", sum := "e805c4e47a7b1ab97ccaaf685af2a7e605a9b05e3c6735b98335b32947c12876", func := "gutter/gutterlaw03.BandBack", spec := "bandBack", inPlace := ["internal/reflectlite.TypeOf"], unfollowed := true, recurses := true, named := ["gutter/band.errBand"], apart := false, laid := [("gutter/band.errBand", laid_gutter_band_errBand)], narrowed := true }
def BandBackUptoSaid : Prop := bandBackUptoRow.holds Tryd.pinned (OpenSpec.upto bandBackSpec)

/-- 'gutterlaw03.BandBoth', WHERE WHAT IT READS IS OF BULK AT MOST 1048576: true; the input reads as it did. -/
def bandBothUptoRow : OpenClaim := { program := "ytomgpbhkoellpaadoor", sum := "e805c4e47a7b1ab97ccaaf685af2a7e605a9b05e3c6735b98335b32947c12876", func := "gutter/gutterlaw03.BandBoth", spec := "bandBoth", inPlace := ["internal/reflectlite.TypeOf"], unfollowed := true, recurses := true, named := ["gutter/band.errBand"], apart := false, laid := [("gutter/band.errBand", laid_gutter_band_errBand)], narrowed := true }
def BandBothUptoSaid : Prop := bandBothUptoRow.holds Tryd.pinned (OpenSpec.upto bandBothSpec)

end Rows
end Go.Proofs.YtomgpbhkoellpaaDoor
