/- What fill's columns are, in plain Lean: heights by prefix sums, where a column ends, all columns, the next height, all heights. Conditions: none (definitions and facts on lists and whole numbers alone). -/
import Derived.Test.YtjpifknencfipaaDoorP
set_option linter.unusedVariables false
namespace Go.Proofs.YtjpifknencfipaaDoor.P
open Go.RowKit

/-! ### Atoms -/
def atA (l : List S32) (i : Nat) : S32 := l.getD i z32
def hhA (l : List S32) (i : Nat) : Int := (atA l i).f2
def spA (l : List S32) (i : Nat) : Int := (atA l i).f3
def bkA (l : List S32) (i : Nat) : Int := (atA l i).f4
def stA (l : List S32) (i : Nat) : Int := spA l i + hhA l i
/-- All steps up to an atom. -/
def preA (l : List S32) : Nat → Int
  | 0 => 0
  | n + 1 => preA l n + stA l n
/-- How high atoms a to b are (b without). -/
def hiA (l : List S32) (a b : Nat) : Int := preA l b - preA l a - spA l a
/-- High of all. -/
def allA (l : List S32) : Int := if l.length = 0 then 0 else hiA l 0 l.length

/-- An atom that is right. -/
def okA (x : S32) : Prop := 1 ≤ x.f2 ∧ x.f2 ≤ 1073741824 ∧ 0 ≤ x.f3 ∧ x.f3 ≤ 1048576 ∧ 0 ≤ x.f0 ∧ x.f0 < 200 ∧ 0 ≤ x.f1 ∧ 0 ≤ x.f4 ∧ x.f4 ≤ 2
instance (x : S32) : Decidable (okA x) := by unfold okA; infer_instance
def rightA (l : List S32) : Bool := decide (∀ x ∈ l, okA x) && decide (l.length ≤ 2000)

/-! ### Where a column ends -/
/-- From atom i on, n atoms being left: the first one that stops a column that began at a, and whether it stops it for its height. -/
def scanA (l : List S32) (h : Int) (a : Nat) : Nat → Nat → Nat × Bool
  | 0, i => (i, false)
  | n + 1, i => if bkA l i = 2 then (i, false) else if hiA l a (i + 1) > h then (i, true) else scanA l h a n (i + 1)
/-- The last atom at or ahead of one, behind a, ahead of which there may be a break; d, if there is none. -/
def backA (l : List S32) (a d : Nat) : Nat → Nat
  | 0 => d
  | k + 1 => if k + 1 ≤ a then d else if bkA l (k + 1) = 0 then k + 1 else backA l a d k
/-- Where the column that begins at a ends; the atom that was too much (0: none was). -/
def endA (l : List S32) (h : Int) (a : Nat) : Nat × Nat :=
  let s := scanA l h a (l.length - (a + 1)) (a + 1)
  if s.2 = true then (backA l a s.1 s.1, s.1) else (s.1, 0)

/-- A column: from, to, the atom that was too much. -/
structure ColA where
  a : Nat
  b : Nat
  o : Nat
def colA (l : List S32) (h : Int) (a : Nat) : ColA := ⟨a, (endA l h a).1, (endA l h a).2⟩
def colsA (l : List S32) (h : Int) : Nat → Nat → List ColA
  | 0, _ => []
  | n + 1, a => if a < l.length then colA l h a :: colsA l h n (endA l h a).1 else []
def fillA (l : List S32) (h : Int) : List ColA := colsA l h l.length 0
def ColA.out (l : List S32) (c : ColA) : S73 := ⟨c.a, c.b, hiA l c.a c.b⟩
def ColA.over (l : List S32) (c : ColA) : Int := if c.o = 0 then 0 else hiA l c.a (c.o + 1)
/-- The next height: the least of what was too much; 0, if nothing was. -/
def leastA (l : List S32) : Int → List ColA → Int
  | n, [] => n
  | n, c :: cs => leastA l (if c.over l ≠ 0 ∧ (n = 0 ∨ c.over l < n) then c.over l else n) cs
def shortA (l : List S32) (h : Int) : Int := leastA l 0 (fillA l h)

/-! ### All heights -/
def insA (x : Int) : List Int → List Int
  | [] => [x]
  | y :: ys => if x < y then x :: y :: ys else if x = y then y :: ys else y :: insA x ys
/-- The heights of atoms a to b, for b from a + 1 on, n of them. -/
def runsA (l : List S32) (a : Nat) : Nat → List Int
  | 0 => []
  | n + 1 => runsA l a n ++ [hiA l a (a + n + 1)]
def pairsA (l : List S32) : Nat → List Int
  | 0 => []
  | n + 1 => pairsA l n ++ runsA l n (l.length - n)
def heightsA (l : List S32) : List Int := (pairsA l l.length).foldl (fun t x => insA x t) [0]

/-! ### What the Go functions answer -/
def badSizeA (a : Int) : Bool := decide (a < 0) || decide (1048576 < a)
def atom_areSizes.f (l0 : List Int) : Option Bool := some (!l0.any badSizeA)
def clampA (a : Int) : Int := max (-1099511627776) (min a 1099511627776)
def cutA (x : S32) : S32 := ⟨x.f0, x.f1, clampA x.f2, clampA x.f3, x.f4⟩
def gutterlaw13_Few.f (l0 : List S32) : Option (List S32) := some ((l0.take 150).map cutA)
def moveA (x y : Int) (f : S58) : S58 := ⟨f.f0, f.f1, f.f2, ⟨wrap64 (f.f3.f0 + x), wrap64 (f.f3.f1 + y), f.f3.f2, f.f3.f3⟩⟩
def gutterref17_Move.f (l0 : List S58) (a1 : Int) (a2 : Int) : Option (List S58) := if l0.length ≤ 1000 then some (l0.map (moveA a1 a2)) else none
def row_moved.f (a0 : Int) (a1 : Int) (l2 : List S58) : Option (List S58) := if l2.length ≤ 1000 then some (l2.map (moveA a0 a1)) else none
def fineA (l : List S32) (h : Int) : Bool := rightA l && decide (0 ≤ h) && decide (h ≤ 2199023255552)
def fill_Fill.f (l0 : List S32) (a1 : Int) : Option (List S73 × Int) :=
  if fineA l0 a1 = true then some ((fillA l0 a1).map (ColA.out l0), 0) else some ([], 130)
def fill_Short.f (l0 : List S32) (a1 : Int) : Option (Int × Bool × Int) :=
  if fineA l0 a1 = true then some (shortA l0 a1, decide (0 < shortA l0 a1), 0) else some (0, false, 130)
def fill_Heights.f (l0 : List S32) : Option (List Int × Int) :=
  if rightA l0 = true ∧ l0.length ≤ 200 then some (heightsA l0, 0) else some ([], 130)
def gutterref14_Heights.f (l0 : List S32) : Option (List Int × Int) :=
  if rightA l0 = true ∧ l0.length ≤ 200 then some (heightsA l0, 0) else some ([], 130)

/-! ### Balancing -/
def numA (l : List S32) (h : Int) : Int := if fineA l h = true then ((fillA l h).length : Int) else 0
def tallA (l : List S32) : Int := l.foldl (fun n x => max n x.f2) 0
def sumA (l : List S32) : Int := (l.map (·.f2)).foldl (· + ·) 0
def openA (l : List S32) (n : Int) : Bool := rightA l && decide (l.length ≤ 200) && decide (1 ≤ n) && decide (n ≤ 50)
def targetA (l : List S32) (n : Int) : Int := max n (numA l (allA l))
def beginA (l : List S32) (n : Int) : Int := max (tallA l) ((sumA l + targetA l n - 1) / targetA l n)
/-- From a height on, n passes being left, i of them gone: where the search ends, in how many passes; none: it doesn't. -/
def searchA (l : List S32) (t : Int) : Nat → Nat → Int → Option (Int × Nat)
  | 0, _, _ => none
  | n + 1, i, h => if numA l h ≤ t then some (h, i + 1) else searchA l t n (i + 1) (if fineA l h = true then shortA l h else 0)
def leastBA (l : List S32) (n budget : Int) : Int × Int × Bool :=
  match searchA l (targetA l n) budget.toNat 0 (beginA l n) with
  | some (h, i) => (h, i, true)
  | none => (allA l, budget, false)
def balance_Target.f (l0 : List S32) (a1 : Int) : Option (Int × Int) :=
  if openA l0 a1 = true then some (targetA l0 a1, 0) else some (0, 140)
def balance_Begin.f (l0 : List S32) (a1 : Int) : Option (Int × Int) :=
  if openA l0 a1 = true then some (beginA l0 a1, 0) else some (0, 140)
def budA (b : Int) : Bool := decide (1 ≤ b) && decide (b ≤ 1000)
def balance_Least.f (l0 : List S32) (a1 : Int) (a2 : Int) : Option (Int × Int × Bool × Int) :=
  if (openA l0 a1 && budA a2) = true then some ((leastBA l0 a1 a2).1, (leastBA l0 a1 a2).2.1, (leastBA l0 a1 a2).2.2, 0) else some (0, 0, false, 140)
def lowA (h avail : Int) : Int := if 0 < avail then min h avail else h
def balance_Balance.f (l0 : List S32) (a1 : Int) (a2 : Int) (a3 : Int) : Option (Int × Int × Int × Bool × Int) :=
  if (openA l0 a1 && budA a3 && decide (0 ≤ a2) && decide (a2 ≤ 2199023255552)) = true then
    some (lowA (leastBA l0 a1 a3).1 a2, numA l0 (lowA (leastBA l0 a1 a3).1 a2), (leastBA l0 a1 a3).2.1, (leastBA l0 a1 a3).2.2, 0)
  else some (0, 0, 0, false, 140)

/-! ### A row -/
def fragA (l : List S32) (w gap : Int) (i : Nat) (a k : Nat) : S58 :=
  ⟨(atA l k).f0, (atA l k).f1, i, ⟨i * (w + gap), hiA l a (k + 1) - hhA l k, w, hhA l k⟩⟩
def fragsA (l : List S32) (w gap : Int) (i : Nat) (a : Nat) : Nat → List S58
  | 0 => []
  | n + 1 => fragsA l w gap i a n ++ [fragA l w gap i a (a + n)]
def rowA (l : List S32) (w gap : Int) : Nat → List ColA → List S58
  | _, [] => []
  | i, c :: cs => fragsA l w gap i c.a (c.b - c.a) ++ rowA l w gap (i + 1) cs
def sizeA (a : Int) : Bool := decide (0 ≤ a) && decide (a ≤ 1048576)
def layOkA (l : List S32) (n w gap avail : Int) : Bool := openA l n && sizeA w && sizeA gap && decide (0 ≤ avail) && decide (avail ≤ 1099511627776)
def rowHA (l : List S32) (n avail : Int) (auto : Bool) : Int := if auto = true ∧ 0 < avail then avail else lowA (leastBA l n 1000).1 avail
def row_Lay.f (l0 : List S32) (a1 : Int) (a2 : Int) (a3 : Int) (a4 : Int) (a5 : Bool) : Option (Int × Int × List S58 × Int) :=
  if layOkA l0 a1 a2 a3 a4 = true then
    some (rowHA l0 a1 a4 a5, ((fillA l0 (rowHA l0 a1 a4 a5)).length : Int), rowA l0 a2 a3 0 (fillA l0 (rowHA l0 a1 a4 a5)), 0)
  else some (0, 0, [], 160)

end Go.Proofs.YtjpifknencfipaaDoor.P
