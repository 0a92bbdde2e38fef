/- What the rows share: what the listed variables hold; a start that fits; a slice of atoms, or of columns, that comes in, as a list. Conditions: none. -/
import Derived.Test.YtjpifknencfipaaDoorRows
import Derived.Test.YtjpifknencfipaaDoorP
import Derived.Stop.LaidErr
import Derived.LaidHandle
import Derived.Lay
import Derived.Handed
import Derived.Plain9
import Derived.Deep.Slices
import Derived.Deep.Fields
import Derived.ChangeSame
import Derived.Carry
set_option linter.unusedVariables false
set_option linter.unusedSimpArgs false
namespace Go.Proofs.YtjpifknencfipaaDoor.R
open Go.RowKit Go.ChangeShapes Go.WideShapes Go.Deep Go.Proofs.YtjpifknencfipaaDoorW.PrintWords Go.Proofs.YtjpifknencfipaaDoor.P

theorem gF : Tryd.prog.globalNamed "gutter/fill.errFill" = some 2 := by kernel_rfl
theorem gB : Tryd.prog.globalNamed "gutter/balance.errBalance" = some 0 := by kernel_rfl
theorem gR : Tryd.prog.globalNamed "gutter/row.errRow" = some 1 := by kernel_rfl
theorem tF : (Tryd.prog.globals[2]?).map (·.type) = some 83 := by kernel_rfl
theorem tB : (Tryd.prog.globals[0]?).map (·.type) = some 83 := by kernel_rfl
theorem tR : (Tryd.prog.globals[1]?).map (·.type) = some 83 := by kernel_rfl
theorem star : "*" ++ "errors.errorString" = "*errors.errorString" := by decide
theorem row186 (u : TypeId) (h : Tryd.prog.typeName? 3 u = some "*errors.errorString") : u = 186 :=
  typeName_ptr_named (nm := "errors.errorString") (by rw [star]; kernel_rfl) (by kernel_rfl) (by decide) u (by rw [star]; exact h)
theorem cellsS : Tryd.prog.cellsOf 211 = 1 := by kernel_rfl
theorem cellsStr : Tryd.prog.cellsOf 9 = 1 := by kernel_rfl

abbrev L1 : List (String × DataW Unit) := [("gutter/fill.errFill", Rows.laid_gutter_fill_errFill)]
abbrev L2 : List (String × DataW Unit) := [("gutter/fill.errFill", Rows.laid_gutter_fill_errFill), ("gutter/balance.errBalance", Rows.laid_gutter_balance_errBalance)]
abbrev L3 : List (String × DataW Unit) := [("gutter/fill.errFill", Rows.laid_gutter_fill_errFill), ("gutter/balance.errBalance", Rows.laid_gutter_balance_errBalance), ("gutter/row.errRow", Rows.laid_gutter_row_errRow)]

theorem sent_of {n : String} {text : List UInt8} {r : List (String × DataW Unit)} {W : World} {g : Nat} (h : laidMet Tryd.prog ((n, .iface "*errors.errorString" (.ptr (.agg [.lit (.string text)]))) :: r) W) (hg : Tryd.prog.globalNamed n = some g) (ht : (Tryd.prog.globals[g]?).map (·.type) = some 83) : Sent g W := by
  obtain ⟨a, s, hv, _, _, _⟩ := laid_sentinel h hg ht Tryd.underlying83 row186 Tryd.underlying186 Tryd.underlying211 rfl rfl Tryd.underlying9 cellsS cellsStr
  exact ⟨a, by simpa using World.var?_cell hg hv 0⟩
theorem gl1 {W : World} (h : laidMetH Tryd.prog L1 W) : Gl 1 W := by
  have h' : laidMet Tryd.prog L1 W := h
  exact ⟨sent_of h' gF tF, fun e => absurd e (by decide), fun e => absurd e (by decide)⟩
theorem gl2 {W : World} (h : laidMetH Tryd.prog L2 W) : Gl 2 W := by
  have h' : laidMet Tryd.prog L2 W := h
  exact ⟨sent_of h' gF tF, fun _ => sent_of h'.tail gB tB, fun e => absurd e (by decide)⟩
theorem gl3 {W : World} (h : laidMetH Tryd.prog L3 W) : Gl 3 W := by
  have h' : laidMet Tryd.prog L3 W := h
  exact ⟨sent_of h' gF tF, fun _ => sent_of h'.tail gB tB, fun _ => sent_of h'.tail.tail gR tR⟩

theorem met1 (os : Os) (args : Array Value) : laidMetH Tryd.prog L1 ((World.laidAll Tryd.prog os L1).forCall (fun _ _ => 0) ⟨#[], args, []⟩).memory := laidMet_laidAll (laid := L1) args (by kernel_rfl) (by kernel_rfl)
theorem met2 (os : Os) (args : Array Value) : laidMetH Tryd.prog L2 ((World.laidAll Tryd.prog os L2).forCall (fun _ _ => 0) ⟨#[], args, []⟩).memory := laidMet_laidAll (laid := L2) args (by kernel_rfl) (by kernel_rfl)
theorem met3 (os : Os) (args : Array Value) : laidMetH Tryd.prog L3 ((World.laidAll Tryd.prog os L3).forCall (fun _ _ => 0) ⟨#[], args, []⟩).memory := laidMet_laidAll (laid := L3) args (by kernel_rfl) (by kernel_rfl)

theorem own : ownKnob Tryd.prog.godebug = none := by kernel_rfl
theorem laidOut : laidOutB Tryd.prog = true := by kernel_rfl

section
variable {H : Type} {enc : TypeId × Value → H} {P : Program} {w : World} {base : Nat} {spare : Nat → Bool} {held : Bool}
theorem open_slice_fields {t e : TypeId} {fs : Array Field} {fuel : Nat} {cs : List Value} {x : DataW H × List MemPlace} (ht : P.underlying t = some (.slice e)) (he : P.underlying e = some (.struct fs))
    (hone : oneCellFields P fs = true) (hC : P.cellsOf e = fs.size) (h : DataW.trod enc P w base spare held fuel t cs = some x) :
    (cs = [.slice none 0 0] ∧ x = (.nil, [])) ∨
    ∃ (a : Addr) (len cap m : Nat) (D : Nat → DataW H) (Pl : Nat → List MemPlace), cs = [.slice (some a) len cap] ∧ base ≤ a.block ∧ len ≤ cap ∧ cap ≤ maxLen ∧ m = (if spare a.block then cap else len) ∧
      x = (.slice ((List.range len).map D) ((List.range (m - len)).map fun j => D (len + j)), MemPlace.row a (m * fs.size) ++ (List.range m).flatMap Pl) ∧
      ∀ i, i < m → ∃ (ys : List (DataW H × List MemPlace)) (n : Nat), D i = .agg (ys.map (·.1)) ∧ Pl i = ys.flatMap (·.2) ∧ ys.length = fs.size ∧
        ∀ (j : Nat) (f : Field), fs[j]? = some f → ∃ (v : Value) (y : DataW H × List MemPlace), w.cell? (a.add (i * fs.size + j)) = some v ∧ ys[j]? = some y ∧ DataW.trod enc P w base spare held n f.type [v] = some y := by
  rcases open_slice ht h with h0 | ⟨a, len, cap, m, n, D, Pl, hcs, hb, hl, hm, hmm, hx, hi⟩
  · exact .inl h0
  · refine .inr ⟨a, len, cap, m, D, Pl, hcs, hb, hl, hm, hmm, by rw [hC] at hx; exact hx, fun i him => ?_⟩
    obtain ⟨cs', hc, ht'⟩ := hi i him
    rw [hC] at hc
    obtain ⟨ys, n', hn', hy, hlen, hyl, hf⟩ := DataW.trod_struct he ht'
    obtain ⟨_, hcl, hat⟩ := World.cells?_some hc
    simp only [Prod.mk.injEq] at hy
    refine ⟨ys, n', hy.1, hy.2, hyl, fun j f hj => ?_⟩
    obtain ⟨ho, hk⟩ := hone_of hone j f hj
    have hjl : j < fs.size := (Array.getElem?_eq_some_iff.1 hj).1
    have hcell := hat j hjl
    have hv : cs'[j]? = some (cs'[j]'(by omega)) := List.getElem?_eq_getElem (by omega)
    have h1 := hf j f hj
    rw [ho, hk] at h1
    have hone' : (cs'.drop j).take 1 = [cs'[j]'(by omega)] := by
      rw [List.drop_eq_getElem_cons (by omega)]
      rfl
    rw [hone'] at h1
    have hys : ys[j]? = some (ys[j]'(by omega)) := List.getElem?_eq_getElem (by omega)
    refine ⟨_, _, ?_, hys, h1.trans hys⟩
    rw [← Go.Deep.add_add, hcell, hv]
end

section
variable {H : Type} {enc : TypeId × Value → H} {W : World} {sp : Nat → Bool} {held : Bool}
/-- A slice of atoms that comes in: a list. -/
theorem atoms_in {A : Option Addr} {len cap : Nat} {d : DataW H} {p : List MemPlace} (h : DataW.Trod enc Tryd.prog W 0 sp held 22 (.slice A len cap) d p) : ∃ l : List S32, l.length = len ∧ len ≤ cap ∧ Kd.C k32 W A len l := by
  obtain ⟨fuel, hf⟩ := h
  rcases open_slice_fields Tryd.underlying22 Tryd.underlying32 (by kernel_rfl) (by kernel_rfl) hf with ⟨hcs, _⟩ | ⟨a, l, c, m, D, Pl, hcs, _, hl, hm, hmm, _, hi⟩
  · simp [Value.cells] at hcs
    obtain ⟨rfl, rfl, rfl⟩ := hcs
    exact ⟨[], rfl, Nat.le_refl _, rfl, by omega, fun e => absurd e (by omega)⟩
  · simp [Value.cells] at hcs
    obtain ⟨rfl, rfl, rfl⟩ := hcs
    have hx : ∀ i : Nat, ∃ x : S32, i < len → ∀ j u, [Value.int .i64 x.f0, .int .i64 x.f1, .int .i64 x.f2, .int .i64 x.f3, .int .i64 x.f4][j]? = some u → W.cell? (a.add (i * 5 + j)) = some u := by
      intro i
      by_cases hil : i < len
      · obtain ⟨ys, n, _, _, _, hf⟩ := hi i (by rw [hmm]; split <;> omega)
        obtain ⟨v0, y0, c0, _, t0⟩ := hf 0 _ rfl
        obtain ⟨v1, y1, c1, _, t1⟩ := hf 1 _ rfl
        obtain ⟨v2, y2, c2, _, t2⟩ := hf 2 _ rfl
        obtain ⟨v3, y3, c3, _, t3⟩ := hf 3 _ rfl
        obtain ⟨v4, y4, c4, _, t4⟩ := hf 4 _ rfl
        obtain ⟨n0, e0, _, _⟩ := DataW.trod_int Tryd.underlying3 t0
        obtain ⟨n1, e1, _, _⟩ := DataW.trod_int Tryd.underlying3 t1
        obtain ⟨n2, e2, _, _⟩ := DataW.trod_int Tryd.underlying2 t2
        obtain ⟨n3, e3, _, _⟩ := DataW.trod_int Tryd.underlying2 t3
        obtain ⟨n4, e4, _, _⟩ := DataW.trod_int Tryd.underlying3 t4
        cases e0; cases e1; cases e2; cases e3; cases e4
        refine ⟨⟨n0, n1, n2, n3, n4⟩, fun _ j u hj => ?_⟩
        match j, hj with
        | 0, hj => cases hj; exact c0
        | 1, hj => cases hj; exact c1
        | 2, hj => cases hj; exact c2
        | 3, hj => cases hj; exact c3
        | 4, hj => cases hj; exact c4
      · exact ⟨z32, fun h => absurd h hil⟩
    obtain ⟨X, hX⟩ := Classical.axiomOfChoice hx
    refine ⟨(List.range len).map X, by simp, hl, by simp, by unfold maxLen at hm; omega, fun _ => ⟨a, rfl, fun j p hj => ?_⟩⟩
    have hjl : j < len := by
      have := (List.getElem?_eq_some_iff.1 hj).1
      simpa using this
    rw [List.getElem?_map, List.getElem?_range hjl] at hj
    obtain rfl : X j = p := by simpa using hj
    exact ⟨_, rfl, k32_mk W (X j), fun i u hu => hX j hjl i u hu⟩

/-- A slice of columns that comes in. -/
theorem cols_in {A : Option Addr} {len cap : Nat} {d : DataW H} {p : List MemPlace} (h : DataW.Trod enc Tryd.prog W 0 sp held 69 (.slice A len cap) d p) : ∃ l : List S73, l.length = len ∧ len ≤ cap ∧ Kd.C k73 W A len l := by
  obtain ⟨fuel, hf⟩ := h
  rcases open_slice_fields Tryd.underlying69 Tryd.underlying73 (by kernel_rfl) (by kernel_rfl) hf with ⟨hcs, _⟩ | ⟨a, l, c, m, D, Pl, hcs, _, hl, hm, hmm, _, hi⟩
  · simp [Value.cells] at hcs
    obtain ⟨rfl, rfl, rfl⟩ := hcs
    exact ⟨[], rfl, Nat.le_refl _, rfl, by omega, fun e => absurd e (by omega)⟩
  · simp [Value.cells] at hcs
    obtain ⟨rfl, rfl, rfl⟩ := hcs
    have hx : ∀ i : Nat, ∃ x : S73, i < len → ∀ j u, [Value.int .i64 x.f0, .int .i64 x.f1, .int .i64 x.f2][j]? = some u → W.cell? (a.add (i * 3 + j)) = some u := by
      intro i
      by_cases hil : i < len
      · obtain ⟨ys, n, _, _, _, hf⟩ := hi i (by rw [hmm]; split <;> omega)
        obtain ⟨v0, y0, c0, _, t0⟩ := hf 0 _ rfl
        obtain ⟨v1, y1, c1, _, t1⟩ := hf 1 _ rfl
        obtain ⟨v2, y2, c2, _, t2⟩ := hf 2 _ rfl
        obtain ⟨n0, e0, _, _⟩ := DataW.trod_int Tryd.underlying3 t0
        obtain ⟨n1, e1, _, _⟩ := DataW.trod_int Tryd.underlying3 t1
        obtain ⟨n2, e2, _, _⟩ := DataW.trod_int Tryd.underlying2 t2
        cases e0; cases e1; cases e2
        refine ⟨⟨n0, n1, n2⟩, fun _ j u hj => ?_⟩
        match j, hj with
        | 0, hj => cases hj; exact c0
        | 1, hj => cases hj; exact c1
        | 2, hj => cases hj; exact c2
      · exact ⟨⟨0, 0, 0⟩, fun h => absurd h hil⟩
    obtain ⟨X, hX⟩ := Classical.axiomOfChoice hx
    refine ⟨(List.range len).map X, by simp, hl, by simp, by unfold maxLen at hm; omega, fun _ => ⟨a, rfl, fun j p hj => ?_⟩⟩
    have hjl : j < len := by
      have := (List.getElem?_eq_some_iff.1 hj).1
      simpa using this
    rw [List.getElem?_map, List.getElem?_range hjl] at hj
    obtain rfl : X j = p := by simpa using hj
    exact ⟨_, rfl, k73_mk W (X j), fun i u hu => hX j hjl i u hu⟩
end

end Go.Proofs.YtjpifknencfipaaDoor.R
