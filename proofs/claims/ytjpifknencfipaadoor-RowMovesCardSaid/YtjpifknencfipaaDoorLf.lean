/- A slice of pieces that comes in, as a list. Conditions: none. · What the laws of moved pieces share, in plain Lean: the first one hundred pieces, pieces that are moved, which are the same. Conditions: none. -/
import Derived.Test.YtjpifknencfipaaDoorRw
import Derived.Test.YtjpifknencfipaaDoorLr
import Derived.Test.YtjpifknencfipaaDoorP52
set_option linter.unusedVariables false
set_option linter.unusedSimpArgs false
namespace Go.Proofs.YtjpifknencfipaaDoor.R
open Go.RowKit Go.ChangeShapes Go.WideShapes Go.Deep Go.Proofs.YtjpifknencfipaaDoorW.PrintWords Go.Proofs.YtjpifknencfipaaDoor.P

section
variable {H : Type} {enc : TypeId × Value → H} {W : World} {sp : Nat → Bool} {held : Bool}
theorem cells58 : Tryd.prog.cellsOf 58 = 7 := by kernel_rfl
theorem cells56 : Tryd.prog.cellsOf 56 = 4 := by kernel_rfl
theorem cells2 : Tryd.prog.cellsOf 2 = 1 := by kernel_rfl
theorem cells3 : Tryd.prog.cellsOf 3 = 1 := by kernel_rfl
theorem take_one {l : List Value} {k : Nat} {v : Value} (h : (l.drop k).take 1 = [v]) : l[k]? = some v := by
  have h1 : ((l.drop k).take 1)[0]? = some v := by rw [h]; rfl
  rw [List.getElem?_take_of_lt (by omega), List.getElem?_drop] at h1
  simpa using h1
set_option maxRecDepth 100000 in
theorem rect_in {n base : Nat} {cs : List Value} {x : DataW H × List MemPlace} (h : DataW.trod enc Tryd.prog W base sp held n 56 cs = some x) : ∃ r : S56, cs = [.int .i64 r.f0, .int .i64 r.f1, .int .i64 r.f2, .int .i64 r.f3] := by
  obtain ⟨ys, m, _, _, hl, h4, hf⟩ := DataW.trod_struct Tryd.underlying56 h
  rw [cells56] at hl
  match cs, hl with
  | [a, b, c, d], _ =>
    have t0 := hf 0 _ rfl
    have t1 := hf 1 _ rfl
    have t2 := hf 2 _ rfl
    have t3 := hf 3 _ rfl
    have hs : ∀ k, k < 4 → (ys[k]?).isSome = true := fun k hk => by
      have h4' : ys.length = 4 := h4
      rw [List.getElem?_eq_getElem (by omega)]
      rfl
    have g : ∀ {k : Nat} {l : List Value}, k < 4 → DataW.trod enc Tryd.prog W base sp held m 2 l = ys[k]? → ∃ z, l = [.int .i64 z] := fun {k l} hk hx => by
      obtain ⟨y, hy⟩ := Option.isSome_iff_exists.1 (hs k hk)
      rw [hy] at hx
      obtain ⟨z, e, _, _⟩ := DataW.trod_int Tryd.underlying2 hx
      exact ⟨z, e⟩
    have t0' : DataW.trod enc Tryd.prog W base sp held m 2 (([a, b, c, d].drop 0).take (Tryd.prog.cellsOf 2)) = ys[0]? := t0
    have t1' : DataW.trod enc Tryd.prog W base sp held m 2 (([a, b, c, d].drop 1).take (Tryd.prog.cellsOf 2)) = ys[1]? := t1
    have t2' : DataW.trod enc Tryd.prog W base sp held m 2 (([a, b, c, d].drop 2).take (Tryd.prog.cellsOf 2)) = ys[2]? := t2
    have t3' : DataW.trod enc Tryd.prog W base sp held m 2 (([a, b, c, d].drop 3).take (Tryd.prog.cellsOf 2)) = ys[3]? := t3
    rw [cells2] at t0' t1' t2' t3'
    obtain ⟨z0, e0⟩ := g (k := 0) (by omega) t0'
    obtain ⟨z1, e1⟩ := g (k := 1) (by omega) t1'
    obtain ⟨z2, e2⟩ := g (k := 2) (by omega) t2'
    obtain ⟨z3, e3⟩ := g (k := 3) (by omega) t3'
    simp at e0 e1 e2 e3
    subst e0 e1 e2 e3
    exact ⟨⟨z0, z1, z2, z3⟩, rfl⟩
set_option maxRecDepth 100000 in
theorem frag_in {n base : Nat} {cs : List Value} {x : DataW H × List MemPlace} (h : DataW.trod enc Tryd.prog W base sp held n 58 cs = some x) : ∃ r : S58, cs = [.int .i64 r.f0, .int .i64 r.f1, .int .i64 r.f2, .int .i64 r.f3.f0, .int .i64 r.f3.f1, .int .i64 r.f3.f2, .int .i64 r.f3.f3] := by
  obtain ⟨ys, m, _, _, hl, h4, hf⟩ := DataW.trod_struct Tryd.underlying58 h
  rw [cells58] at hl
  match cs, hl with
  | [a, b, c, d, e, f, g'], _ =>
    have t0 := hf 0 _ rfl
    have t1 := hf 1 _ rfl
    have t2 := hf 2 _ rfl
    have t3 := hf 3 _ rfl
    have hs : ∀ k, k < 4 → (ys[k]?).isSome = true := fun k hk => by
      have h4' : ys.length = 4 := h4
      rw [List.getElem?_eq_getElem (by omega)]
      rfl
    have g : ∀ {k : Nat} {l : List Value}, k < 4 → DataW.trod enc Tryd.prog W base sp held m 3 l = ys[k]? → ∃ z, l = [.int .i64 z] := fun {k l} hk hx => by
      obtain ⟨y, hy⟩ := Option.isSome_iff_exists.1 (hs k hk)
      rw [hy] at hx
      obtain ⟨z, e, _, _⟩ := DataW.trod_int Tryd.underlying3 hx
      exact ⟨z, e⟩
    have t0' : DataW.trod enc Tryd.prog W base sp held m 3 (([a, b, c, d, e, f, g'].drop 0).take (Tryd.prog.cellsOf 3)) = ys[0]? := t0
    have t1' : DataW.trod enc Tryd.prog W base sp held m 3 (([a, b, c, d, e, f, g'].drop 1).take (Tryd.prog.cellsOf 3)) = ys[1]? := t1
    have t2' : DataW.trod enc Tryd.prog W base sp held m 3 (([a, b, c, d, e, f, g'].drop 2).take (Tryd.prog.cellsOf 3)) = ys[2]? := t2
    have t3' : DataW.trod enc Tryd.prog W base sp held m 56 (([a, b, c, d, e, f, g'].drop 3).take (Tryd.prog.cellsOf 56)) = ys[3]? := t3
    rw [cells3] at t0' t1' t2'
    rw [cells56] at t3'
    obtain ⟨z0, e0⟩ := g (k := 0) (by omega) t0'
    obtain ⟨z1, e1⟩ := g (k := 1) (by omega) t1'
    obtain ⟨z2, e2⟩ := g (k := 2) (by omega) t2'
    obtain ⟨y, hy⟩ := Option.isSome_iff_exists.1 (hs 3 (by omega))
    rw [hy] at t3'
    obtain ⟨r, er⟩ := rect_in t3'
    simp at e0 e1 e2 er
    obtain ⟨rfl, rfl, rfl, rfl⟩ := er
    subst e0 e1 e2
    exact ⟨⟨z0, z1, z2, r⟩, rfl⟩

/-- A slice of pieces that comes in. -/
theorem frags_in {A : Option Addr} {len cap : Nat} {d : DataW H} {p : List MemPlace} (h : DataW.Trod enc Tryd.prog W 0 sp held 48 (.slice A len cap) d p) : ∃ l : List S58, l.length = len ∧ len ≤ cap ∧ Kd.C k58 W A len l := by
  obtain ⟨fuel, hf⟩ := h
  rcases open_slice Tryd.underlying48 hf with ⟨hcs, _⟩ | ⟨a, l, c, m, n, D, Pl, hcs, _, hl, hm, hmm, _, hi⟩
  · simp [Value.cells] at hcs
    obtain ⟨rfl, rfl, rfl⟩ := hcs
    exact ⟨[], rfl, Nat.le_refl _, rfl, by omega, fun e => absurd e (by omega)⟩
  · simp [Value.cells] at hcs
    obtain ⟨rfl, rfl, rfl⟩ := hcs
    have hx : ∀ i : Nat, ∃ x : S58, i < len → ∀ j u, [Value.int .i64 x.f0, .int .i64 x.f1, .int .i64 x.f2, .int .i64 x.f3.f0, .int .i64 x.f3.f1, .int .i64 x.f3.f2, .int .i64 x.f3.f3][j]? = some u → W.cell? (a.add (i * 7 + j)) = some u := by
      intro i
      by_cases hil : i < len
      · obtain ⟨cs', hc, ht'⟩ := hi i (by rw [hmm]; split <;> omega)
        rw [cells58] at hc
        obtain ⟨x, rfl⟩ := frag_in ht'
        obtain ⟨_, hcl, hat⟩ := World.cells?_some hc
        refine ⟨x, fun _ j u hj => ?_⟩
        have hjl := (List.getElem?_eq_some_iff.1 hj).1
        have := hat j (by simpa using hjl)
        rw [hj] at this
        rw [← this, Go.Deep.add_add]
      · exact ⟨z58, fun h => absurd h hil⟩
    obtain ⟨X, hX⟩ := Classical.axiomOfChoice hx
    refine ⟨(List.range len).map X, by simp, hl, by simp, by unfold maxLen at hm; omega, fun _ => ⟨a, rfl, fun j p hj => ?_⟩⟩
    have hjl : j < len := by
      have := (List.getElem?_eq_some_iff.1 hj).1
      simpa using this
    rw [List.getElem?_map, List.getElem?_range hjl] at hj
    obtain rfl : X j = p := by simpa using hj
    exact ⟨_, rfl, k58_mk W (X j), fun i u hu => hX j hjl i u hu⟩
end

end Go.Proofs.YtjpifknencfipaaDoor.R

namespace Go.Proofs.YtjpifknencfipaaDoor.P
open Go.RowKit Go.Proofs.YtjpifknencfipaaDoorW.PrintWords Go.Proofs.YtjpifknencfipaaDoorW.PrintLast Go.Proofs.YtjpifknencfipaaDoorW.PrintMore

def nearZ (a : Int) : Int := mx (-1099511627776) (mn a 1099511627776)
theorem nearZ_range (a : Int) : -1099511627776 ≤ nearZ a ∧ nearZ a ≤ 1099511627776 := by
  unfold nearZ mx mn
  split <;> split <;> omega
theorem near_f (a : Int) : gutterlaw17_near.f a = some (nearZ a) := rfl
def nearF (f : S58) : S58 := ⟨f.f0, f.f1, f.f2, ⟨nearZ f.f3.f0, nearZ f.f3.f1, nearZ f.f3.f2, nearZ f.f3.f3⟩⟩
def pcsF (l : List S58) : List S58 := (l.take 100).map nearF
theorem pcsF_len (l : List S58) : (pcsF l).length ≤ 100 := by simp [pcsF]; omega
def InF (f : S58) : Prop := (-1099511627776 ≤ f.f3.f0 ∧ f.f3.f0 ≤ 1099511627776) ∧ (-1099511627776 ≤ f.f3.f1 ∧ f.f3.f1 ≤ 1099511627776) ∧ (-1099511627776 ≤ f.f3.f2 ∧ f.f3.f2 ≤ 1099511627776) ∧ (-1099511627776 ≤ f.f3.f3 ∧ f.f3.f3 ≤ 1099511627776)
theorem pcsF_in (l : List S58) : ∀ f, f ∈ pcsF l → InF f := by
  intro f hf
  obtain ⟨g, _, rfl⟩ := List.mem_map.1 hf
  exact ⟨nearZ_range _, nearZ_range _, nearZ_range _, nearZ_range _⟩

theorem pcs_l0 (l : List S58) (d : Nat) : ∀ (k i : Nat) (acc : List S58), min l.length 100 - i = d → i ≤ min l.length 100 → acc.length = i → 2 * d + 1 < k →
    gutterlaw17_Pieces.l0 k l acc (i : Int) = some (acc ++ ((l.take 100).drop i).map nearF) := by
  induction d with
  | zero =>
    intro k i acc hd hi ha hk
    obtain ⟨k, rfl⟩ : ∃ m, k = m + 2 := ⟨k - 2, by omega⟩
    have hj : ∀ b, b = false → gutterlaw17_Pieces.j1 (k + 1) l acc (i : Int) b = some acc := by
      rintro b rfl
      simp only [gutterlaw17_Pieces.j1]
      rw [if_neg (by simp)]
    have hnil : ((l.take 100).drop i).map nearF = [] := by
      rw [List.drop_eq_nil_of_le (by rw [List.length_take]; omega)]
      rfl
    simp only [gutterlaw17_Pieces.l0]
    rw [hnil, List.append_nil]
    split
    · next h => exact hj _ (decide_eq_false (by omega))
    · next h => exact hj _ rfl
  | succ d ih =>
    intro k i acc hd hi ha hk
    obtain ⟨k, rfl⟩ : ∃ m, k = m + 2 := ⟨k - 2, by omega⟩
    simp only [gutterlaw17_Pieces.l0]
    rw [if_pos (by omega), decide_eq_true (show (i : Int) < 100 by omega)]
    simp only [gutterlaw17_Pieces.j1]
    rw [if_pos trivial, if_pos (by omega), if_pos (by omega), near_f, Option.bind_some, near_f, Option.bind_some, near_f, Option.bind_some, near_f, Option.bind_some, if_pos (by omega), rd_58, w64 (x := (i : Int) + 1) (by omega), show ((i : Int) + 1) = ((i + 1 : Nat) : Int) by push_cast; rfl,
      ih k (i + 1) _ (by omega) (by omega) (by simp [ha]) (by omega)]
    have hlt : i < (l.take 100).length := by rw [List.length_take]; omega
    have hg : (l.take 100).getD i z58 = l.getD i z58 := by
      simp only [List.getD_eq_getElem?_getD, List.getElem?_take]
      rw [if_pos (by omega)]
    rw [drop_58 (l.take 100) i hlt, hg, List.map_cons, List.append_assoc]
    rfl
theorem pcs_f (l : List S58) {k : Nat} (hk : 300 ≤ k) : gutterlaw17_Pieces.f k l = some (pcsF l) := by
  unfold gutterlaw17_Pieces.f
  have := pcs_l0 l (min l.length 100) k 0 [] (by omega) (by omega) rfl (by omega)
  rw [List.drop_zero, List.nil_append] at this
  exact this

theorem move_f (l : List S58) (x y : Int) (hl : l.length ≤ 1000) : row_Move.f l x y = some (l.map (moveA x y)) := by
  unfold row_Move.f row_moved.f
  rw [if_pos hl, Option.bind_some]
theorem fsame_l0 (l m : List S58) (hn : l.length ≤ 100000) (hm : m.length = l.length) (d : Nat) : ∀ (k i : Nat), l.length - i = d → d < k → i ≤ l.length → row_Same.l0 k l m (l.length : Int) (i : Int) = some (sameF (l.drop i) (m.drop i)) := by
  induction d with
  | zero =>
    intro k i hd hk hi
    obtain ⟨k, rfl⟩ : ∃ m, k = m + 1 := ⟨k - 1, by omega⟩
    simp only [row_Same.l0]
    rw [if_neg (by omega), List.drop_eq_nil_of_le (by omega)]
    rfl
  | succ d ih =>
    intro k i hd hk hi
    obtain ⟨k, rfl⟩ : ∃ m, k = m + 1 := ⟨k - 1, by omega⟩
    simp only [row_Same.l0]
    rw [if_pos (by omega), if_pos (by omega), if_pos (by omega), if_pos (by omega), rd_58, rd_58, w64 (x := (i : Int) + 1) (by omega), show ((i : Int) + 1) = ((i + 1 : Nat) : Int) by push_cast; rfl, ih k (i + 1) (by omega) (by omega) (by omega), drop_58 l i (by omega), drop_58 m i (by omega)]
    show (if _ = true then _ else _) = some (eqF _ _ && _)
    unfold eqF
    split
    · next h => rw [h]; rfl
    · next h => rw [Bool.not_eq_true] at h; rw [h]; simp
theorem fsame_f (l m : List S58) (hn : l.length ≤ 100000) {k : Nat} (hk : l.length < k) : row_Same.f k l m = some (decide (l.length = m.length) && sameF l m) := by
  unfold row_Same.f
  by_cases h : l.length = m.length
  · rw [if_pos (by omega), decide_eq_true h]
    exact fsame_l0 l m hn h.symm l.length k 0 (by omega) hk (Nat.zero_le _)
  · rw [if_neg (by omega), decide_eq_false h]
    rfl
theorem fsame_self (l : List S58) (hn : l.length ≤ 100000) {k : Nat} (hk : l.length < k) : row_Same.f k l l = some true := by
  rw [fsame_f l l hn hk, sameF_self, decide_eq_true rfl]
  rfl

end Go.Proofs.YtjpifknencfipaaDoor.P
