/- atom.Right tells whether atoms are right, in plain Lean. Conditions: none. · A statement whose order is open, of which all operations but the last few leave the world alone but for draws (reads, calls that only read), the last few standing in one forced order: one walk in the order of the text serves every order. Conditions: the library's own Bool on the region. · fill's filler in memory: what its methods step, last and next answer. Conditions: the filler's block holds the atoms' slice, which reads as a list of right atoms, and the height. · fill's filler: its next column (the method next). Conditions: as for step and last; the column begins at an atom. · Heights as a set: the list that insertion builds is what sorting any list without repeats of the same numbers gives; what a map that is ranged over has handed out so far. Conditions: none. · fill.open: a filler in new memory where atoms and height are right, else the sentinel. Conditions: the slice reads as the list; the sentinel's variable. · fill's columns as an iterator: its contract for every loop body that leaves alone what lay below the loop and each column's block. Conditions: a filler in memory. · A loop over the columns that appends to a boxed row, or writes boxes: what a round keeps. Conditions: none. -/
import Derived.Test.YtjpifknencfipaaDoorP77
import Derived.Test.YtjpifknencfipaaDoorFm
import Derived.Deep.Quiet
import Derived.StillTail
import Derived.Deep.QuietTactic
import Derived.BigQuiet
import Derived.ScopeJumps
import Derived.WalkMore
import Derived.Test.YtjpifknencfipaaDoorE99
import Derived.Maps.Range
import Derived.Maps.RangeWalk
import Derived.Maps.Ext
import Derived.Sort.KeysCollected
import Derived.RangeFuncNested
import Derived.RangeFuncBound
import Derived.RangeFuncCalls
import Derived.RangeFuncLeaves
import Derived.RangeFuncBox
import Derived.Shelf.Abstract
import Derived.Shelf.RegionOpen
import Derived.WalkKit
import Derived.OwnWalkIn
import Derived.TacticsInMore
import Derived.LoopNIn
import Derived.LoopIn
import Derived.Maps.AppendAt
set_option linter.unusedVariables false
set_option linter.unusedSimpArgs false
namespace Go.Proofs.YtjpifknencfipaaDoor.P
open Go.RowKit Go.Proofs.YtjpifknencfipaaDoorW.PrintWords Go.Proofs.YtjpifknencfipaaDoorW.PrintLast Go.Proofs.YtjpifknencfipaaDoorW.PrintMore

theorem wrap64_succ {i : Int} {n : Nat} (h0 : 0 ≤ i) (h : i < (n : Int)) (hn : n ≤ 9223372036854775807) : wrap64 (i + 1) = i + 1 := by
  unfold wrap64
  omega

theorem right_step (x : S32) (r : Option Bool) :
    (if x.f2 ≥ 1 then (if x.f2 ≤ 1073741824 then ((atom_areSizes.f (([x.f3] : List Int))).bind fun t757 => (if x.f0 ≥ 0 then (if x.f0 < 200 then (if t757 = true then (if (x.f1 ≥ 0) then (if x.f4 < 0 then (some false) else (if x.f4 > 2 then (some false) else r)) else (some false)) else (some false)) else (if t757 = true then (some false) else (some false))) else (if t757 = true then (some false) else (some false)))) else (if x.f0 ≥ 0 then (if x.f0 < 200 then (some false) else (some false)) else (some false))) else (if x.f0 ≥ 0 then (if x.f0 < 200 then (some false) else (some false)) else (some false)))
      = if okA x then r else some false := by
  have e : atom_areSizes.f [x.f3] = some (!badSizeA x.f3) := by simp [atom_areSizes.f]
  rw [e]
  simp only [Option.bind_some]
  have hb : (!badSizeA x.f3) = decide (0 ≤ x.f3 ∧ x.f3 ≤ 1048576) := by
    unfold badSizeA
    by_cases h1 : x.f3 < 0
    · have : ¬ (0 ≤ x.f3 ∧ x.f3 ≤ 1048576) := by omega
      simp [h1, this]
    · by_cases h2 : 1048576 < x.f3
      · have : ¬ (0 ≤ x.f3 ∧ x.f3 ≤ 1048576) := by omega
        simp [h2, this]
      · have : 0 ≤ x.f3 ∧ x.f3 ≤ 1048576 := by omega
        simp [h1, h2, this]
  rw [hb]
  simp only [decide_eq_true_eq]
  by_cases h : okA x
  · rw [if_pos h]
    unfold okA at h
    rw [if_pos (by omega), if_pos (by omega), if_pos (by omega), if_pos (by omega), if_pos (by omega), if_pos (by omega), if_neg (by omega), if_neg (by omega)]
  · rw [if_neg h]
    unfold okA at h
    repeat' split
    all_goals first
      | rfl
      | (exfalso; omega)

theorem right_l0 (l : List S32) (hn : l.length ≤ 9223372036854775807) (d : Nat) : ∀ (k i : Nat), i ≤ l.length → l.length - i = d → d < k →
    atom_Right.l0 k l l (l.length : Int) (i : Int) = some (decide (∀ x ∈ l.drop i, okA x) && decide (l.length ≤ 2000)) := by
  induction d with
  | zero =>
    intro k i h0 hd hk
    obtain ⟨k, rfl⟩ : ∃ m, k = m + 1 := ⟨k - 1, by omega⟩
    obtain rfl : i = l.length := by omega
    simp only [atom_Right.l0]
    rw [if_neg (by omega)]
    simp
    omega
  | succ d ih =>
    intro k i h0 hd hk
    obtain ⟨k, rfl⟩ : ∃ m, k = m + 1 := ⟨k - 1, by omega⟩
    have hlt : i < l.length := by omega
    simp only [atom_Right.l0]
    rw [if_pos (by omega), if_pos (by omega), if_pos (by omega), right_step, wrap64_succ (n := l.length) (by omega) (by omega) hn]
    have hx : rd_T32 l (i : Int) = l[i] := by simp [rd_T32, List.getD_eq_getElem?_getD, List.getElem?_eq_getElem hlt]
    rw [hx, List.drop_eq_getElem_cons hlt]
    have hi := ih k (i + 1) (by omega) (by omega) (by omega)
    rw [Int.natCast_add, Int.natCast_one] at hi
    rw [hi]
    generalize l.drop (i + 1) = ys
    generalize l[i] = y
    by_cases hok : okA y
    · rw [if_pos hok]
      simp [hok]
    · rw [if_neg hok]
      simp [hok]

theorem right_f (l : List S32) (hn : l.length ≤ 9223372036854775807) : atom_Right.f (l.length + 1) l = some (rightA l) := by
  have := right_l0 l hn l.length (l.length + 1) 0 (by omega) (by omega) (by omega)
  unfold atom_Right.f rightA
  rw [List.drop_zero] at this
  exact this

end Go.Proofs.YtjpifknencfipaaDoor.P

namespace Go.Proofs.YtjpifknencfipaaDoor

section
variable {P : Program} {ops : Array Oper} {md : Region.Mode} {C : World → Prop} {n : Nat} {L : Array Bool → Act → Prop}

/-- Whatever order is picked among the head's operations. -/
def HeadQ (P : Program) (md : Region.Mode) (ops : Array Oper) (C : World → Prop) (n : Nat) (L : Array Bool → Act → Prop) : Nat → Array Bool → Act → Prop
  | 0, listed, a => L listed a
  | f + 1, listed, a => Region.ready md ops listed ≠ [] ∧ ∀ i ∈ Region.ready md ops listed, i < n ∧ qOp P ops C i (HeadQ P md ops C n L f (listed.setIfInBounds i true)) a

theorem HeadQ.any {g : Nat} {Q' : Exit → Act → World → Prop} (hL : ∀ listed a w, C w → L listed a → wpAny P md ops Q' g listed a w) (f : Nat) :
    ∀ (listed : Array Bool) (a : Act) (w : World), C w → HeadQ P md ops C n L f listed a → wpAny P md ops Q' (f + g) listed a w := by
  induction f with
  | zero =>
    intro listed a w hw h
    rw [Nat.zero_add]
    exact hL _ _ _ hw h
  | succ f ih =>
    intro listed a w hw h
    rw [show f + 1 + g = (f + g) + 1 by omega]
    exact ⟨fun h0 => absurd h0 h.1, fun i hi => wpOp_of_qOp hw (fun a' w' hw' => ih _ a' w' hw') (h.2 i hi).2⟩

theorem HeadQ.first {i : Nat} {oi : Oper} {v : Value} (hi : ops[i]? = some oi) (hsel : ∀ (j : Nat) (o : Oper) cs b, ops[j]? = some o → o.op ≠ .select cs b)
    (hs : Region.sinkB md ops n = true) (hc : Region.chainB md ops n = true) (hn : n < ops.size) (hin : i < n) (hdone : ∀ listed a, L listed a → ∀ j ∈ Region.ready md ops listed, n ≤ j) (f : Nat) :
    ∀ (listed : Array Bool) (a : Act), HeadInv md ops n listed →
      (∀ j oj, ops[j]? = some oj → j ≠ i → listed.getD j true = false → (∀ e ∈ oj.after, Region.binds md e = true → e.on ≠ i) → oi.apart ops oj = true) →
      i ∈ Region.ready md ops listed → YieldsIn P ops C oi v a →
      HeadQ P md ops C n L f (listed.setIfInBounds i true) (a.put oi.dst v) → HeadQ P md ops C n L (f + 1) listed a := by
  induction f with
  | zero =>
    intro listed a inv _ hr hy H
    have hun := (mem_ready.1 hr).1
    refine ⟨fun h0 => by (rw [h0] at hr; cases hr), fun j hj => ?_⟩
    have hjn : j < n := Nat.lt_of_not_le fun hle => absurd hj (tail_waits hs hc hn inv _ i rfl hin hun j hle)
    by_cases e : j = i
    · exact ⟨hjn, e ▸ hy.qOp hi H⟩
    · exact absurd (hdone _ _ H j (ready_mono hj e)) (by omega)
  | succ f ih =>
    intro listed a inv hfree hr hy H
    have hun := (mem_ready.1 hr).1
    refine ⟨fun h0 => by (rw [h0] at hr; cases hr), fun j hj => ?_⟩
    have hjn : j < n := Nat.lt_of_not_le fun hle => absurd hj (tail_waits hs hc hn inv _ i rfl hin hun j hle)
    by_cases e : j = i
    · exact ⟨hjn, e ▸ hy.qOp hi H⟩
    · refine ⟨hjn, ?_⟩
      obtain ⟨hjun, oj, hoj, hall⟩ := mem_ready.1 hj
      have hno : ∀ d ∈ oj.after, Region.binds md d = true → d.on ≠ i := fun d hd hb he => by
        have h1 := hall d hd hb
        rw [he, getD_both hun] at h1
        cases h1
      refine qOp_mono (fun a' h3 => ih (listed.setIfInBounds j true) a' (inv.set hj hjn) ?_ (ready_mono hr (Ne.symm e)) h3.1 ?_)
        (qOp_put hoj (hfree j oj hoj e hjun hno) (fun cs b => hsel i oi cs b hi) (fun cs b => hsel j oj cs b hoj) hy (H.2 j (ready_mono hj e)).2)
      · intro k ok hk hki hku hkn
        refine hfree k ok hk hki ?_ hkn
        by_cases hjk : j = k
        · exact hjk ▸ hjun
        · rwa [getD_set_ne true hjk] at hku
      · rw [Array.setIfInBounds_comm _ _ e]
        exact h3.2

theorem HeadQ.lex {g : Nat} {Lq : Act → Prop} (hsel : Region.noSelect ops = true) (hs : Region.sinkB md ops n = true) (hc : Region.chainB md ops n = true) (hn : n < ops.size) (l : List Oper) :
    ∀ (k : Nat) (listed : Array Bool) (a : Act), (∀ j, j < l.length → l[j]? = ops[k + j]?) → k + l.length = n → HeadInv md ops n listed →
    Region.lexHead md ops g l.length k listed = true → wpQuiet P ops C Lq l a → HeadQ P md ops C n (fun listed' a' => Region.seqB md ops g n listed' = true ∧ Lq a') l.length listed a := by
  induction l with
  | nil =>
    intro k listed a _ hk _ hB h
    obtain rfl : k = n := by simpa using hk
    exact ⟨by simpa [Region.lexHead] using hB, h⟩
  | cons o l ih =>
    intro k listed a hl hk inv hB h
    have h0 : ops[k]? = some o := by simpa using (hl 0 (by simp)).symm
    simp only [List.length_cons, Region.lexHead, Bool.and_eq_true] at hB
    obtain ⟨⟨hr, hf⟩, hB'⟩ := hB
    have hkn : k < n := by simp only [List.length_cons] at hk; omega
    have hr' : k ∈ Region.ready md ops listed := by simpa using hr
    obtain ⟨v, hy, hK⟩ := yieldsIn_of_qOp (K := wpQuiet P ops C Lq l) h0 (by unfold qOp; simp only [h0]; exact h)
    exact HeadQ.first h0 (Region.noSelect_spec hsel) hs hc hn hkn (fun listed' a' hL => seqB_ready hL.1) l.length listed a inv (Region.free_spec h0 hf) hr' hy
      (ih (k + 1) _ _ (fun j hj => by have := hl (j + 1) (by simp; omega); simpa [Nat.add_assoc, Nat.add_comm 1 j] using this) (by simp only [List.length_cons] at hk; omega) (inv.set hr' hkn) hB' hK)
end

/-- The head's walk, then the tail's from every world of the class. -/
theorem wp_region_quiet_tail {P : Program} (C : World → Prop) {id : Nat} {Q : Exit → Act → World → Prop} {a : Act} {w : World} {l : List Oper} (n : Nat) (hm : P.follows .mixedOrders = true) (hB : Region.lexTailB .any l.toArray n = true)
    (hC : C { w with drawn := w.drawn + 1 }) (h : wpQuiet P l.toArray C (fun a' => ∀ w', C w' → wpList P l.toArray Q (l.drop n) a' w') (l.take n) a) : (Code.region id l.toArray true).wp P Q a w := by
  simp only [Region.lexTailB, Bool.and_eq_true, decide_eq_true_eq] at hB
  obtain ⟨⟨⟨⟨hsel, hn⟩, hs⟩, hc⟩, hlex⟩ := hB
  have hnl : n < l.length := by simpa using hn
  have htl : (l.take n).length = n := by simp; omega
  have hdl : (l.drop n).length = l.toArray.size - n := by simp
  refine wp_region_any hm ?_
  have inv : HeadInv .any l.toArray n (Array.replicate l.toArray.size false) :=
    ⟨by simp, fun j oj _ hl => by (rw [getD_replicate_false] at hl; cases hl), fun t _ ht => by simp at ht ⊢; simp [ht]⟩
  have H := HeadQ.lex (P := P) (md := .any) (C := C) (g := l.toArray.size - n) hsel hs hc hn (l.take n) 0 (Array.replicate l.toArray.size false) a
    (fun j hj => by rw [htl] at hj; simp [hj]) (by rw [htl]; omega) inv (by rw [htl]; exact hlex) h
  have H2 := HeadQ.any (g := l.toArray.size - n) (Q' := Q) (fun listed a' w' hw hL => by
    have := wpAny_of_seq (md := .any) (Q' := Q) (l.drop n) n listed a' w' (fun j => by simp [List.getElem?_drop]) (by rw [hdl]; exact hL.1) (hL.2 w' hw)
    rwa [hdl] at this) _ _ _ _ hC H
  rw [htl, show n + (l.toArray.size - n) = l.toArray.size by omega] at H2
  exact H2

/-- At the class 'the world after some draws'. -/
theorem wp_region_quiet_tail_lit {P : Program} {id : Nat} {Q : Exit → Act → World → Prop} {a : Act} {w : World} {l : List Oper} (n : Nat) (hm : P.follows .mixedOrders = true) (hB : Region.lexTailB .any l.toArray n = true)
    (h : wpQuiet P l.toArray (fun w' => ∃ m, w' = w.drewN m) (fun a' => ∀ w', (∃ m, w' = w.drewN m) → wpList P l.toArray Q (l.drop n) a' w') (l.take n) a) : (Code.region id l.toArray true).wp P Q a w :=
  wp_region_quiet_tail (fun w' => ∃ m, w' = w.drewN m) n hm hB ⟨1, rfl⟩ h

/-! ### A scope in which the run jumps forward, at most k times: the walk goes on behind each label -/
def Follow (P : Program) (c : Code) : Nat → (Exit → Act → World → Prop) → Exit → Act → World → Prop
  | 0, Q => Exit.noGoto Q
  | k + 1, Q => fun e a w => match e with
    | .goto l => ∃ rest, findLabel c l = some rest ∧ rest.wp P (Follow P c k Q) a w
    | e => Q e a w
theorem Follow.normal {P : Program} {c : Code} (k : Nat) {Q : Exit → Act → World → Prop} {a : Act} {w : World} (h : Q .normal a w) : Follow P c k Q .normal a w := by cases k <;> exact h
theorem Follow.exit {P : Program} {c : Code} (k : Nat) {Q : Exit → Act → World → Prop} {id : Nat} {a : Act} {w : World} (h : Q (.exit id) a w) : Follow P c k Q (.exit id) a w := by cases k <;> exact h
theorem Follow.ret {P : Program} {c : Code} (k : Nat) {Q : Exit → Act → World → Prop} {a : Act} {w : World} (h : Q .ret a w) : Follow P c k Q .ret a w := by cases k <;> exact h
theorem Follow.goto {P : Program} {c rest : Code} (k : Nat) {Q : Exit → Act → World → Prop} {l : Nat} {a : Act} {w : World} (hf : findLabel c l = some rest) (h : rest.wp P (Follow P c k Q) a w) : Follow P c (k + 1) Q (.goto l) a w := ⟨rest, hf, h⟩

theorem wp_scope_follow {P : Program} {c : Code} (k : Nat) {Q : Exit → Act → World → Prop} {a : Act} {w : World} (h : c.wp P (Follow P c k Q) a w) : (Code.scope c).wp P Q a w := by
  intro b t cs
  have key : ∀ k (rest : Code) a w, rest.wp P (Follow P c k Q) a w → ∃ e a' w', Q e a' w' ∧ Arrives P (lone (b.at a (.code rest :: .inScope c :: t)) cs w) b t cs e a' w' := by
    intro k
    induction k with
    | zero =>
      intro rest a w h
      obtain ⟨e, a1, w1, hq, har⟩ := h b (.inScope c :: t) cs
      cases e with
      | normal => exact ⟨.normal, a1, w1, hq, Steps.trans har (.one step_inScope)⟩
      | exit id => exact ⟨.exit id, a1, w1, hq, fun k' hk => har k' (by simp [exitTo, hk])⟩
      | goto l => exact hq.elim
      | ret => exact ⟨_, a1, w1, hq, har⟩
      | panic ch => exact ⟨_, a1, w1, hq, har⟩
      | outgrown => exact ⟨_, a1, w1, hq, har⟩
    | succ k ih =>
      intro rest a w h
      obtain ⟨e, a1, w1, hq, har⟩ := h b (.inScope c :: t) cs
      cases e with
      | normal => exact ⟨.normal, a1, w1, hq, Steps.trans har (.one step_inScope)⟩
      | exit id => exact ⟨.exit id, a1, w1, hq, fun k' hk => har k' (by simp [exitTo, hk])⟩
      | goto l =>
        obtain ⟨r, hf, hr⟩ := hq
        obtain ⟨e2, a2, w2, hq2, har2⟩ := ih r a1 w1 hr
        exact ⟨e2, a2, w2, hq2, .of_steps (har _ (by simp [gotoIn, hf])) har2⟩
      | ret => exact ⟨_, a1, w1, hq, har⟩
      | panic ch => exact ⟨_, a1, w1, hq, har⟩
      | outgrown => exact ⟨_, a1, w1, hq, har⟩
  obtain ⟨e, a1, w1, hq, har⟩ := key k c a w h
  cases e with
  | normal => exact ⟨.normal, a1, w1, hq, .head step_scope har⟩
  | exit id => exact ⟨.exit id, a1, w1, hq, fun k' hk => .head step_scope (har k' hk)⟩
  | goto l => exact ⟨.goto l, a1, w1, hq, fun k' hk => .head step_scope (har k' hk)⟩
  | ret => exact ⟨_, a1, w1, hq, .of_steps (.one step_scope) har⟩
  | panic ch => exact ⟨_, a1, w1, hq, .of_steps (.one step_scope) har⟩
  | outgrown => exact ⟨_, a1, w1, hq, .of_steps (.one step_scope) har⟩

/-- What holds of the world is all that is kept. -/
theorem wp_world {P : Program} {c : Code} {Q : Exit → Act → World → Prop} {a : Act} {W : World} (R : World → Prop) (hR : R W) (h : ∀ W1, R W1 → Code.wp P c Q a W1) : Code.wp P c Q a W := h W hR

/-! ### A second quiet region -/
theorem quiet_add {P : Program} {f : FuncId} {args : Array Value} {w : World} {a n : Nat} {v : Value}
    (h : Calls P f args (w.drewN (a + n)) fun e w' => e = .returned v ∧ ∃ m, w' = (w.drewN (a + n)).drewN m) :
    Calls P f args (w.drewN (a + n)) fun e w'' => e = .returned v ∧ ∃ m, w'' = w.drewN (a + m) :=
  h.mono fun _ _ ⟨he, m, hm⟩ => ⟨he, n + m, by rw [hm, World.drewN_drewN, Nat.add_assoc]⟩
theorem quiet_add_left {P : Program} {f : FuncId} {args : Array Value} {w : World} {a n : Nat} {v : Value}
    (h : Calls P f args (w.drewN (a + n)) fun e w' => e = .returned v ∧ w.drewN (a + n) = w') :
    Calls P f args (w.drewN (a + n)) fun e w'' => e = .returned v ∧ ∃ m, w'' = w.drewN (a + m) :=
  h.mono fun _ _ ⟨he, hm⟩ => ⟨he, n, hm.symm⟩
theorem quiet_left {P : Program} {f : FuncId} {args : Array Value} {w : World} {n : Nat} {v : Value}
    (h : Calls P f args (w.drewN n) fun e w' => e = .returned v ∧ w.drewN n = w') : Calls P f args (w.drewN n) fun e w'' => e = .returned v ∧ ∃ m, w'' = w.drewN m :=
  h.mono fun _ _ ⟨he, hm⟩ => ⟨he, n, hm.symm⟩

end Go.Proofs.YtjpifknencfipaaDoor

namespace Go.Proofs.YtjpifknencfipaaDoor.P
open Go.RowKit Go.Proofs.YtjpifknencfipaaDoorW.PrintWords Go.Proofs.YtjpifknencfipaaDoorW.PrintLast Go.Proofs.YtjpifknencfipaaDoorW.PrintMore
attribute [local go_sem] max2_int min2_int max_two min_two max_three min_three max_four min_four

/-- A block whose first cell holds a slice of atoms (a filler, a search, a layer). -/
def Atoms (l : List S32) (g : Nat) (w : World) : Prop := ∃ A c, w.cell? ⟨g, 0, none⟩ = some (.slice A l.length c) ∧ l.length ≤ c ∧ Kd.C k32 w A l.length l
theorem Atoms.below {l : List S32} {g : Nat} {w w1 : World} (h : Atoms l g w) (hb : Below w.heap.size w w1) : Atoms l g w1 := by
  obtain ⟨A, c, h1, h2, h3⟩ := h
  exact ⟨A, c, pw_cell_below hb h1, h2, Kd.C_below h3 hb⟩
theorem okA_of {l : List S32} (h : rightA l = true) (i : Nat) (hi : i < l.length) : okA (atA l i) := by
  unfold rightA at h
  simp only [Bool.and_eq_true, decide_eq_true_eq] at h
  have : atA l i = l[i] := by simp [atA, List.getD_eq_getElem?_getD, List.getElem?_eq_getElem hi]
  rw [this]
  exact h.1 _ (List.getElem_mem hi)
theorem len_of {l : List S32} (h : rightA l = true) : l.length ≤ 2000 := by
  unfold rightA at h
  simp only [Bool.and_eq_true, decide_eq_true_eq] at h
  exact h.2
theorem hh_of {l : List S32} (h : rightA l = true) (i : Nat) (hi : i < l.length) : 1 ≤ hhA l i ∧ hhA l i ≤ 1073741824 ∧ 0 ≤ spA l i ∧ spA l i ≤ 1048576 := by
  have := okA_of h i hi
  unfold okA at this
  exact ⟨this.1, this.2.1, this.2.2.1, this.2.2.2.1⟩

/-- An atom's cells. -/
theorem atom_cells {w : World} {A : Option Addr} {l : List S32} (h : Kd.C k32 w A l.length l) (i : Nat) (hi : i < l.length) :
    ∃ ad, A = some ad ∧ w.cell? (ad.add (i * 5)) = some (.int .i64 (atA l i).f0) ∧ w.cell? ⟨(ad.add (i * 5)).block, (ad.add (i * 5)).off + 1, none⟩ = some (.int .i64 (atA l i).f1) ∧
      w.cell? ⟨(ad.add (i * 5)).block, (ad.add (i * 5)).off + 2, none⟩ = some (.int .i64 (hhA l i)) ∧ w.cell? ⟨(ad.add (i * 5)).block, (ad.add (i * 5)).off + 3, none⟩ = some (.int .i64 (spA l i)) ∧
      w.cell? ⟨(ad.add (i * 5)).block, (ad.add (i * 5)).off + 4, none⟩ = some (.int .i64 (bkA l i)) := by
  obtain ⟨ad, e, h0, h1, h2, h3, h4⟩ := at_T32 h (i : Int) (by omega) (by omega)
  simp only [Int.toNat_natCast] at h0 h1 h2 h3 h4
  have hx : rd_T32 l (i : Int) = atA l i := by simp [rd_T32, atA]
  rw [hx] at h0 h1 h2 h3 h4
  exact ⟨ad, e, h0, h1, h2, h3, h4⟩

set_option maxHeartbeats 1000000 in
set_option maxRecDepth 100000 in
/-- (*atoms).step. -/
theorem step_calls (l : List S32) (hl : rightA l = true) (g : Nat) (i : Nat) (w : World) (hA : Atoms l g w) (hi : i < l.length) :
    Calls Tryd.prog 89 #[.pointer (some ⟨g, 0, none⟩), .int .i64 i] w fun e w' => e = .returned (.int .i64 (stA l i)) ∧ ∃ n, w' = w.drewN n := by
  obtain ⟨A, c, hc, hcl, hC⟩ := hA
  have hlen := len_of hl
  obtain ⟨b1, b2, b3, b4⟩ := hh_of hl i hi
  obtain ⟨ad, rfl, h0, h1, h2, h3, h4⟩ := atom_cells hC i hi
  have HS : Hid (stA l i = spA l i + hhA l i) := Lib.hid rfl
  obtain ⟨s, hs⟩ : ∃ s, spA l i = s := ⟨_, rfl⟩
  obtain ⟨t, ht⟩ : ∃ s, hhA l i = s := ⟨_, rfl⟩
  rw [hs] at b3 b4 h3 HS
  rw [ht] at b1 b2 h2 HS
  clear hs ht h0 h1 h4 hC hl
  have i0 : (0 : Int) ≤ i := by omega
  have i1 : (i : Int) < l.length := by omega
  have e1 : IntKind.i64.wrap (s + t) = s + t := by rw [IntKind.wrap_i64]; omega
  go_enter Tryd.func89, Tryd.ntmps89
  go_wp2
  go_quiet (fail)
  go_wp2
  go_ret
  exact ⟨ret_int HS.out.symm, ⟨_, rfl⟩⟩

set_option maxHeartbeats 1000000 in
set_option maxRecDepth 100000 in
/-- (*atoms).last. -/
theorem last_calls (l : List S32) (hl : l.length ≤ 2000) (g : Nat) (a d : Nat) (w : World) (hA : Atoms l g w) (hd : d < l.length) (had : a ≤ d) :
    Calls Tryd.prog 114 #[.pointer (some ⟨g, 0, none⟩), .int .i64 a, .int .i64 d] w fun e w' => e = .returned (.int .i64 (backA l a d d)) ∧ w = w' := by
  obtain ⟨A, c, hc, hcl, hC⟩ := hA
  have HC := Aside0.mk hC
  clear hC
  go_enter Tryd.func114, Tryd.ntmps114
  go_wp2
  go_loop [7] (fun i => ∃ k : Nat, i = .int .i64 k ∧ k ≤ d ∧ a ≤ k ∧ Hid (backA l a d d = backA l a d k)) (fun i => (intOf i).toNat)
  case atStart => exact ⟨d, rfl, Nat.le_refl _, had, Lib.hid rfl⟩
  case round =>
    obtain ⟨k, rfl, hk, hak, HI⟩ := hrel
    by_cases hgt : a < k
    · obtain ⟨ad, rfl, h0, h1, h2, h3, h4⟩ := atom_cells HC.out k (by omega)
      obtain ⟨j, rfl⟩ : ∃ j, k = j + 1 := ⟨k - 1, by omega⟩
      clear h0 h1 h2 h3
      by_cases hb : bkA l (j + 1) = 0
      · have HI2 : Hid (backA l a d d = j + 1) := Lib.hid (by rw [HI.out]; unfold backA; rw [if_neg (by omega), if_pos hb])
        rw [hb] at h4
        clear HI hb
        go_wp2
        go_ret
        exact ⟨ret_int (by rw [HI2.out]; simp), rfl⟩
      · have HI2 : Hid (backA l a d d = backA l a d j) := Lib.hid (by rw [HI.out]; conv => lhs; unfold backA; rw [if_neg (by omega), if_neg hb])
        obtain ⟨b, hb2⟩ : ∃ b, bkA l (j + 1) = b := ⟨_, rfl⟩
        rw [hb2] at h4 hb
        have hb3 : (b == 0) = false := by simpa using hb
        clear HI hb hb2
        go_wp2
        go_round
        case rel => exact ⟨j, by go_num, by omega, by omega, HI2⟩
        case measure => simp [intOf]
    · have hk0 : k = a := by omega
      have HI2 : Hid (backA l a d d = d) := Lib.hid (by
        rw [HI.out, hk0]
        cases a with
        | zero => rfl
        | succ a => unfold backA; rw [if_pos (Nat.le_refl _)])
      clear hk0 HI
      go_wp2
      go_ret
      exact ⟨ret_int (by rw [HI2.out]), rfl⟩

end Go.Proofs.YtjpifknencfipaaDoor.P

namespace Go.Proofs.YtjpifknencfipaaDoor.P
open Go.RowKit Go.Proofs.YtjpifknencfipaaDoorW.PrintWords Go.Proofs.YtjpifknencfipaaDoorW.PrintLast Go.Proofs.YtjpifknencfipaaDoorW.PrintMore

theorem Atoms.drewN {l : List S32} {g : Nat} {w : World} (h : Atoms l g w) (n : Nat) : Atoms l g (w.drewN n) := by
  obtain ⟨A, c, h1, h2, h3⟩ := h
  exact ⟨A, c, h1, h2, Kd.C_drewN h3 n⟩
theorem hi_succ (l : List S32) (a i : Nat) : hiA l a (i + 1) = hiA l a i + stA l i := by
  unfold hiA
  rw [show preA l (i + 1) = preA l i + stA l i from rfl]
  omega
theorem hi_one (l : List S32) (a : Nat) : hiA l a (a + 1) = hhA l a := by
  rw [hi_succ]
  unfold hiA stA
  omega
theorem hi_bounds {l : List S32} (hl : rightA l = true) (a : Nat) : ∀ d, a + 1 + d ≤ l.length → 1 ≤ hiA l a (a + 1 + d) ∧ hiA l a (a + 1 + d) ≤ (d + 1) * 1074790400
  | 0, h => by
    have := hh_of hl a (by omega)
    rw [Nat.add_zero, hi_one]
    omega
  | d + 1, h => by
    have ih := hi_bounds hl a d (by omega)
    have hs := hh_of hl (a + 1 + d) (by omega)
    rw [show a + 1 + (d + 1) = (a + 1 + d) + 1 from rfl, hi_succ]
    unfold stA
    omega
theorem hi_range {l : List S32} (hl : rightA l = true) (a i : Nat) (ha : a < i) (hi : i ≤ l.length) : 1 ≤ hiA l a i ∧ hiA l a i ≤ 2149580800000 := by
  have h := hi_bounds hl a (i - (a + 1)) (by omega)
  rw [show a + 1 + (i - (a + 1)) = i by omega] at h
  have := len_of hl
  omega

/-- The world while next runs: the result's block, the column's block. -/
structure NxW (w : World) (a i H o : Int) (wr : World) : Prop where
  res : wr.heap[w.heap.size]? = some (.cells #[.int .i64 0, .int .i64 0, .int .i64 0, .int .i64 0] 120 (0, 0))
  col : wr.heap[w.heap.size + 1]? = some (.cells #[.int .i64 a, .int .i64 i, .int .i64 H, .int .i64 o] 120 (0, 0))
  bel : Below w.heap.size w wr
theorem NxW.start (w : World) (a i H o : Int) : NxW w a i H o ((w.alloc (.cells #[.int .i64 0, .int .i64 0, .int .i64 0, .int .i64 0] 120)).alloc (.cells #[.int .i64 a, .int .i64 i, .int .i64 H, .int .i64 o] 120)) := by
  refine ⟨?_, ?_, below_alloc (below_alloc (Below.refl _ _) _) _⟩
  · exact (Below.heap_alloc _ _ _ (by simp)).trans (heap_alloc_new _ _)
  · have := heap_alloc_new (w.alloc (.cells #[.int .i64 0, .int .i64 0, .int .i64 0, .int .i64 0] 120)) (.cells #[.int .i64 a, .int .i64 i, .int .i64 H, .int .i64 o] 120)
    rwa [World.size_alloc] at this
theorem NxW.cells {w wr : World} {a i H o : Int} (h : NxW w a i H o wr) :
    wr.cell? ⟨w.heap.size + 1, 0, none⟩ = some (.int .i64 a) ∧ wr.cell? ⟨w.heap.size + 1, 1, none⟩ = some (.int .i64 i) ∧ wr.cell? ⟨w.heap.size + 1, 2, none⟩ = some (.int .i64 H) ∧ wr.cell? ⟨w.heap.size + 1, 3, none⟩ = some (.int .i64 o) :=
  ⟨(blk_cell h.col 0).trans rfl, (blk_cell h.col 1).trans rfl, (blk_cell h.col 2).trans rfl, (blk_cell h.col 3).trans rfl⟩
theorem NxW.cells0 {w wr : World} {a i H o : Int} (h : NxW w a i H o wr) :
    wr.cell? ⟨w.heap.size, 0, none⟩ = some (.int .i64 0) ∧ wr.cell? ⟨w.heap.size, 1, none⟩ = some (.int .i64 0) ∧ wr.cell? ⟨w.heap.size, 2, none⟩ = some (.int .i64 0) ∧ wr.cell? ⟨w.heap.size, 3, none⟩ = some (.int .i64 0) :=
  ⟨(blk_cell h.res 0).trans rfl, (blk_cell h.res 1).trans rfl, (blk_cell h.res 2).trans rfl, (blk_cell h.res 3).trans rfl⟩
theorem NxW.frozen {w wr : World} {a i H o : Int} (h : NxW w a i H o wr) (j : Nat) : wr.frozen? ⟨w.heap.size + 1, j, none⟩ = false := blk_frozen h.col j
theorem NxW.frozen0 {w wr : World} {a i H o : Int} (h : NxW w a i H o wr) (j : Nat) : wr.frozen? ⟨w.heap.size, j, none⟩ = false := blk_frozen h.res j
theorem NxW.drewN {w wr : World} {a i H o : Int} (h : NxW w a i H o wr) (n : Nat) : NxW w a i H o (wr.drewN n) := ⟨h.res, h.col, pw_below_drewN h.bel n⟩
theorem NxW.put1 {w wr : World} {a i H o : Int} (h : NxW w a i H o wr) (x : Int) : NxW w a x H o (wr.setCell ⟨w.heap.size + 1, 1, none⟩ (.int .i64 x)) :=
  ⟨(Below.heap_setCell _ _ _ _ (by simp)).trans h.res, blk_put h.col 1 _ rfl, below_set h.bel (by simp)⟩
theorem NxW.put2 {w wr : World} {a i H o : Int} (h : NxW w a i H o wr) (x : Int) : NxW w a i x o (wr.setCell ⟨w.heap.size + 1, 2, none⟩ (.int .i64 x)) :=
  ⟨(Below.heap_setCell _ _ _ _ (by simp)).trans h.res, blk_put h.col 2 _ rfl, below_set h.bel (by simp)⟩
theorem NxW.put3 {w wr : World} {a i H o : Int} (h : NxW w a i H o wr) (x : Int) : NxW w a i H x (wr.setCell ⟨w.heap.size + 1, 3, none⟩ (.int .i64 x)) :=
  ⟨(Below.heap_setCell _ _ _ _ (by simp)).trans h.res, blk_put h.col 3 _ rfl, below_set h.bel (by simp)⟩

theorem back_bounds (l : List S32) (a d : Nat) : ∀ k, a < d → a ≤ k → k ≤ d → a < backA l a d k ∧ backA l a d k ≤ d
  | 0, h1, h2, h3 => by
    unfold backA
    omega
  | k + 1, h1, h2, h3 => by
    unfold backA
    split
    · omega
    · split
      · omega
      · exact back_bounds l a d k h1 (by omega) (by omega)
theorem col_no {l : List S32} {h : Int} {a i : Nat} (hs : scanA l h a (l.length - (a + 1)) (a + 1) = (i, false)) : colA l h a = ⟨a, i, 0⟩ := by
  unfold colA endA
  rw [hs]
  rfl
theorem col_over {l : List S32} {h : Int} {a i : Nat} (hs : scanA l h a (l.length - (a + 1)) (a + 1) = (i, true)) : colA l h a = ⟨a, backA l a i i, i⟩ := by
  unfold colA endA
  rw [hs]
  rfl
theorem ret_col_no {l : List S32} {h : Int} {a i : Nat} (hs : scanA l h a (l.length - (a + 1)) (a + 1) = (i, false)) :
    Ending.returned (.agg #[.int .i64 a, .int .i64 i, .int .i64 (hiA l a i), .int .i64 0]) = .returned (.agg #[.int .i64 a, .int .i64 (colA l h a).b, .int .i64 (hiA l a (colA l h a).b), .int .i64 ((colA l h a).over l)]) := by
  rw [col_no hs]
  rfl
theorem ret_col_over {l : List S32} {h : Int} {a i : Nat} (hi : 0 < i) (hs : scanA l h a (l.length - (a + 1)) (a + 1) = (i, true)) :
    Ending.returned (.agg #[.int .i64 a, .int .i64 (backA l a i i), .int .i64 (hiA l a (backA l a i i)), .int .i64 (hiA l a (i + 1))]) = .returned (.agg #[.int .i64 a, .int .i64 (colA l h a).b, .int .i64 (hiA l a (colA l h a).b), .int .i64 ((colA l h a).over l)]) := by
  rw [col_over hs]
  have : (⟨a, backA l a i i, i⟩ : ColA).over l = hiA l a (i + 1) := by
    unfold ColA.over
    exact if_neg (show ¬ i = 0 by omega)
  rw [this]

set_option maxHeartbeats 4000000 in
set_option maxRecDepth 100000 in
/-- (*filler).next. -/
theorem next_calls (l : List S32) (hl : rightA l = true) (h : Int) (h0 : 0 ≤ h) (h1 : h ≤ 2199023255552) (g : Nat) (a : Nat) (w : World) (hA : Atoms l g w) (hh : w.cell? ⟨g, 1, none⟩ = some (.int .i64 h)) (ha : a < l.length) :
    Calls Tryd.prog 104 #[.pointer (some ⟨g, 0, none⟩), .int .i64 a] w fun e w' => e = .returned (.agg #[.int .i64 a, .int .i64 (colA l h a).b, .int .i64 (hiA l a (colA l h a).b), .int .i64 ((colA l h a).over l)]) ∧ Below w.heap.size w w' := by
  have hlen := len_of hl
  obtain ⟨A, c, hc, hcl, hC⟩ := hA
  have HC := Aside0.mk hC
  obtain ⟨ad, rfl, hx0, hx1, hx2, hx3, hx4⟩ := atom_cells hC a ha
  obtain ⟨b1, b2, b3, b4⟩ := hh_of hl a ha
  have i0 : (0 : Int) ≤ a := by omega
  have i1 : (a : Int) < l.length := by omega
  have hgl : g < w.heap.size := World.block_lt_of_cell? w _ hc
  have hal : (ad.add (a * 5)).block < w.heap.size := World.block_lt_of_cell? w _ hx0
  clear hC hx0 hx1 hx3 hx4
  go_enter Tryd.func104, Tryd.ntmps104
  go_wp2
  refine wp_scope_follow 3 ?_
  go_wp2
  have ebr : ∀ o, (colA l h a).o = o → True := fun _ _ => trivial
  clear ebr
  go_loopg [21] (l.length - (a + 1)) (fun kq v21 wr => ∃ i : Nat, Aside0 (a < i) ∧ Aside0 (kq + i = l.length) ∧ Hid (scanA l h a (l.length - (a + 1)) (a + 1) = scanA l h a kq i) ∧ NxW w a i (hiA l a i) 0 wr)
  case atStart =>
    refine ⟨a + 1, ⟨by omega⟩, ⟨by omega⟩, Lib.hid rfl, ?_⟩
    rw [show ((a + 1 : Nat) : Int) = (a : Int) + 1 from by omega, hi_one]
    exact NxW.start _ _ _ _ _
  case round =>
    obtain ⟨i, hai, hki, HS, hW⟩ := hrel
    obtain ⟨d0, d1, d2, d3⟩ := hW.cells
    have z0 := hW.frozen
    obtain ⟨q0, q1, q2, q3⟩ := hW.cells0
    have z1 := hW.frozen0
    have hAw : Atoms l g w := ⟨some ad, c, hc, hcl, HC.out⟩
    have hAr := Lib.hid (hAw.below hW.bel)
    have hcr := (hW.bel.cell (p := ⟨g, 0, none⟩) hgl).trans hc
    have hhr := (hW.bel.cell (p := ⟨g, 1, none⟩) hgl).trans hh
    have hil := hai.out
    have hiL : i ≤ l.length := by have := hki.out; omega
    obtain ⟨r1, r2⟩ := hi_range hl a i hil hiL
    have hi0 : (0 : Int) ≤ i := by omega
    clear hAw
    by_cases hlt : i < l.length
    · obtain ⟨ad', e', y0, y1, y2, y3, y4⟩ := atom_cells HC.out i hlt
      obtain rfl : ad = ad' := Option.some.inj e'
      clear e' y1 y2 y3
      have hgl2 : (ad.add (i * 5)).block < w.heap.size := World.block_lt_of_cell? w _ y0
      have y4r := (hW.bel.cell (p := ⟨(ad.add (i * 5)).block, (ad.add (i * 5)).off + 4, none⟩) hgl2).trans y4
      have hi1 : (i : Int) < l.length := by omega
      obtain ⟨k1, rfl⟩ : ∃ k1, gk = k1 + 1 := ⟨gk - 1, by have := hki.out; omega⟩
      clear y0 y4
      by_cases hb : bkA l i = 2
      · have HS2 : Hid (scanA l h a (l.length - (a + 1)) (a + 1) = (i, false)) := Lib.hid (by rw [HS.out]; unfold scanA; rw [if_pos hb])
        rw [hb] at y4r
        clear hb
        go_wp2
        go_quiet (fail)
        go_wp2
        go_quiet (fail)
        go_wp2
        go_step3
        refine Follow.goto 2 rfl ?_
        go_wp2
        refine Follow.ret 2 ?_
        refine bodyPost_ret (v := .agg #[.int .i64 a, .int .i64 i, .int .i64 (hiA l a i), .int .i64 0]) (by simp [results, Tryd.results104, go_sem, q0, q1, q2, q3]) rfl ⟨ret_col_no HS2.out, ?_⟩
        have hb := hW.bel
        repeat (first | exact hb | apply pw_below_drewN | refine below_set ?_ (Nat.le_refl _))
      · have hb2 : (bkA l i == 2) = false := by simpa using hb
        obtain ⟨b, hb3⟩ : ∃ b, bkA l i = b := ⟨_, rfl⟩
        have HSt := Lib.hid (hi_succ l a i)
        have s0 := hh_of hl i hlt
        have hst : stA l i = spA l i + hhA l i := rfl
        have s1 : 1 ≤ stA l i := by omega
        have s2 : stA l i ≤ 1074790400 := by omega
        have hstep := Lib.hid (fun m => step_calls l hl g i (wr.drewN m) (hAr.out.drewN m) hlt)
        rw [hb3] at y4r hb2
        obtain ⟨H, hH⟩ : ∃ H, hiA l a i = H := ⟨_, rfl⟩
        have hHH := Lib.hid hH
        obtain ⟨s, hs⟩ : ∃ s, stA l i = s := ⟨_, rfl⟩
        rw [hH] at HSt hW d2 r1 r2
        rw [hs] at HSt hstep s1 s2
        have e1 : IntKind.i64.wrap (H + s) = H + s := by rw [IntKind.wrap_i64]; omega
        clear hb3 hst s0 hH hs
        by_cases hgt : hiA l a (i + 1) > h
        · have hgt2 : decide (h < H + s) = true := by rw [← HSt.out]; exact decide_eq_true hgt
          go_wp2
          go_quiet (fail)
          go_wp2
          go_quiet (fail)
          go_wp2
          go_quiet ((go_at_call 89; first | exact Calls.quiet_of (hstep.out _) | exact quiet_add (hstep.out _)))
          go_wp2
          refine wp_region_quiet_tail_lit 12 (by kernel_rfl) (by kernel_rfl) ?_
          simp only [List.take_succ_cons, List.take_zero, List.drop_succ_cons, List.drop_zero]
          repeat (quiet_step ((go_at_call 89; first | exact Calls.quiet_of (hstep.out _) | exact quiet_add (hstep.out _))))
          refine wpQuiet_nil ?_
          intro _ hw'
          obtain ⟨nq, hw''⟩ := hw'
          subst hw''
          go_wp2
          go_step3
          refine Follow.goto 2 rfl ?_
          refine wp_world (R := NxW w a i H (H + s)) ?_ ?_
          · repeat (first | exact hW | apply NxW.put3 | apply NxW.drewN)
          intro W1 hW1
          clear hW d0 d1 d2 d3 z0 q0 q1 q2 q3 z1 hcr hhr y4r hgt2 hb2
          obtain ⟨d0, d1, d2, d3⟩ := hW1.cells
          have z0 := hW1.frozen
          have hAw : Atoms l g w := ⟨some ad, c, hc, hcl, HC.out⟩
          have hAr1 := Lib.hid (hAw.below hW1.bel)
          have hcr := (hW1.bel.cell (p := ⟨g, 0, none⟩) hgl).trans hc
          have hlast := Lib.hid (fun m => last_calls l hlen g a i (W1.drewN m) (hAr1.out.drewN m) hlt (by omega))
          clear hAw
          go_wp2
          go_quiet ((go_at_call 114; first | exact quiet_left (hlast.out _) | exact quiet_add_left (hlast.out _)))
          go_wp2
          obtain ⟨B1, B2⟩ := back_bounds l a i i hil (by omega) (Nat.le_refl _)
          have HS3 : Hid (scanA l h a (l.length - (a + 1)) (a + 1) = (i, true)) := Lib.hid (by rw [HS.out]; unfold scanA; rw [if_neg hb, if_pos hgt])
          have HO : Hid (hiA l a (i + 1) = H + s) := HSt
          have HH : Hid (hiA l a i = H) := Lib.hid hHH.out
          obtain ⟨B, hB⟩ : ∃ B, backA l a i i = B := ⟨_, rfl⟩
          rw [hB] at B1 B2
          have HB := Lib.hid hB
          have B3 : (0 : Int) ≤ B := by omega
          rw [hB]
          clear hB hb hgt hlast hstep hAr hAr1 hcr d0 d1 d2 d3 z0 HS HSt e1
          go_loopg [98] i (fun kq v98 wr => Aside0 (B ≤ kq) ∧ Aside0 (kq ≤ i) ∧ NxW w a kq (hiA l a kq) (H + s) wr)
          case atStart => exact ⟨⟨B2⟩, ⟨Nat.le_refl _⟩, by rw [HH.out]; repeat (first | exact hW1 | apply NxW.drewN)⟩
          case round =>
            obtain ⟨hjB, hji, hW⟩ := hrel
            obtain ⟨d0, d1, d2, d3⟩ := hW.cells
            have z0 := hW.frozen
            obtain ⟨q0, q1, q2, q3⟩ := hW.cells0
            have z1 := hW.frozen0
            have hAw : Atoms l g w := ⟨some ad, c, hc, hcl, HC.out⟩
            have hAr := Lib.hid (hAw.below hW.bel)
            have hBj := hjB.out
            clear hAw
            by_cases hgt : B < gk
            · obtain ⟨k1, rfl⟩ : ∃ k1, gk = k1 + 1 := ⟨gk - 1, by omega⟩
              have hk1 : k1 < l.length := by have := hji.out; omega
              have s0 := hh_of hl k1 hk1
              have hst : stA l k1 = spA l k1 + hhA l k1 := rfl
              have s1' : 1 ≤ stA l k1 := by omega
              have s2' : stA l k1 ≤ 1074790400 := by omega
              obtain ⟨r1', r2'⟩ := hi_range hl a (k1 + 1) (by omega) (by omega)
              have HSt := Lib.hid (hi_succ l a k1)
              obtain ⟨H2, hH2⟩ : ∃ H, hiA l a (k1 + 1) = H := ⟨_, rfl⟩
              rw [hH2] at HSt hW d2 r1' r2'
              clear hH2 hst s0
              have hk0 : (0 : Int) ≤ k1 := by omega
              go_wp2
              refine wp_world (R := NxW w a k1 H2 (H + s)) ?_ ?_
              · repeat (first | exact hW | apply NxW.put1)
              intro W2 hW2
              clear hW d0 d1 d2 d3 z0 q0 q1 q2 q3 z1
              obtain ⟨d0, d1, d2, d3⟩ := hW2.cells
              have z0 := hW2.frozen
              have hAw : Atoms l g w := ⟨some ad, c, hc, hcl, HC.out⟩
              have hAr2 := Lib.hid (hAw.below hW2.bel)
              have hstep := Lib.hid (fun m => step_calls l hl g k1 (W2.drewN m) (hAr2.out.drewN m) hk1)
              obtain ⟨s', hs'⟩ : ∃ s, stA l k1 = s := ⟨_, rfl⟩
              rw [hs'] at HSt hstep s1' s2'
              have e1 : IntKind.i64.wrap (H2 - s') = H2 - s' := by rw [IntKind.wrap_i64]; omega
              have HSt2 : Hid (hiA l a k1 = H2 - s') := Lib.hid (by have := HSt.out; omega)
              clear hAw hs' HSt
              refine wp_region_quiet_tail_lit 13 (by kernel_rfl) (by kernel_rfl) ?_
              simp only [List.take_succ_cons, List.take_zero, List.drop_succ_cons, List.drop_zero]
              repeat (quiet_step ((go_at_call 89; first | exact Calls.quiet_of (hstep.out _) | exact quiet_add (hstep.out _))))
              refine wpQuiet_nil ?_
              intro _ hw'
              obtain ⟨nq, hw''⟩ := hw'
              subst hw''
              go_wp2
              go_roundg k1
              case rel =>
                refine ⟨⟨by omega⟩, ⟨by have := hji.out; omega⟩, ?_⟩
                rw [HSt2.out]
                repeat (first | exact hW2 | apply NxW.put2 | apply NxW.drewN)
              case measure => omega
            · obtain rfl : gk = B := by omega
              have HR : Hid (Ending.returned (.agg #[.int .i64 a, .int .i64 (gk : Nat), .int .i64 (hiA l a gk), .int .i64 (H + s)]) = .returned (.agg #[.int .i64 a, .int .i64 (colA l h a).b, .int .i64 (hiA l a (colA l h a).b), .int .i64 ((colA l h a).over l)])) := Lib.hid (by
                rw [← ret_col_over (by omega) HS3.out, HB.out, HO.out])
              clear HS3 HB HO HH hHH
              obtain ⟨H3, hH3⟩ : ∃ H, hiA l a gk = H := ⟨_, rfl⟩
              rw [hH3] at HR hW d2
              clear hH3
              go_wp2
              go_step3
              go_wp2
              refine Follow.ret 2 ?_
              refine bodyPost_ret (v := .agg #[.int .i64 a, .int .i64 gk, .int .i64 H3, .int .i64 (H + s)]) (by simp [results, Tryd.results104, go_sem, q0, q1, q2, q3]) rfl ⟨HR.out, ?_⟩
              have hb := hW.bel
              repeat (first | exact hb | apply pw_below_drewN | refine below_set ?_ (Nat.le_refl _))
        · have HS2 : Hid (scanA l h a (l.length - (a + 1)) (a + 1) = scanA l h a k1 (i + 1)) := Lib.hid (by rw [HS.out]; conv => lhs; unfold scanA; rw [if_neg hb, if_neg hgt])
          have hgt2 : decide (h < H + s) = false := by rw [← HSt.out]; exact decide_eq_false hgt
          go_wp2
          go_quiet (fail)
          go_wp2
          go_quiet (fail)
          go_wp2
          go_quiet ((go_at_call 89; first | exact Calls.quiet_of (hstep.out _) | exact quiet_add (hstep.out _)))
          go_wp2
          refine wp_region_quiet_tail_lit 13 (by kernel_rfl) (by kernel_rfl) ?_
          simp only [List.take_succ_cons, List.take_zero, List.drop_succ_cons, List.drop_zero]
          repeat (quiet_step ((go_at_call 89; first | exact Calls.quiet_of (hstep.out _) | exact quiet_add (hstep.out _))))
          refine wpQuiet_nil ?_
          intro _ hw'
          obtain ⟨nq, hw''⟩ := hw'
          subst hw''
          go_wp2
          go_roundg k1
          case rel =>
            refine ⟨i + 1, ⟨by omega⟩, ⟨by have := hki.out; omega⟩, HS2, ?_⟩
            rw [show ((i + 1 : Nat) : Int) = (i : Int) + 1 from by omega, HSt.out]
            repeat (first | exact hW | apply NxW.put1 | apply NxW.put2 | apply NxW.drewN)
          case measure => omega
    · have hi2 : i = l.length := by omega
      have HS2 : Hid (scanA l h a (l.length - (a + 1)) (a + 1) = (i, false)) := Lib.hid (by rw [HS.out, show gk = 0 by have := hki.out; omega]; rfl)
      clear hi2
      go_wp2
      go_quiet (fail)
      go_wp2
      go_step3
      refine Follow.goto 2 rfl ?_
      go_wp2
      refine Follow.ret 2 ?_
      refine bodyPost_ret (v := .agg #[.int .i64 a, .int .i64 i, .int .i64 (hiA l a i), .int .i64 0]) (by simp [results, Tryd.results104, go_sem, q0, q1, q2, q3]) rfl ⟨ret_col_no HS2.out, ?_⟩
      have hb := hW.bel
      repeat (first | exact hb | apply pw_below_drewN | refine below_set ?_ (Nat.le_refl _))

end Go.Proofs.YtjpifknencfipaaDoor.P

namespace Go.Proofs.YtjpifknencfipaaDoor.P
open Go.RowKit Go.Maps

theorem mem_insA (x y : Int) : ∀ t : List Int, y ∈ insA x t ↔ y = x ∨ y ∈ t
  | [] => by simp [insA]
  | z :: zs => by
    unfold insA
    split
    · simp
    · split
      · next h => subst h; simp
      · simp only [List.mem_cons, mem_insA x y zs]
        constructor
        · rintro (h | h | h)
          · exact .inr (.inl h)
          · exact .inl h
          · exact .inr (.inr h)
        · rintro (h | h | h)
          · exact .inr (.inl h)
          · exact .inl h
          · exact .inr (.inr h)
theorem sort_insA (x : Int) : ∀ t : List Int, t.Pairwise (· < ·) → (insA x t).Pairwise (· < ·)
  | [], _ => by simp [insA]
  | z :: zs, h => by
    obtain ⟨h1, h2⟩ := List.pairwise_cons.1 h
    unfold insA
    split
    · next hx =>
      refine List.pairwise_cons.2 ⟨fun y hy => ?_, h⟩
      rcases List.mem_cons.1 hy with rfl | hy
      · exact hx
      · have := h1 y hy; omega
    · split
      · exact h
      · next hx hne =>
        refine List.pairwise_cons.2 ⟨fun y hy => ?_, sort_insA x zs h2⟩
        rcases (mem_insA x y zs).1 hy with rfl | hy
        · omega
        · exact h1 y hy
theorem fold_insA : ∀ (xs t : List Int), t.Pairwise (· < ·) → (xs.foldl (fun t x => insA x t) t).Pairwise (· < ·) ∧ ∀ y, y ∈ xs.foldl (fun t x => insA x t) t ↔ y ∈ t ∨ y ∈ xs
  | [], t, h => ⟨h, fun y => by simp⟩
  | x :: xs, t, h => by
    obtain ⟨h1, h2⟩ := fold_insA xs (insA x t) (sort_insA x t h)
    refine ⟨h1, fun y => ?_⟩
    rw [List.foldl_cons, h2, mem_insA, List.mem_cons]
    constructor
    · rintro ((h | h) | h)
      · exact .inr (.inl h)
      · exact .inl h
      · exact .inr (.inr h)
    · rintro (h | h | h)
      · exact .inl (.inr h)
      · exact .inl (.inl h)
      · exact .inr h
theorem heights_sorted (l : List S32) : (heightsA l).Pairwise (· < ·) := (fold_insA _ [0] (by simp)).1
theorem mem_heights (l : List S32) (y : Int) : y ∈ heightsA l ↔ y = 0 ∨ y ∈ pairsA l l.length := by
  rw [heightsA, (fold_insA _ [0] (by simp)).2]
  simp
/-- Sorting any list without repeats of the same numbers. -/
theorem sort_heights (l : List S32) (ss : List Int) (hn : ss.Nodup) (hm : ∀ x, x ∈ ss ↔ x ∈ heightsA l) : ss.mergeSort (fun x y => decide (x ≤ y)) = heightsA l := by
  have tr : ∀ a b c : Int, decide (a ≤ b) = true → decide (b ≤ c) = true → decide (a ≤ c) = true := fun a b c h1 h2 => by simp only [decide_eq_true_eq] at *; omega
  have tot : ∀ a b : Int, (decide (a ≤ b) || decide (b ≤ a)) = true := fun a b => by simp only [Bool.or_eq_true, decide_eq_true_eq]; omega
  have hs := heights_sorted l
  have hnd : (heightsA l).Nodup := hs.imp (fun h => by omega)
  refine List.Perm.eq_of_pairwise (le := fun a b => decide (a ≤ b) = true) (fun a b _ _ h1 h2 => ?_) (List.pairwise_mergeSort tr tot ss) (hs.imp fun h => by simp only [decide_eq_true_eq]; omega) ((List.mergeSort_perm ss _).trans ((List.perm_ext_iff_of_nodup hn hnd).2 hm))
  simp only [decide_eq_true_eq] at h1 h2
  omega

/-! ### The keys -/
theorem runs_len (l : List S32) (a : Nat) : ∀ n, (runsA l a n).length = n
  | 0 => rfl
  | n + 1 => by simp [runsA, runs_len l a n]
theorem pairs_len (l : List S32) (hl : l.length ≤ 200) : ∀ n, (pairsA l n).length ≤ n * 200
  | 0 => by simp [pairsA]
  | n + 1 => by
    have := pairs_len l hl n
    simp only [pairsA, List.length_append, runs_len]
    omega
/-- The keys after i whole rounds and n steps of the next. -/
def keysA (l : List S32) (i n : Nat) : List Int := 0 :: (pairsA l i ++ runsA l i n)
theorem keys_len (l : List S32) (hl : l.length ≤ 200) (i n : Nat) (hi : i ≤ l.length) (hn : n ≤ l.length) : (keysA l i n).length ≤ 40401 := by
  have h1 := pairs_len l hl i
  have h2 := runs_len l i n
  simp only [keysA, List.length_cons, List.length_append, h2]
  omega
theorem keys_succ (l : List S32) (i n : Nat) : keysA l i (n + 1) = keysA l i n ++ [hiA l i (i + n + 1)] := by
  simp [keysA, runsA]
theorem keys_next (l : List S32) (i : Nat) : keysA l (i + 1) 0 = keysA l i (l.length - i) := by
  simp [keysA, runsA, pairsA]
theorem keys_start (l : List S32) : keysA l 0 0 = [0] := rfl
theorem keys_end (l : List S32) (x : Int) : x ∈ keysA l l.length 0 ↔ x ∈ heightsA l := by
  rw [mem_heights]
  simp [keysA, runsA]

abbrev setI (xs : List Int) : DataW Unit := setOf (.lit (.bool true)) (xs.map (Lit.int .i64))
theorem setI_snoc (xs : List Int) (x : Int) : setI (xs ++ [x]) = (setI xs).put (.int .i64 x) (.lit (.bool true)) := by
  rw [setI, List.map_append]
  exact setOf_snoc _ _ _
theorem setI_has (xs : List Int) (x : Int) : has (setI xs) (.int .i64 x) = true ↔ x ∈ xs := by
  rw [has_setOf _ _ _ (fun y hy => by obtain ⟨z, _, rfl⟩ := List.mem_map.1 hy; trivial), List.any_eq_true]
  constructor
  · rintro ⟨y, hy, h⟩
    obtain ⟨z, hz, rfl⟩ := List.mem_map.1 hy
    have : z = x := by simpa [Lit.sameKey] using h
    exact this ▸ hz
  · intro h
    exact ⟨.int .i64 x, List.mem_map.2 ⟨x, h, rfl⟩, by simp [Lit.sameKey]⟩

/-- The keys met so far. -/
def CollI (D0 : DataW Unit) (left : Lit → Bool) (ss : List Int) : Prop := ss.Nodup ∧ ∀ x, x ∈ ss ↔ (has D0 (.int .i64 x) = true ∧ left (.int .i64 x) = false)
theorem CollI.start (D0 : DataW Unit) : CollI D0 (has D0) [] := ⟨List.nodup_nil, fun x => by cases has D0 (.int .i64 x) <;> simp⟩
theorem CollI.step {D0 : DataW Unit} {left : Lit → Bool} {ss : List Int} (h : CollI D0 left ss) {x : Int} {y : DataW Unit} (hlk : left (.int .i64 x) = true) (hat : ∀ zd, D0.atKey (.int .i64 x) zd = y) : CollI D0 (fun z => left z && !z.sameKey (.int .i64 x)) (ss ++ [x]) := by
  have hhas : has D0 (.int .i64 x) = true := has_true_of_atKey hat
  have hnew : x ∉ ss := fun hx => by have := ((h.2 x).1 hx).2; rw [hlk] at this; cases this
  refine ⟨List.nodup_append.2 ⟨h.1, by simp, fun a ha b hb => by simp at hb; subst hb; exact fun e => hnew (e ▸ ha)⟩, fun y => ?_⟩
  by_cases hy : y = x
  · subst hy; simp [hhas, Lit.sameKey]
  · simp [h.2 y, hy, Lit.sameKey]
theorem CollI.done {l : List S32} {left : Lit → Bool} {ss : List Int} (h : CollI (setI (keysA l l.length 0)) left ss) (hl : ∀ kl, left kl = false) : ss.mergeSort (fun x y => decide (x ≤ y)) = heightsA l :=
  sort_heights l ss h.1 fun x => by rw [h.2 x, hl, setI_has, keys_end]; simp

end Go.Proofs.YtjpifknencfipaaDoor.P

namespace Go.Proofs.YtjpifknencfipaaDoor.P
open Go.RowKit Go.Proofs.YtjpifknencfipaaDoorW.PrintWords Go.Proofs.YtjpifknencfipaaDoorW.PrintLast Go.Proofs.YtjpifknencfipaaDoorW.PrintMore

/-- atom.Right, in the form that the walks want. -/
theorem right_calls (A : Option Addr) (c : Nat) (l : List S32) (w : World) (hr : Kd.C k32 w A l.length l) (hc : l.length ≤ c) :
    Calls Tryd.prog 77 #[.slice A l.length c] w fun e w' => e = .returned (.bool (rightA l)) ∧ Below w.heap.size w w' :=
  atom_Right.calls (l.length + 1) A c l (rightA l) w hr hc (right_f l hr.2.1)
theorem right_yes (A : Option Addr) (c : Nat) (l : List S32) (w : World) (hr : Kd.C k32 w A l.length l) (hc : l.length ≤ c) (h : rightA l = true) :
    Calls Tryd.prog 77 #[.slice A l.length c] w fun e w' => e = .returned (.bool true) ∧ Below w.heap.size w w' := h ▸ right_calls A c l w hr hc
theorem right_not (A : Option Addr) (c : Nat) (l : List S32) (w : World) (hr : Kd.C k32 w A l.length l) (hc : l.length ≤ c) (h : rightA l = false) :
    Calls Tryd.prog 77 #[.slice A l.length c] w fun e w' => e = .returned (.bool false) ∧ Below w.heap.size w w' := h ▸ right_calls A c l w hr hc

/-- A filler. -/
def Filler (l : List S32) (h : Int) (g : Nat) (w : World) : Prop := Atoms l g w ∧ w.cell? ⟨g, 1, none⟩ = some (.int .i64 h)
theorem Filler.below {l : List S32} {h : Int} {g : Nat} {w w1 : World} (H : Filler l h g w) (hb : Below w.heap.size w w1) : Filler l h g w1 := ⟨H.1.below hb, pw_cell_below hb H.2⟩
theorem Filler.lt {l : List S32} {h : Int} {g : Nat} {w : World} (H : Filler l h g w) : g < w.heap.size := World.block_lt_of_cell? w _ H.2

set_option maxHeartbeats 1000000 in
set_option maxRecDepth 100000 in
theorem open_yes (A : Option Addr) (c : Nat) (l : List S32) (h : Int) (w : World) (hr : Kd.C k32 w A l.length l) (hc : l.length ≤ c) (hf : fineA l h = true) :
    Calls Tryd.prog 83 #[.slice A l.length c, .int .i64 h] w fun e w' => ∃ g : Nat, e = .returned (.tuple #[.pointer (some ⟨g, 0, none⟩), .nilIface]) ∧ Filler l h g w' ∧ w.heap.size ≤ g ∧ Below w.heap.size w w' := by
  unfold fineA at hf
  simp only [Bool.and_eq_true, decide_eq_true_eq] at hf
  obtain ⟨⟨h1, h2⟩, h3⟩ := hf
  have HR := Lib.hid (right_yes A c l w hr hc h1)
  have HC := Aside0.mk hr
  have hn : l.length ≤ 2000 := len_of h1
  have d1 : decide (h < 0) = false := decide_eq_false (by omega)
  have d2 : decide (2199023255552 < h) = false := decide_eq_false (by omega)
  clear hr h1
  go_enter Tryd.func83, Tryd.ntmps83
  go_wp2_with (go_at_call 77; refine HR.out.mono ?_; rintro e w1 ⟨rfl, hb⟩; have HB := Aside0.mk hb; clear hb)
  go_ret2
  have hb := HB.out
  refine ⟨w1.heap.size, rfl, ⟨⟨A, l.length, ?_, Nat.le_refl _, Kd.C_below HC.out (below_alloc hb _)⟩, ?_⟩, hb.size, below_alloc hb _⟩
  · simp
  · simp

set_option maxHeartbeats 1000000 in
set_option maxRecDepth 100000 in
theorem open_no (A : Option Addr) (c : Nat) (l : List S32) (h : Int) (w : World) (a : Addr) (hr : Kd.C k32 w A l.length l) (hc : l.length ≤ c) (hf : fineA l h = false) (hg : w.cell? ⟨2, 0, none⟩ = some (.iface 186 (.pointer (some a)))) :
    Calls Tryd.prog 83 #[.slice A l.length c, .int .i64 h] w fun e w' => e = .returned (.tuple #[.pointer none, .iface 186 (.pointer (some a))]) ∧ Below w.heap.size w w' := by
  have hn : l.length ≤ 9223372036854775807 := hr.2.1
  cases h1 : rightA l with
  | false =>
    have HR := Lib.hid (right_not A c l w hr hc h1)
    clear hr h1 hf
    go_enter Tryd.func83, Tryd.ntmps83
    go_wp2_with (go_at_call 77; refine HR.out.mono ?_; rintro e w1 ⟨rfl, hb⟩; have HB := Aside0.mk hb; have hg1 := pw_cell_below hb hg; clear hb)
    go_quiet (fail)
    go_wp2
    go_ret2
    exact ⟨rfl, pw_below_drewN HB.out _⟩
  | true =>
    have HR := Lib.hid (right_yes A c l w hr hc h1)
    have hd : decide (h < 0) = true ∨ (decide (h < 0) = false ∧ decide (2199023255552 < h) = true) := by
      unfold fineA at hf
      rw [h1] at hf
      by_cases h2 : h < 0
      · exact .inl (decide_eq_true h2)
      · refine .inr ⟨decide_eq_false h2, decide_eq_true ?_⟩
        have h3 : (decide (0 ≤ h) && decide (h ≤ 2199023255552)) = false := by simpa using hf
        simp only [Bool.and_eq_false_iff, decide_eq_false_iff_not] at h3
        omega
    clear hr h1 hf
    rcases hd with d1 | ⟨d1, d2⟩
    · go_enter Tryd.func83, Tryd.ntmps83
      go_wp2_with (go_at_call 77; refine HR.out.mono ?_; rintro e w1 ⟨rfl, hb⟩; have HB := Aside0.mk hb; have hg1 := pw_cell_below hb hg; clear hb)
      go_quiet (fail)
      go_wp2
      go_ret2
      exact ⟨rfl, pw_below_drewN HB.out _⟩
    · go_enter Tryd.func83, Tryd.ntmps83
      go_wp2_with (go_at_call 77; refine HR.out.mono ?_; rintro e w1 ⟨rfl, hb⟩; have HB := Aside0.mk hb; have hg1 := pw_cell_below hb hg; clear hb)
      go_quiet (fail)
      go_wp2
      go_ret2
      exact ⟨rfl, pw_below_drewN HB.out _⟩

end Go.Proofs.YtjpifknencfipaaDoor.P

namespace Go.Proofs.YtjpifknencfipaaDoor.P
open Go.RowKit Go.Shelf Go.Proofs.YtjpifknencfipaaDoorW.PrintWords Go.Proofs.YtjpifknencfipaaDoorW.PrintLast Go.Proofs.YtjpifknencfipaaDoorW.PrintMore
attribute [local go_sem] Oper.semAt_some

theorem wpIn_scope_wide {n : Nat} {P : Program} {c : Code} {Q : Exit → Act → World → Prop} {a : Act} {w : World} (h : c.wpIn Fence.wide n P (Exit.noGoto Q) a w) : (Code.scope c).wpIn Fence.wide n P Q a w :=
  wpIn_wide.2 (wp_scope_straight (wpIn_wide.1 h))

/-- A column's value. -/
structure Cv where
  f : Int
  t : Int
  H : Int
  o : Int
def Cv.enc (x : Cv) : Value := .agg #[.int .i64 x.f, .int .i64 x.t, .int .i64 x.H, .int .i64 x.o]
def ColA.cv (l : List S32) (c : ColA) : Cv := ⟨c.a, c.b, hiA l c.a c.b, c.over l⟩
def cvsA (l : List S32) (h : Int) : List Cv := (fillA l h).map (ColA.cv l)

/-- What a round keeps: what lay below the loop, and blocks of columns. -/
structure KpC (n₀ : Nat) (W W' : World) : Prop where
  bel : Below n₀ W W'
  col : ∀ (k : Nat) (cs : Array Value) (q : TypeId), (q = 120 ∨ q = 113) → W.heap[k]? = some (Obj.cells cs q (0, 0)) → W'.heap[k]? = some (Obj.cells cs q (0, 0))
theorem KpC.t {n₀ : Nat} {A B C : World} (h : KpC n₀ A B) (k : KpC n₀ B C) : KpC n₀ A C := ⟨h.bel.trans k.bel, fun i cs q hq hi => k.col i cs q hq (h.col i cs q hq hi)⟩
theorem KpC.b {n₀ : Nat} {w : World} (hn : n₀ ≤ w.heap.size) (W : World) (l : Nat) (o o' : Obj) (hl : w.heap.size ≤ l) (h : W.heap[l]? = some o) (hc : o.isCells = false) (hw : o.isWalk = false) : KpC n₀ W (W.putObj l o') :=
  ⟨belowK_b hn W l o o' hl h hc hw, fun k cs q hq hk => (World.putObj_heap_other (fun e => by
    subst e
    rw [h] at hk
    cases hk
    cases hc)).trans hk⟩

theorem Filler.below' {l : List S32} {h : Int} {g n₀ : Nat} {w w1 : World} (H : Filler l h g w) (hg : g < n₀) (hA : ∀ A c, w.cell? ⟨g, 0, none⟩ = some (.slice A l.length c) → Kd.C k32 w A l.length l → Kd.C k32 w1 A l.length l) (hb : Below n₀ w w1) : Filler l h g w1 := by
  obtain ⟨⟨A, c, h1, h2, h3⟩, h4⟩ := H
  exact ⟨⟨A, c, (hb.cell (p := ⟨g, 0, none⟩) hg).trans h1, h2, hA A c h1 h3⟩, (hb.cell (p := ⟨g, 1, none⟩) hg).trans h4⟩

theorem cols_len (l : List S32) (h : Int) : ∀ n a, (colsA l h n a).length ≤ n
  | 0, _ => by simp [colsA]
  | n + 1, a => by
    unfold colsA
    split
    · have := cols_len l h n (endA l h a).1
      simp
      exact this
    · simp
theorem cvs_len (l : List S32) (h : Int) : (cvsA l h).length ≤ l.length := by
  unfold cvsA fillA
  rw [List.length_map]
  exact cols_len l h l.length 0

theorem scan_bounds (l : List S32) (h : Int) (a : Nat) : ∀ n i, i ≤ (scanA l h a n i).1 ∧ (scanA l h a n i).1 ≤ i + n
  | 0, i => by simp [scanA]
  | n + 1, i => by
    unfold scanA
    split
    · simp
    · split
      · simp
      · have := scan_bounds l h a n (i + 1)
        omega
theorem end_bounds (l : List S32) (h : Int) (a : Nat) (ha : a < l.length) : a < (endA l h a).1 ∧ (endA l h a).1 ≤ l.length := by
  have hs := scan_bounds l h a (l.length - (a + 1)) (a + 1)
  unfold endA
  simp only []
  split
  · have := back_bounds l a (scanA l h a (l.length - (a + 1)) (a + 1)).1 (scanA l h a (l.length - (a + 1)) (a + 1)).1 (by omega) (by omega) (Nat.le_refl _)
    simp only []
    omega
  · simp only []
    omega

/-- How far the columns have come. -/
def Come (l : List S32) (h : Int) (pre : List Cv) (a : Nat) : Prop := ∃ n, cvsA l h = pre ++ (colsA l h n a).map (ColA.cv l) ∧ l.length - a ≤ n ∧ a ≤ l.length
theorem Come.start (l : List S32) (h : Int) : Come l h [] 0 := ⟨l.length, rfl, by omega, by omega⟩
theorem Come.next {l : List S32} {h : Int} {pre : List Cv} {a : Nat} (H : Come l h pre a) (ha : a < l.length) : Come l h (pre ++ [(colA l h a).cv l]) (colA l h a).b ∧ pre.length < (cvsA l h).length ∧ pre ++ [(colA l h a).cv l] <+: cvsA l h := by
  obtain ⟨n, h1, h2, h3⟩ := H
  obtain ⟨n, rfl⟩ : ∃ m, n = m + 1 := ⟨n - 1, by omega⟩
  unfold colsA at h1
  rw [if_pos ha] at h1
  have hb := end_bounds l h a ha
  refine ⟨⟨n, ?_, ?_, ?_⟩, ?_, ?_⟩
  · rw [h1]
    simp [colA]
  · simp only [colA]
    omega
  · exact hb.2
  · rw [h1]
    simp
  · rw [h1]
    exact ⟨(colsA l h n (endA l h a).1).map (ColA.cv l), by simp⟩
theorem Come.done {l : List S32} {h : Int} {pre : List Cv} {a : Nat} (H : Come l h pre a) (ha : ¬ a < l.length) : pre = cvsA l h := by
  obtain ⟨n, h1, h2, h3⟩ := H
  rw [h1]
  cases n with
  | zero => simp [colsA]
  | succ n => simp [colsA, ha]

set_option maxRecDepth 100000 in
set_option maxHeartbeats 2000000 in
theorem cols1_in (n : Nat) (hn : 1 ≤ n) (lp Bn n₀ g : Nat) (l : List S32) (hl : rightA l = true) (h : Int) (h0 : 0 ≤ h) (h1 : h ≤ 2199023255552) (J Jx : List Cv → World → Prop) (W : World) (hJ : AbidesFrom W.heap.size J)
    (hY : ∀ pre x W, J pre W → pre.length < (cvsA l h).length → YieldAt Fence.wide (n - 1) Tryd.prog lp #[Cv.enc x] W fun e W' =>
      (e = .returned (.bool true) ∧ J (pre ++ [x]) W' ∧ KpC n₀ W W') ∨ (e = .returned (.bool false) ∧ Jx (pre ++ [x]) W'))
    (hBn : W.heap[Bn]? = some (.cells #[.pointer (some ⟨g, 0, none⟩)] 113 (0, 0))) (w0 : World) (hw0 : w0.heap.size = n₀) (hWb : Below n₀ w0 W) (hF : Filler l h g w0) (hj : J [] W) :
    CallsIn Fence.wide n Tryd.prog 103 #[.func (.yield lp) #[] #[], .pointer (some ⟨Bn, 0, none⟩)] W fun e W' => (∃ v, e = .returned v) ∧
      ((∃ ys, ys = cvsA l h ∧ J ys W') ∨ (∃ pre, pre <+: cvsA l h ∧ Jx pre W')) := by
  refine callsIn_of_wp Tryd.func103 rfl trivial ?_ rfl
  simp only [Tryd.ntmps103, List.size_toArray, List.length_cons, List.length_nil, Nat.reduceAdd, Nat.reduceSub, Array.replicate_succ, Array.replicate_zero, List.push_toArray, List.append_toArray, List.nil_append, List.cons_append]
  gi_wp2
  refine wpIn_scope_wide ?_
  gi_wp2
  refine wpIn_label ?_
  gi_wp2
  gi_loopw [3] (fun p wr => ∃ (a : Nat) (pre : List Cv), p = .int .i64 a ∧ Aside0 (Come l h pre a) ∧ Aside0 (J pre wr) ∧ Below n₀ W wr ∧ wr.heap[Bn]? = some (.cells #[.pointer (some ⟨g, 0, none⟩)] 113 (0, 0))) (fun p _ => l.length - (intOf p).toNat)
  case atStart => exact ⟨0, [], rfl, ⟨Come.start l h⟩, ⟨hj⟩, Below.refl _ _, hBn⟩
  case round =>
    obtain ⟨a, pre, rfl, HC, HJ, hWr, hBr0⟩ := hrel
    have hFr : Filler l h g wr := hF.below (by rw [hw0]; exact hWb.trans hWr)
    have hBr : wr.cell? ⟨Bn, 0, none⟩ = some (.pointer (some ⟨g, 0, none⟩)) := (blk_cell hBr0 0).trans rfl
    have HBr := Aside0.mk hBr0
    clear hBr0
    have hlen := len_of hl
    have haL : a ≤ l.length := HC.out.choose_spec.2.2
    by_cases hlt : a < l.length
    · have hnext := Lib.hid (next_calls l hl h h0 h1 g a wr hFr.1 hFr.2 hlt)
      obtain ⟨⟨A, c, hc, hcl, hK⟩, hh⟩ := hFr
      have hgl : g < wr.heap.size := World.block_lt_of_cell? wr _ hc
      have hBl : Bn < wr.heap.size := World.block_lt_of_cell? wr _ hBr
      clear hK
      obtain ⟨hcome, hplen, hpre⟩ := HC.out.next hlt
      have hcb := end_bounds l h a hlt
      have hcb1 : (colA l h a).b = (endA l h a).1 := rfl
      rw [← hcb1] at hcb
      obtain ⟨B, hBe⟩ : ∃ B, (colA l h a).b = B := ⟨_, rfl⟩
      obtain ⟨H, hHe⟩ : ∃ H, hiA l a (colA l h a).b = H := ⟨_, rfl⟩
      obtain ⟨o, hoe⟩ : ∃ o, (colA l h a).over l = o := ⟨_, rfl⟩
      have hx : (colA l h a).cv l = (⟨a, B, H, o⟩ : Cv) := by
        unfold ColA.cv
        rw [← hBe, ← hHe, ← hoe]
        rfl
      rw [hx] at hcome hpre
      rw [hBe] at hcome hcb
      rw [hHe, hoe, hBe] at hnext
      have HC2 := Lib.hid hcome
      have HP := Lib.hid hpre
      have HL := Lib.hid hplen
      have hB0 : (0 : Int) ≤ B := by omega
      have hcbl := hcb.1
      clear hcome hplen hpre HC hx hBe hHe hoe hcb1
      gi_wp2_with (refine ⟨trivial, ?_⟩; gi_at_call 104; refine (callsIn_wide.2 hnext.out).mono ?_; rintro e w1 ⟨rfl, hb⟩; have hJ2 := hJ pre wr (w1.alloc (.cells #[.int .i64 a, .int .i64 B, .int .i64 H, .int .i64 o] 120)) none HJ.out (grown_of_below (below_alloc hb _) none) (fun r e => by cases e); obtain ⟨fn, tmps, assign, body, hy, hR⟩ := hY pre (⟨a, B, H, o⟩ : Cv) _ hJ2 HL.out; dsimp only [Cv.enc] at hy; have HB := Aside0.mk hb; clear hb hJ2)
      refine hR.mono ?_
      rintro e W3 (⟨rfl, hJ3, hk3⟩ | ⟨rfl, hJx3⟩)
      · have hcol := hk3.col w1.heap.size #[.int .i64 a, .int .i64 B, .int .i64 H, .int .i64 o] 120 (.inl rfl) (heap_alloc_new w1 _)
        have hcp := Aside0.mk (hk3.col Bn _ 113 (.inr rfl) ((below_alloc HB.out (.cells #[.int .i64 a, .int .i64 B, .int .i64 H, .int .i64 o] 120)).block Bn (blk_lt HBr.out) |>.trans HBr.out))
        have hc1 : W3.cell? ⟨w1.heap.size, 1, none⟩ = some (.int .i64 B) := (blk_cell hcol 1).trans rfl
        have HWW := Aside0.mk (hWr.trans ((below_alloc HB.out (.cells #[.int .i64 a, .int .i64 B, .int .i64 H, .int .i64 o] 120)).mono (by have := hWb.size; have := hWr.size; omega)))
        have HJ3 := Aside0.mk hJ3
        have hb3 := hk3.bel
        clear hcol hJ3 hy hR
        gi_wp2
        go_roundw
        case rel => exact ⟨B, _, rfl, ⟨HC2.out⟩, HJ3, HWW.out.trans hb3, hcp.out⟩
        case measure => simp [intOf]; omega
      · have HJx := Aside0.mk hJx3
        clear hJx3 hy hR
        gi_wp2
        rw [Exit.noGoto_normal]
        go_end0
        exact ⟨⟨_, rfl⟩, .inr ⟨_, HP.out, HJx.out⟩⟩
    · have HD := Lib.hid (HC.out.done hlt)
      obtain ⟨⟨A, c, hc, hcl, hK⟩, hh⟩ := hFr
      clear hK
      gi_wp2
      rw [Exit.noGoto_normal]
      go_end0
      exact ⟨⟨_, rfl⟩, .inl ⟨pre, HD.out, HJ.out⟩⟩

/-- (*filler).columns: the receiver is boxed, the closure captures the box. -/
theorem cols_calls (g : Nat) (w : World) :
    Calls Tryd.prog 85 #[.pointer (some ⟨g, 0, none⟩)] w fun e w' => e = .returned (.func (.func 103) #[] #[.pointer (some ⟨w.heap.size, 0, none⟩)]) ∧ w.alloc (.cells #[.pointer (some ⟨g, 0, none⟩)] 113) = w' := by
  go_enter Tryd.func85, Tryd.ntmps85
  go_wp2
  go_ret
  exact ⟨rfl, rfl⟩

/-- The iterator's contract. -/
theorem cols_stops (n : Nat) (hn : 1 ≤ n) (Bn n₀ g : Nat) (l : List S32) (hl : rightA l = true) (h : Int) (h0 : 0 ≤ h) (h1 : h ≤ 2199023255552) (w : World) (hn0 : n₀ ≤ w.heap.size)
    (hBn : w.heap[Bn]? = some (.cells #[.pointer (some ⟨g, 0, none⟩)] 113 (0, 0))) (w0 : World) (hw0 : w0.heap.size = n₀) (hwb : Below n₀ w0 w) (hF : Filler l h g w0) :
    SeqStopsK Fence.wide n Tryd.prog 103 #[.pointer (some ⟨Bn, 0, none⟩)] (fun x : Cv => #[Cv.enc x]) (KpC n₀) (fun ys => ys = cvsA l h) (fun pre => pre <+: cvsA l h) (cvsA l h).length w := fun lp J Jx W hW hJ _ hY hj =>
  cols1_in n hn lp Bn n₀ g l hl h h0 h1 J Jx W hJ hY ((hW.block Bn (blk_lt hBn)).trans hBn) w0 hw0 (hwb.trans (hW.mono hn0)) hF hj

end Go.Proofs.YtjpifknencfipaaDoor.P

namespace Go.Proofs.YtjpifknencfipaaDoor.P
open Go.RowKit Go.Shelf Go.Proofs.YtjpifknencfipaaDoorW.PrintWords Go.Proofs.YtjpifknencfipaaDoorW.PrintLast Go.Proofs.YtjpifknencfipaaDoorW.PrintMore

/-- An append to a boxed row, stored back: blocks of other types lie as they lay. -/
theorem appended_col {W w1 : World} {n₀ B : Nat} {t e : TypeId} {size : Nat} {v v' : Value} {k : Nat} {xs : List Value} {tmp : Obj}
    (hv : Boxed W B t v) (hrow : W.ownsRow n₀ e size v k xs) (hgrow : (W.alloc tmp).grownBy w1 v.ownBlock) (j : Nat) (cs : Array Value) (q : TypeId) (h1 : q ≠ t) (h2 : q ≠ e) (h : W.heap[j]? = some (Obj.cells cs q (0, 0))) :
    (w1.setCell ⟨B, 0, none⟩ v').heap[j]? = some (Obj.cells cs q (0, 0)) := by
  have hjB : j ≠ B := by
    rintro rfl
    rw [show W.heap[j]? = _ from hv] at h
    cases h
    exact h1 rfl
  have hjo : some j ≠ v.ownBlock := by
    intro e'
    rcases hrow.2 with ⟨rfl, _⟩ | ⟨g, cap, cur, rfl, hb, hgb, _⟩
    · simp [Value.ownBlock] at e'
    · obtain rfl : j = g := by simpa [Value.ownBlock] using e'
      rw [hgb] at h
      cases h
      exact h2 rfl
  have ha : (W.alloc tmp).heap[j]? = some (Obj.cells cs q (0, 0)) := (Below.heap_alloc W tmp j (blk_lt h)).trans h
  exact (Below.heap_setCell w1 ⟨B, 0, none⟩ v' j hjB).trans ((hgrow.block j (blk_lt ha) hjo).trans ha)
theorem KpC.alloc {n₀ : Nat} (W : World) (h : n₀ ≤ W.heap.size) (o : Obj) : KpC n₀ W (W.alloc o) := ⟨(Below.refl _ W).alloc h _, fun k cs q _ hk => (Below.heap_alloc W o k (blk_lt hk)).trans hk⟩
theorem KpC.set {n₀ B : Nat} {W : World} {t : TypeId} {cs : Array Value} (hB : n₀ ≤ B) (h : W.heap[B]? = some (.cells cs t (0, 0))) (h1 : t ≠ 120) (h2 : t ≠ 113) (j : Nat) (u : Value) : KpC n₀ W (W.setCell ⟨B, j, none⟩ u) :=
  ⟨(Below.refl _ W).setCell (p := ⟨B, j, none⟩) hB u, fun k cs' q hq hk => (Below.heap_setCell W ⟨B, j, none⟩ u k (by
    rintro rfl
    rw [h] at hk
    cases hk
    rcases hq with e | e
    · exact h1 e
    · exact h2 e)).trans hk⟩

/-- The cells of columns, as Fill writes them. -/
def outC : List Cv → List Value
  | [] => []
  | x :: xs => .int .i64 x.f :: .int .i64 x.t :: .int .i64 x.H :: outC xs
theorem outC_snoc : ∀ (pre : List Cv) (x : Cv), outC (pre ++ [x]) = outC pre ++ [.int .i64 x.f, .int .i64 x.t, .int .i64 x.H]
  | [], x => rfl
  | y :: ys, x => by
    show _ :: _ :: _ :: outC (ys ++ [x]) = _ :: _ :: _ :: (outC ys ++ _)
    rw [outC_snoc ys x]
def Cv.s (x : Cv) : S73 := ⟨x.f, x.t, x.H⟩
theorem outC_reps (w : World) (base : Nat) (ok : Nat → Prop) : ∀ pre : List Cv, Reps (k73.M w base ok) 3 (pre.map Cv.s) (outC pre)
  | [] => Reps.none _ _
  | x :: xs => Reps.c3 (k73_mkM w base ok x.s) (outC_reps w base ok xs)
theorem out_R {w : World} {n₀ : Nat} {v : Value} {pre : List Cv} (h : w.ownsRow n₀ 73 3 v pre.length (outC pre)) : Kd.R k73 73 w n₀ (fun _ => True) v (pre.map Cv.s) :=
  ⟨fun _ _ => trivial, outC pre, by rw [List.length_map]; exact h, outC_reps _ _ _ _⟩
theorem cvs_out (l : List S32) (h : Int) : (cvsA l h).map Cv.s = (fillA l h).map (ColA.out l) := by
  unfold cvsA
  rw [List.map_map]
  rfl

end Go.Proofs.YtjpifknencfipaaDoor.P
