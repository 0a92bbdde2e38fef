/- Laws of the walk that the kit lacks: a statement whose order is open, of which all operations but the last few leave the world alone but for draws; a scope in which the run jumps forward; a scope in company. Conditions: as each says. · (*band).add: what is not empty is added behind, joined where it touches. Conditions: the band's slice lies in the call's own memory. · (*band).spans: the iterator over a band's spans. Conditions: the band's slice reads as a list. -/
import Derived.Test.YtomgpbhkoellpaaDoorP
import Derived.Deep.Quiet
import Derived.StillTail
import Derived.Deep.QuietTactic
import Derived.BigQuiet
import Derived.ScopeJumps
import Derived.WalkMore
import Derived.RangeFuncNested
import Derived.RangeFuncBound
import Derived.RangeFuncCalls
import Derived.RangeFuncLeaves
import Derived.RangeFuncBox
import Derived.Shelf.Abstract
import Derived.Shelf.RegionOpen
import Derived.WalkKit
import Derived.OwnWalkIn
import Derived.TacticsInMore
import Derived.LoopNIn
import Derived.LoopIn
import Derived.Maps.AppendAt
import Derived.Lib.Hide
import Derived.Test.YtomgpbhkoellpaaDoorFm
set_option linter.unusedVariables false
set_option linter.unusedSimpArgs false
namespace Go.Proofs.YtomgpbhkoellpaaDoor
open Go.RowKit Go.Shelf

section
variable {P : Program} {ops : Array Oper} {md : Region.Mode} {C : World → Prop} {n : Nat} {L : Array Bool → Act → Prop}

/-- Whatever order is picked among the head's operations. -/
def HeadQ (P : Program) (md : Region.Mode) (ops : Array Oper) (C : World → Prop) (n : Nat) (L : Array Bool → Act → Prop) : Nat → Array Bool → Act → Prop
  | 0, listed, a => L listed a
  | f + 1, listed, a => Region.ready md ops listed ≠ [] ∧ ∀ i ∈ Region.ready md ops listed, i < n ∧ qOp P ops C i (HeadQ P md ops C n L f (listed.setIfInBounds i true)) a

theorem HeadQ.any {g : Nat} {Q' : Exit → Act → World → Prop} (hL : ∀ listed a w, C w → L listed a → wpAny P md ops Q' g listed a w) (f : Nat) :
    ∀ (listed : Array Bool) (a : Act) (w : World), C w → HeadQ P md ops C n L f listed a → wpAny P md ops Q' (f + g) listed a w := by
  induction f with
  | zero =>
    intro listed a w hw h
    rw [Nat.zero_add]
    exact hL _ _ _ hw h
  | succ f ih =>
    intro listed a w hw h
    rw [show f + 1 + g = (f + g) + 1 by omega]
    exact ⟨fun h0 => absurd h0 h.1, fun i hi => wpOp_of_qOp hw (fun a' w' hw' => ih _ a' w' hw') (h.2 i hi).2⟩

theorem HeadQ.first {i : Nat} {oi : Oper} {v : Value} (hi : ops[i]? = some oi) (hsel : ∀ (j : Nat) (o : Oper) cs b, ops[j]? = some o → o.op ≠ .select cs b)
    (hs : Region.sinkB md ops n = true) (hc : Region.chainB md ops n = true) (hn : n < ops.size) (hin : i < n) (hdone : ∀ listed a, L listed a → ∀ j ∈ Region.ready md ops listed, n ≤ j) (f : Nat) :
    ∀ (listed : Array Bool) (a : Act), HeadInv md ops n listed →
      (∀ j oj, ops[j]? = some oj → j ≠ i → listed.getD j true = false → (∀ e ∈ oj.after, Region.binds md e = true → e.on ≠ i) → oi.apart ops oj = true) →
      i ∈ Region.ready md ops listed → YieldsIn P ops C oi v a →
      HeadQ P md ops C n L f (listed.setIfInBounds i true) (a.put oi.dst v) → HeadQ P md ops C n L (f + 1) listed a := by
  induction f with
  | zero =>
    intro listed a inv _ hr hy H
    have hun := (mem_ready.1 hr).1
    refine ⟨fun h0 => by (rw [h0] at hr; cases hr), fun j hj => ?_⟩
    have hjn : j < n := Nat.lt_of_not_le fun hle => absurd hj (tail_waits hs hc hn inv _ i rfl hin hun j hle)
    by_cases e : j = i
    · exact ⟨hjn, e ▸ hy.qOp hi H⟩
    · exact absurd (hdone _ _ H j (ready_mono hj e)) (by omega)
  | succ f ih =>
    intro listed a inv hfree hr hy H
    have hun := (mem_ready.1 hr).1
    refine ⟨fun h0 => by (rw [h0] at hr; cases hr), fun j hj => ?_⟩
    have hjn : j < n := Nat.lt_of_not_le fun hle => absurd hj (tail_waits hs hc hn inv _ i rfl hin hun j hle)
    by_cases e : j = i
    · exact ⟨hjn, e ▸ hy.qOp hi H⟩
    · refine ⟨hjn, ?_⟩
      obtain ⟨hjun, oj, hoj, hall⟩ := mem_ready.1 hj
      have hno : ∀ d ∈ oj.after, Region.binds md d = true → d.on ≠ i := fun d hd hb he => by
        have h1 := hall d hd hb
        rw [he, getD_both hun] at h1
        cases h1
      refine qOp_mono (fun a' h3 => ih (listed.setIfInBounds j true) a' (inv.set hj hjn) ?_ (ready_mono hr (Ne.symm e)) h3.1 ?_)
        (qOp_put hoj (hfree j oj hoj e hjun hno) (fun cs b => hsel i oi cs b hi) (fun cs b => hsel j oj cs b hoj) hy (H.2 j (ready_mono hj e)).2)
      · intro k ok hk hki hku hkn
        refine hfree k ok hk hki ?_ hkn
        by_cases hjk : j = k
        · exact hjk ▸ hjun
        · rwa [getD_set_ne true hjk] at hku
      · rw [Array.setIfInBounds_comm _ _ e]
        exact h3.2

theorem HeadQ.lex {g : Nat} {Lq : Act → Prop} (hsel : Region.noSelect ops = true) (hs : Region.sinkB md ops n = true) (hc : Region.chainB md ops n = true) (hn : n < ops.size) (l : List Oper) :
    ∀ (k : Nat) (listed : Array Bool) (a : Act), (∀ j, j < l.length → l[j]? = ops[k + j]?) → k + l.length = n → HeadInv md ops n listed →
    Region.lexHead md ops g l.length k listed = true → wpQuiet P ops C Lq l a → HeadQ P md ops C n (fun listed' a' => Region.seqB md ops g n listed' = true ∧ Lq a') l.length listed a := by
  induction l with
  | nil =>
    intro k listed a _ hk _ hB h
    obtain rfl : k = n := by simpa using hk
    exact ⟨by simpa [Region.lexHead] using hB, h⟩
  | cons o l ih =>
    intro k listed a hl hk inv hB h
    have h0 : ops[k]? = some o := by simpa using (hl 0 (by simp)).symm
    simp only [List.length_cons, Region.lexHead, Bool.and_eq_true] at hB
    obtain ⟨⟨hr, hf⟩, hB'⟩ := hB
    have hkn : k < n := by simp only [List.length_cons] at hk; omega
    have hr' : k ∈ Region.ready md ops listed := by simpa using hr
    obtain ⟨v, hy, hK⟩ := yieldsIn_of_qOp (K := wpQuiet P ops C Lq l) h0 (by unfold qOp; simp only [h0]; exact h)
    exact HeadQ.first h0 (Region.noSelect_spec hsel) hs hc hn hkn (fun listed' a' hL => seqB_ready hL.1) l.length listed a inv (Region.free_spec h0 hf) hr' hy
      (ih (k + 1) _ _ (fun j hj => by have := hl (j + 1) (by simp; omega); simpa [Nat.add_assoc, Nat.add_comm 1 j] using this) (by simp only [List.length_cons] at hk; omega) (inv.set hr' hkn) hB' hK)
end

/-- The head's walk, then the tail's from every world of the class. -/
theorem wp_region_quiet_tail {P : Program} (C : World → Prop) {id : Nat} {Q : Exit → Act → World → Prop} {a : Act} {w : World} {l : List Oper} (n : Nat) (hm : P.follows .mixedOrders = true) (hB : Region.lexTailB .any l.toArray n = true)
    (hC : C { w with drawn := w.drawn + 1 }) (h : wpQuiet P l.toArray C (fun a' => ∀ w', C w' → wpList P l.toArray Q (l.drop n) a' w') (l.take n) a) : (Code.region id l.toArray true).wp P Q a w := by
  simp only [Region.lexTailB, Bool.and_eq_true, decide_eq_true_eq] at hB
  obtain ⟨⟨⟨⟨hsel, hn⟩, hs⟩, hc⟩, hlex⟩ := hB
  have hnl : n < l.length := by simpa using hn
  have htl : (l.take n).length = n := by simp; omega
  have hdl : (l.drop n).length = l.toArray.size - n := by simp
  refine wp_region_any hm ?_
  have inv : HeadInv .any l.toArray n (Array.replicate l.toArray.size false) :=
    ⟨by simp, fun j oj _ hl => by (rw [getD_replicate_false] at hl; cases hl), fun t _ ht => by simp at ht ⊢; simp [ht]⟩
  have H := HeadQ.lex (P := P) (md := .any) (C := C) (g := l.toArray.size - n) hsel hs hc hn (l.take n) 0 (Array.replicate l.toArray.size false) a
    (fun j hj => by rw [htl] at hj; simp [hj]) (by rw [htl]; omega) inv (by rw [htl]; exact hlex) h
  have H2 := HeadQ.any (g := l.toArray.size - n) (Q' := Q) (fun listed a' w' hw hL => by
    have := wpAny_of_seq (md := .any) (Q' := Q) (l.drop n) n listed a' w' (fun j => by simp [List.getElem?_drop]) (by rw [hdl]; exact hL.1) (hL.2 w' hw)
    rwa [hdl] at this) _ _ _ _ hC H
  rw [htl, show n + (l.toArray.size - n) = l.toArray.size by omega] at H2
  exact H2

/-- At the class 'the world after some draws'. -/
theorem wp_region_quiet_tail_lit {P : Program} {id : Nat} {Q : Exit → Act → World → Prop} {a : Act} {w : World} {l : List Oper} (n : Nat) (hm : P.follows .mixedOrders = true) (hB : Region.lexTailB .any l.toArray n = true)
    (h : wpQuiet P l.toArray (fun w' => ∃ m, w' = w.drewN m) (fun a' => ∀ w', (∃ m, w' = w.drewN m) → wpList P l.toArray Q (l.drop n) a' w') (l.take n) a) : (Code.region id l.toArray true).wp P Q a w :=
  wp_region_quiet_tail (fun w' => ∃ m, w' = w.drewN m) n hm hB ⟨1, rfl⟩ h

/-! ### A scope in which the run jumps forward, at most k times: the walk goes on behind each label -/
def Follow (P : Program) (c : Code) : Nat → (Exit → Act → World → Prop) → Exit → Act → World → Prop
  | 0, Q => Exit.noGoto Q
  | k + 1, Q => fun e a w => match e with
    | .goto l => ∃ rest, findLabel c l = some rest ∧ rest.wp P (Follow P c k Q) a w
    | e => Q e a w
theorem Follow.normal {P : Program} {c : Code} (k : Nat) {Q : Exit → Act → World → Prop} {a : Act} {w : World} (h : Q .normal a w) : Follow P c k Q .normal a w := by cases k <;> exact h
theorem Follow.exit {P : Program} {c : Code} (k : Nat) {Q : Exit → Act → World → Prop} {id : Nat} {a : Act} {w : World} (h : Q (.exit id) a w) : Follow P c k Q (.exit id) a w := by cases k <;> exact h
theorem Follow.ret {P : Program} {c : Code} (k : Nat) {Q : Exit → Act → World → Prop} {a : Act} {w : World} (h : Q .ret a w) : Follow P c k Q .ret a w := by cases k <;> exact h
theorem Follow.goto {P : Program} {c rest : Code} (k : Nat) {Q : Exit → Act → World → Prop} {l : Nat} {a : Act} {w : World} (hf : findLabel c l = some rest) (h : rest.wp P (Follow P c k Q) a w) : Follow P c (k + 1) Q (.goto l) a w := ⟨rest, hf, h⟩

theorem wp_scope_follow {P : Program} {c : Code} (k : Nat) {Q : Exit → Act → World → Prop} {a : Act} {w : World} (h : c.wp P (Follow P c k Q) a w) : (Code.scope c).wp P Q a w := by
  intro b t cs
  have key : ∀ k (rest : Code) a w, rest.wp P (Follow P c k Q) a w → ∃ e a' w', Q e a' w' ∧ Arrives P (lone (b.at a (.code rest :: .inScope c :: t)) cs w) b t cs e a' w' := by
    intro k
    induction k with
    | zero =>
      intro rest a w h
      obtain ⟨e, a1, w1, hq, har⟩ := h b (.inScope c :: t) cs
      cases e with
      | normal => exact ⟨.normal, a1, w1, hq, Steps.trans har (.one step_inScope)⟩
      | exit id => exact ⟨.exit id, a1, w1, hq, fun k' hk => har k' (by simp [exitTo, hk])⟩
      | goto l => exact hq.elim
      | ret => exact ⟨_, a1, w1, hq, har⟩
      | panic ch => exact ⟨_, a1, w1, hq, har⟩
      | outgrown => exact ⟨_, a1, w1, hq, har⟩
    | succ k ih =>
      intro rest a w h
      obtain ⟨e, a1, w1, hq, har⟩ := h b (.inScope c :: t) cs
      cases e with
      | normal => exact ⟨.normal, a1, w1, hq, Steps.trans har (.one step_inScope)⟩
      | exit id => exact ⟨.exit id, a1, w1, hq, fun k' hk => har k' (by simp [exitTo, hk])⟩
      | goto l =>
        obtain ⟨r, hf, hr⟩ := hq
        obtain ⟨e2, a2, w2, hq2, har2⟩ := ih r a1 w1 hr
        exact ⟨e2, a2, w2, hq2, .of_steps (har _ (by simp [gotoIn, hf])) har2⟩
      | ret => exact ⟨_, a1, w1, hq, har⟩
      | panic ch => exact ⟨_, a1, w1, hq, har⟩
      | outgrown => exact ⟨_, a1, w1, hq, har⟩
  obtain ⟨e, a1, w1, hq, har⟩ := key k c a w h
  cases e with
  | normal => exact ⟨.normal, a1, w1, hq, .head step_scope har⟩
  | exit id => exact ⟨.exit id, a1, w1, hq, fun k' hk => .head step_scope (har k' hk)⟩
  | goto l => exact ⟨.goto l, a1, w1, hq, fun k' hk => .head step_scope (har k' hk)⟩
  | ret => exact ⟨_, a1, w1, hq, .of_steps (.one step_scope) har⟩
  | panic ch => exact ⟨_, a1, w1, hq, .of_steps (.one step_scope) har⟩
  | outgrown => exact ⟨_, a1, w1, hq, .of_steps (.one step_scope) har⟩

/-- What holds of the world is all that is kept. -/
theorem wp_world {P : Program} {c : Code} {Q : Exit → Act → World → Prop} {a : Act} {W : World} (R : World → Prop) (hR : R W) (h : ∀ W1, R W1 → Code.wp P c Q a W1) : Code.wp P c Q a W := h W hR

/-! ### A second quiet region -/
theorem quiet_add {P : Program} {f : FuncId} {args : Array Value} {w : World} {a n : Nat} {v : Value}
    (h : Calls P f args (w.drewN (a + n)) fun e w' => e = .returned v ∧ ∃ m, w' = (w.drewN (a + n)).drewN m) :
    Calls P f args (w.drewN (a + n)) fun e w'' => e = .returned v ∧ ∃ m, w'' = w.drewN (a + m) :=
  h.mono fun _ _ ⟨he, m, hm⟩ => ⟨he, n + m, by rw [hm, World.drewN_drewN, Nat.add_assoc]⟩
theorem quiet_add_left {P : Program} {f : FuncId} {args : Array Value} {w : World} {a n : Nat} {v : Value}
    (h : Calls P f args (w.drewN (a + n)) fun e w' => e = .returned v ∧ w.drewN (a + n) = w') :
    Calls P f args (w.drewN (a + n)) fun e w'' => e = .returned v ∧ ∃ m, w'' = w.drewN (a + m) :=
  h.mono fun _ _ ⟨he, hm⟩ => ⟨he, n, hm.symm⟩
theorem quiet_left {P : Program} {f : FuncId} {args : Array Value} {w : World} {n : Nat} {v : Value}
    (h : Calls P f args (w.drewN n) fun e w' => e = .returned v ∧ w.drewN n = w') : Calls P f args (w.drewN n) fun e w'' => e = .returned v ∧ ∃ m, w'' = w.drewN m :=
  h.mono fun _ _ ⟨he, hm⟩ => ⟨he, n, hm.symm⟩

theorem wpIn_scope_wide {n : Nat} {P : Program} {c : Code} {Q : Exit → Act → World → Prop} {a : Act} {w : World} (h : c.wpIn Fence.wide n P (Exit.noGoto Q) a w) : (Code.scope c).wpIn Fence.wide n P Q a w :=
  wpIn_wide.2 (wp_scope_straight (wpIn_wide.1 h))


theorem ret_int {k : IntKind} {a b : Int} (h : a = b) : Ending.returned (.int k a) = .returned (.int k b) := by rw [h]
theorem ret_bool {a b : Bool} (h : a = b) : Ending.returned (.bool a) = .returned (.bool b) := by rw [h]
end Go.Proofs.YtomgpbhkoellpaaDoor

namespace Go.Proofs.YtomgpbhkoellpaaDoor.P
open Go.RowKit Go.Proofs.YtomgpbhkoellpaaDoorW.PrintWords Go.Proofs.YtomgpbhkoellpaaDoorW.PrintLast Go.Proofs.YtomgpbhkoellpaaDoorW.PrintMore
attribute [local go_sem] max2_int min2_int max_two min_two max_three min_three max_four min_four

/-- The cells of spans. -/
def cellsB : List S24 → List Value
  | [] => []
  | x :: xs => .int .i64 x.f0 :: .int .i64 x.f1 :: cellsB xs
theorem cellsB_append : ∀ xs ys : List S24, cellsB (xs ++ ys) = cellsB xs ++ cellsB ys
  | [], ys => rfl
  | x :: xs, ys => by
    show _ :: _ :: cellsB (xs ++ ys) = _
    rw [cellsB_append xs ys]
    rfl
theorem cellsB_len : ∀ xs : List S24, (cellsB xs).length = xs.length * 2
  | [] => rfl
  | x :: xs => by
    show (cellsB xs).length + 1 + 1 = (xs.length + 1) * 2
    rw [cellsB_len xs]
    omega
theorem addB_snoc (y : S24) (f t : Int) : ∀ pre : List S24, addB (pre ++ [y]) f t = if f ≥ t then pre ++ [y] else if y.f1 ≥ f then pre ++ [⟨y.f0, max y.f1 t⟩] else pre ++ [y, ⟨f, t⟩]
  | [] => rfl
  | [x] => by
    show x :: addB [y] f t = _
    unfold addB
    split
    · rfl
    · split <;> rfl
  | x :: z :: zs => by
    show x :: addB ((z :: zs) ++ [y]) f t = _
    rw [addB_snoc y f t (z :: zs)]
    split
    · rfl
    · split <;> rfl
theorem addB_len (l : List S24) (f t : Int) : l.length ≤ (addB l f t).length ∧ (addB l f t).length ≤ l.length + 1 := by
  rcases List.eq_nil_or_concat l with rfl | ⟨pre, y, rfl⟩
  · unfold addB
    split <;> simp
  · rw [List.concat_eq_append, addB_snoc]
    split
    · simp
    · split <;> simp

/-- What a step on a cutter leaves alone: all but the cutter's block, and the block of what it has made. -/
structure Fr (g : Nat) (v : Value) (W W' : World) : Prop where
  os : W'.os = W.os
  tape : W'.tape = W.tape
  output : W'.output = W.output
  size : W.heap.size ≤ W'.heap.size
  block : ∀ k, k < W.heap.size → k ≠ g → some k ≠ v.ownBlock → W'.heap[k]? = W.heap[k]?
theorem Fr.refl (g : Nat) (v : Value) (W : World) : Fr g v W W := ⟨rfl, rfl, rfl, Nat.le_refl _, fun _ _ _ _ => rfl⟩
/-- A cutter in memory: what it cuts, what it has made so far. -/
structure Cut (n₀ g : Nat) (lv v : Value) (out : List S24) (W : World) : Prop where
  le : n₀ ≤ g
  cell : W.heap[g]? = some (.cells #[lv, v] 49 (0, 0))
  row : W.ownsRow n₀ 24 2 v out.length (cellsB out)
theorem Fr.below {g n₀ : Nat} {v : Value} {W W' : World} (h : Fr g v W W') (hn : n₀ ≤ W.heap.size) (hg : n₀ ≤ g) (hv : ∀ k, v.ownBlock = some k → n₀ ≤ k) : Below n₀ W W' :=
  ⟨h.os, h.tape, h.output, h.size, fun k hk => h.block k (by omega) (by omega) (fun e => by have := hv k e.symm; omega)⟩

/-- Nothing to add. -/
theorem add_none (n₀ g : Nat) (lv v : Value) (out : List S24) (f t : Int) (W : World) (hC : Cut n₀ g lv v out W) (hft : f ≥ t) (hlen : out.length ≤ 2000000) :
    Calls Tryd.prog 34 #[.pointer (some ⟨g, 1, none⟩), .int .i64 f, .int .i64 t] W fun e W' => e = .returned (.tuple #[]) ∧ W = W' := by
  have c1 : W.cell? ⟨g, 1, none⟩ = some v := (blk_cell hC.cell 1).trans rfl
  rcases hC.row.2 with ⟨rfl, h0⟩ | ⟨b, cap, cur, rfl, _⟩
  · clear hC
    go_enter Tryd.func34, Tryd.ntmps34
    go_wp2
    go_end0
    exact ⟨rfl, rfl⟩
  · clear hC
    go_enter Tryd.func34, Tryd.ntmps34
    go_wp2
    go_end0
    exact ⟨rfl, rfl⟩

theorem touch_done {n₀ g b L cap nq : Nat} {lv : Value} {pre : List S24} {y : S24} {t u : Int} {W : World} (hle : n₀ ≤ g) (hgb : g ≠ b) (hL : pre.length + 1 = L) (hcell : W.heap[g]? = some (.cells #[lv, .slice (some ⟨b, 0, none⟩) L cap] 49 (0, 0)))
    (hrow : W.ownsRow n₀ 24 2 (.slice (some ⟨b, 0, none⟩) L cap) L (cellsB (pre ++ [y]))) (hu : u = max y.f1 t) :
    Cut n₀ g lv (.slice (some ⟨b, 0, none⟩) L cap) (pre ++ [⟨y.f0, max y.f1 t⟩]) ((W.drewN nq).setCell ⟨b, pre.length * 2 + 1, none⟩ (.int .i64 u)) ∧ Fr g (.slice (some ⟨b, 0, none⟩) L cap) W ((W.drewN nq).setCell ⟨b, pre.length * 2 + 1, none⟩ (.int .i64 u)) := by
  have h1 : (W.drewN nq).ownsRow n₀ 24 2 (.slice (some ⟨b, 0, none⟩) L cap) L (cellsB (pre ++ [y])) := hrow
  have h2 := h1.stored (pre.length * 2 + 1) (.int .i64 u)
  have h3 : (cellsB (pre ++ [y])).set (pre.length * 2 + 1) (.int .i64 u) = cellsB (pre ++ [⟨y.f0, max y.f1 t⟩]) := by
    rw [cellsB_append, List.set_append_right _ _ (by rw [cellsB_len]; omega), cellsB_len, cellsB_append, hu]
    simp [cellsB]
  rw [h3] at h2
  refine ⟨⟨hle, ?_, ?_⟩, ⟨rfl, rfl, rfl, by simp, fun k hk hg hv => ?_⟩⟩
  · exact (heap_setCell_other _ _ _ _ hgb).trans hcell
  · rw [show (pre ++ [(⟨y.f0, max y.f1 t⟩ : S24)]).length = L by simp [← hL]]
    exact h2.1
  · exact heap_setCell_other _ _ _ _ (fun e => hv (by simp [Value.ownBlock, e]))
/-- The last span touches: its end is moved. -/
theorem add_touch (n₀ g : Nat) (lv v : Value) (pre : List S24) (y : S24) (f t : Int) (W : World) (hC : Cut n₀ g lv v (pre ++ [y]) W) (hft : ¬ f ≥ t) (hy : y.f1 ≥ f) (hlen : pre.length ≤ 2000000) :
    Calls Tryd.prog 34 #[.pointer (some ⟨g, 1, none⟩), .int .i64 f, .int .i64 t] W fun e W' => e = .returned (.tuple #[]) ∧ Cut n₀ g lv v (pre ++ [⟨y.f0, max y.f1 t⟩]) W' ∧ Fr g v W W' := by
  have c1 : W.cell? ⟨g, 1, none⟩ = some v := (blk_cell hC.cell 1).trans rfl
  obtain ⟨hle, hcell, hrow⟩ := hC
  have hrow0 := hrow
  rcases hrow.2 with ⟨_, h0⟩ | ⟨b, cap, cur, rfl, hb, hbk, hcap, _⟩
  · simp at h0
  · have hgb : g ≠ b := by
      rintro rfl
      rw [hcell] at hbk
      cases hbk
    have hL : (pre ++ [y]).length = pre.length + 1 := by simp
    rw [hL] at hrow c1 hcap
    have hat : W.cell? ⟨b, pre.length * 2 + 1, none⟩ = some (.int .i64 y.f1) := by
      rw [hrow.cellAt _ (by omega), cellsB_append, List.getElem?_append_right (by rw [cellsB_len]; omega), cellsB_len]
      simp [cellsB]
    have hfz := hrow.frozenAt (pre.length * 2 + 1)
    rw [hL] at hcell
    have HD := Aside0.mk (fun nq u hu => touch_done (nq := nq) (u := u) (t := t) hle hgb rfl hcell hrow hu)
    obtain ⟨m, hm⟩ : ∃ m, pre.length = m := ⟨_, rfl⟩
    rw [hL]
    rw [hm] at hat hfz HD c1 hcap hlen ⊢
    obtain ⟨L, hLm⟩ : ∃ L, m + 1 = L := ⟨_, rfl⟩
    rw [hLm] at c1 hcap HD ⊢
    have e1 : IntKind.i64.wrap ((L : Int) - 1) = m := by rw [IntKind.wrap_i64]; omega
    have q1 : (0 : Int) < (L : Int) := by omega
    have q2 : (0 : Int) ≤ (m : Int) := by omega
    have q3 : (m : Int) < (L : Int) := by omega
    clear hL hLm hm
    clear hrow hrow0 hbk hcell hb
    go_enter Tryd.func34, Tryd.ntmps34
    go_wp2
    refine wp_region_quiet_tail_lit 19 (by kernel_rfl) (by kernel_rfl) ?_
    simp only [List.take_succ_cons, List.take_zero, List.drop_succ_cons, List.drop_zero]
    repeat (quiet_step (fail))
    refine wpQuiet_nil ?_
    intro _ hw'
    obtain ⟨nq, hw''⟩ := hw'
    subst hw''
    go_wp2
    all_goals
      go_end0
      exact ⟨rfl, HD.out _ _ (by omega)⟩

theorem cell_alloc' {w : World} {p : Addr} {v : Value} (h : w.cell? p = some v) (o : Obj) : (w.alloc o).cell? p = some v := pw_cell_below (below_alloc (Below.refl _ w) o) h
theorem cell_two_new (w : World) (x y : Value) (t : TypeId) : ∀ j u, [x, y][j]? = some u → (w.alloc (.cells #[x, y] t)).cell? ((⟨w.heap.size, 0, none⟩ : Addr).add j) = some u := by
  intro j u hj
  have hb := World.alloc_heap_new w (.cells #[x, y] t)
  match j, hj with
  | 0, hj => exact (blk_cell hb 0).trans hj
  | 1, hj => exact (blk_cell hb 1).trans hj
theorem two_one (x y : Int) : ∀ u ∈ [Value.int .i64 x, Value.int .i64 y], u.oneCell' = true := by
  intro u hu
  simp only [List.mem_cons, List.not_mem_nil, or_false] at hu
  rcases hu with rfl | rfl <;> rfl
theorem new_done {n₀ g g' cap' : Nat} {lv v : Value} {out : List S24} {f t : Int} {W w1 : World} {o : Obj} (hle : n₀ ≤ g) (hn : n₀ ≤ W.heap.size) (hcell : W.heap[g]? = some (.cells #[lv, v] 49 (0, 0)))
    (hown : w1.ownsRow (W.alloc o).heap.size 24 2 (.slice (some ⟨g', 0, none⟩) (out.length + 1) cap') (out.length + 1) (cellsB out ++ [.int .i64 f, .int .i64 t])) (hg : (W.alloc o).grownBy w1 none) :
    Cut n₀ g lv (.slice (some ⟨g', 0, none⟩) (out.length + 1) cap') (out ++ [⟨f, t⟩]) (w1.setCell ⟨g, 1, none⟩ (.slice (some ⟨g', 0, none⟩) (out.length + 1) cap')) ∧ Fr g v W (w1.setCell ⟨g, 1, none⟩ (.slice (some ⟨g', 0, none⟩) (out.length + 1) cap')) ∧ W.heap.size ≤ g' := by
  have hgW : g < W.heap.size := blk_lt hcell
  have hba := own_base hown g' (by simp [Value.ownBlock])
  rw [World.size_alloc] at hba
  have h1 : w1.heap[g]? = some (.cells #[lv, v] 49 (0, 0)) := (hg.block g (by simp; omega) (by simp)).trans ((Below.heap_alloc W o g hgW).trans hcell)
  refine ⟨⟨hle, ?_, ?_⟩, ⟨hg.os, hg.tape, hg.output, ?_, fun k hk hkg hv => ?_⟩, by omega⟩
  · exact heap_setCell_same w1 g 1 _ 49 _ h1
  · rw [List.length_append, cellsB_append]
    exact own_move (own_weaken hown (by simp; omega)) fun k hk => heap_setCell_other _ _ _ _ (fun e => by
      have : g' = k := by simpa [Value.ownBlock] using hk
      simp at e
      omega)
  · have := hg.size
    simp at this ⊢
    omega
  · exact (heap_setCell_other _ _ _ _ hkg).trans ((hg.block k (by simp; omega) (by simp)).trans (Below.heap_alloc W o k hk))
set_option maxHeartbeats 2000000 in
set_option maxRecDepth 100000 in
/-- A new span behind. -/
theorem add_new (n₀ g : Nat) (lv v : Value) (out : List S24) (f t : Int) (W : World) (hn : n₀ ≤ W.heap.size) (hC : Cut n₀ g lv v out W) (hft : ¬ f ≥ t) (hno : ∀ pre y, out = pre ++ [y] → ¬ y.f1 ≥ f) (hlen : out.length ≤ 2000000) :
    Calls Tryd.prog 34 #[.pointer (some ⟨g, 1, none⟩), .int .i64 f, .int .i64 t] W fun e W' => e = .returned (.tuple #[]) ∧ ∃ v', Cut n₀ g lv v' (out ++ [⟨f, t⟩]) W' ∧ Fr g v W W' ∧ ∀ k, v'.ownBlock = some k → W.heap.size ≤ k := by
  have c1 : W.cell? ⟨g, 1, none⟩ = some v := (blk_cell hC.cell 1).trans rfl
  obtain ⟨hle, hcell, hrow⟩ := hC
  obtain ⟨i0, hi, hz0, hz1, hz2⟩ : ∃ i0, Tryd.prog.info? 24 = some i0 ∧ i0.zero = some (.agg #[.int .i64 0, .int .i64 0]) ∧ i0.size = 2 ∧ i0.bytes = 16 := by
    have hi24 := info24
    cases hx : Tryd.prog.info? 24 with
    | none => rw [hx] at hi24; cases hi24
    | some i0 =>
      rw [hx] at hi24
      simp only [Option.map_some, Option.some.injEq, Prod.mk.injEq] at hi24
      exact ⟨i0, rfl, hi24.1, hi24.2.1, hi24.2.2⟩
  have HND := Aside0.mk (fun g' cap' w1 o => new_done (n₀ := n₀) (g := g) (g' := g') (cap' := cap') (lv := lv) (v := v) (out := out) (f := f) (t := t) (W := W) (w1 := w1) (o := o) hle hn hcell)
  have hfr : ∀ (o : Obj) (w1 : World), (W.alloc o).grownBy w1 none → w1.cell? ⟨g, 1, none⟩ = some v ∧ w1.frozen? ⟨g, 1, none⟩ = false := fun o w1 hg => by
    have hgW : g < W.heap.size := blk_lt hcell
    have h1 : w1.heap[g]? = some (.cells #[lv, v] 49 (0, 0)) := (hg.block g (by simp; omega) (by simp)).trans ((Below.heap_alloc W o g hgW).trans hcell)
    exact ⟨(blk_cell h1 1).trans rfl, frozen_of_row w1 g 1 _ 49 h1⟩
  have hb1 : out.length + 1 ≤ maxLen := by unfold maxLen; omega
  have hb2 : (out.length + 1) * 16 ≤ 140737488355328 := by omega
  rcases hrow.2 with ⟨rfl, h0⟩ | ⟨b, cap, cur, rfl, hb, hbk, hcap, _⟩
  · obtain rfl : out = [] := List.eq_nil_of_length_eq_zero h0
    have HH := Aside0.mk hfr
    clear hrow hcell hfr
    go_enter Tryd.func34, Tryd.ntmps34
    go_wp2_with (at_builtin; refine wpList_append_grows _ rfl _ _ 22 rfl 24 i0 (.agg #[.int .i64 0, .int .i64 0]) 2 16 Tryd.underlying22 hi hz0 hz1 hz2 rfl (by decide) none 0 0 [] rfl (fun _ => ⟨rfl, rfl⟩) rfl (fun _ h => by cases h) ⟨W.heap.size, 0, none⟩ 1 1 [.int .i64 f, .int .i64 t] rfl rfl (cell_two_new _ _ _ _) (two_one _ _) (by omega) hb1 hb2 ?_; intro v' w1 hown' hgrow; obtain ⟨g', cap', rfl⟩ := ownsRow_succ hown'; obtain ⟨hc1, hf1⟩ := HH.out _ _ hgrow; have HD := Aside0.mk (HND.out _ _ _ _ hown' hgrow))
    go_end0
    obtain ⟨d1, d2, d3⟩ := HD.out
    exact ⟨rfl, _, d1, d2, fun k hk => by have : g' = k := by simpa [Value.ownBlock] using hk
                                          omega⟩
  · have hread : ∀ j u, (cellsB out)[j]? = some u → W.cell? ((⟨b, 0, none⟩ : Addr).add j) = some u := fun j u hj => by
      have hj2 : j < (cellsB out).length := (List.getElem?_eq_some_iff.1 hj).1
      rw [cellsB_len] at hj2
      have := hrow.cellAt j hj2
      rw [hj] at this
      rw [← this, Addr.add_lit, Nat.zero_add]
    by_cases h0 : out.length = 0
    · obtain rfl : out = [] := List.eq_nil_of_length_eq_zero h0
      have HH := Aside0.mk hfr
      clear hrow hcell hfr hbk hread hb
      simp only [List.length_nil] at c1 hcap hno ⊢
      go_enter Tryd.func34, Tryd.ntmps34
      go_wp2_with (at_builtin; refine wpList_append_grows _ rfl _ _ 22 rfl 24 i0 (.agg #[.int .i64 0, .int .i64 0]) 2 16 Tryd.underlying22 hi hz0 hz1 hz2 rfl (by decide) (some ⟨b, 0, none⟩) 0 0 [] rfl (fun h => by cases h) rfl (fun _ _ _ _ h => by cases h) ⟨W.heap.size, 0, none⟩ 1 1 [.int .i64 f, .int .i64 t] rfl rfl (cell_two_new _ _ _ _) (two_one _ _) (by omega) hb1 hb2 ?_; intro v' w1 hown' hgrow; obtain ⟨g', cap', rfl⟩ := ownsRow_succ hown'; obtain ⟨hc1, hf1⟩ := HH.out _ _ hgrow; have HD := Aside0.mk (HND.out _ _ _ _ hown' hgrow))
      go_end0
      obtain ⟨d1, d2, d3⟩ := HD.out
      exact ⟨rfl, _, d1, d2, fun k hk => by have : g' = k := by simpa [Value.ownBlock] using hk
                                            omega⟩
    · obtain ⟨pre, y, rfl⟩ : ∃ pre y, out = pre ++ [y] := by
        rcases List.eq_nil_or_concat out with e | ⟨pre, y, e⟩
        · exact absurd (by rw [e]; rfl) h0
        · exact ⟨pre, y, by rw [e, List.concat_eq_append]⟩
      have hy := hno pre y rfl
      have hat : W.cell? ⟨b, pre.length * 2 + 1, none⟩ = some (.int .i64 y.f1) := by
        rw [hrow.cellAt _ (by simp; omega), cellsB_append, List.getElem?_append_right (by rw [cellsB_len]; omega), cellsB_len]
        simp [cellsB]
      have hL : (pre ++ [y]).length = pre.length + 1 := by simp
      obtain ⟨m, hm⟩ : ∃ m, pre.length = m := ⟨_, rfl⟩
      obtain ⟨L, hLm⟩ : ∃ L, (pre ++ [y]).length = L := ⟨_, rfl⟩
      have hlo : (cellsB (pre ++ [y])).length = L * 2 := by rw [cellsB_len, hLm]
      have e1 : IntKind.i64.wrap ((L : Int) - 1) = m := by rw [IntKind.wrap_i64]; omega
      have q1 : (0 : Int) < (L : Int) := by omega
      have q2 : (0 : Int) ≤ (m : Int) := by omega
      have q3 : (m : Int) < (L : Int) := by omega
      have q4 : (0 : Int) ≤ (L : Int) := by omega
      rw [hm] at hat
      rw [hLm] at c1 hcap hb1 hb2 HND hfr ⊢
      have q5 : (L : Int) ≤ (cap : Int) := by omega
      have HH := Aside0.mk hfr
      have HRD := Aside0.mk hread
      clear hrow hcell hfr hbk hread hb hL hm h0 hLm
      go_enter Tryd.func34, Tryd.ntmps34
      go_wp2_with (at_builtin; refine wpList_append_grows _ rfl _ _ 22 rfl 24 i0 (.agg #[.int .i64 0, .int .i64 0]) 2 16 Tryd.underlying22 hi hz0 hz1 hz2 rfl (by decide) (some ⟨b, 0, none⟩) L L (cellsB (pre ++ [y])) rfl (fun h => by cases h) hlo (fun _ e j u hj => by cases e; exact (cell_alloc' (HRD.out j u hj) _)) ⟨W.heap.size, 0, none⟩ 1 1 [.int .i64 f, .int .i64 t] rfl rfl (cell_two_new _ _ _ _) (two_one _ _) (by omega) hb1 hb2 ?_; intro v' w1 hown' hgrow; obtain ⟨g', cap', rfl⟩ := ownsRow_succ hown'; obtain ⟨hc1, hf1⟩ := HH.out _ _ hgrow; have HD := Aside0.mk (HND.out _ _ _ _ hown' hgrow))
      go_end0
      obtain ⟨d1, d2, d3⟩ := HD.out
      rw [List.append_assoc] at d1
      exact ⟨rfl, _, d1, d2, fun k hk => by have : g' = k := by simpa [Value.ownBlock] using hk
                                            omega⟩

/-- (*band).add. -/
theorem add_calls (n₀ g : Nat) (lv v : Value) (out : List S24) (f t : Int) (W : World) (hn : n₀ ≤ W.heap.size) (hC : Cut n₀ g lv v out W) (hlen : out.length ≤ 2000000) :
    Calls Tryd.prog 34 #[.pointer (some ⟨g, 1, none⟩), .int .i64 f, .int .i64 t] W fun e W' => e = .returned (.tuple #[]) ∧ ∃ v', Cut n₀ g lv v' (addB out f t) W' ∧ Fr g v W W' ∧ (v'.ownBlock = v.ownBlock ∨ ∀ k, v'.ownBlock = some k → W.heap.size ≤ k) := by
  by_cases hft : f ≥ t
  · have e : addB out f t = out := addB_empty (by omega)
    rw [e]
    exact (add_none n₀ g lv v out f t W hC hft hlen).mono fun _ _ ⟨h1, h2⟩ => ⟨h1, v, h2 ▸ hC, h2 ▸ Fr.refl _ _ _, .inl rfl⟩
  · by_cases hno : ∀ pre y, out = pre ++ [y] → ¬ y.f1 ≥ f
    · have e : addB out f t = out ++ [⟨f, t⟩] := by
        rcases List.eq_nil_or_concat out with rfl | ⟨pre, y, rfl⟩
        · unfold addB
          rw [if_neg hft]
          rfl
        · rw [List.concat_eq_append] at hno ⊢
          rw [addB_snoc, if_neg hft, if_neg (hno pre y rfl)]
          simp
      rw [e]
      exact (add_new n₀ g lv v out f t W hn hC hft hno hlen).mono fun _ _ ⟨h1, v', h2, h3, h4⟩ => ⟨h1, v', h2, h3, .inr h4⟩
    · obtain ⟨pre, y, rfl, hy⟩ : ∃ pre y, out = pre ++ [y] ∧ y.f1 ≥ f := by
        refine Classical.byContradiction fun hn => hno fun pre y e hy => hn ⟨pre, y, e, hy⟩
      rw [addB_snoc, if_neg hft, if_pos hy]
      exact (add_touch n₀ g lv v pre y f t W hC hft hy (by simp at hlen; omega)).mono fun _ _ ⟨h1, h2, h3⟩ => ⟨h1, v, h2, h3, .inl rfl⟩

end Go.Proofs.YtomgpbhkoellpaaDoor.P

namespace Go.Proofs.YtomgpbhkoellpaaDoor.P
open Go.RowKit Go.Shelf Go.Proofs.YtomgpbhkoellpaaDoorW.PrintWords Go.Proofs.YtomgpbhkoellpaaDoorW.PrintLast Go.Proofs.YtomgpbhkoellpaaDoorW.PrintMore
attribute [local go_sem] Oper.semAt_some

def S24.enc (x : S24) : Value := .agg #[.int .i64 x.f0, .int .i64 x.f1]
theorem C_from {w0 W : World} {n₀ : Nat} {A : Option Addr} {l : List S24} (h : Kd.C k24 w0 A l.length l) (hw : w0.heap.size = n₀) (hb : Below n₀ w0 W) : Kd.C k24 W A l.length l := Kd.C_below h (hw ▸ hb)
theorem take_next (l : List S24) (k : Nat) (hk : k < l.length) : l.take (k + 1) = l.take k ++ [l.getD k z24] := by
  rw [List.take_succ_eq_append_getElem hk]
  simp [List.getD_eq_getElem?_getD, List.getElem?_eq_getElem hk]

set_option maxRecDepth 100000 in
set_option maxHeartbeats 2000000 in
theorem spans1_in (n : Nat) (hn : 1 ≤ n) (lp Bn n₀ g o : Nat) (A : Option Addr) (c : Nat) (l : List S24) (hcl : l.length ≤ c) (hlen : l.length ≤ 2000000) (J Jx : List S24 → World → Prop) (W : World) (hJ : AbidesFrom W.heap.size J)
    (hY : ∀ pre x W, J pre W → pre.length < l.length → YieldAt Fence.wide (n - 1) Tryd.prog lp #[S24.enc x] W fun e W' =>
      (e = .returned (.bool true) ∧ J (pre ++ [x]) W' ∧ Below n₀ W W') ∨ (e = .returned (.bool false) ∧ Jx (pre ++ [x]) W'))
    (hBn : W.cell? ⟨Bn, 0, none⟩ = some (.pointer (some ⟨g, o, none⟩))) (hg : W.cell? ⟨g, o, none⟩ = some (.slice A l.length c)) (w0 : World) (hw0 : w0.heap.size = n₀) (hWb : Below n₀ w0 W) (hC : Kd.C k24 w0 A l.length l) (hj : J [] W) :
    CallsIn Fence.wide n Tryd.prog 51 #[.func (.yield lp) #[] #[], .pointer (some ⟨Bn, 0, none⟩)] W fun e W' => (∃ v, e = .returned v) ∧
      ((∃ ys, ys = l ∧ J ys W') ∨ (∃ pre, pre <+: l ∧ Jx pre W')) := by
  have HJ := Aside0.mk hj
  have HC := Aside0.mk hC
  clear hC hj
  refine callsIn_of_wp Tryd.func51 rfl trivial ?_ rfl
  simp only [Tryd.ntmps51, List.size_toArray, List.length_cons, List.length_nil, Nat.reduceAdd, Nat.reduceSub, Array.replicate_succ, Array.replicate_zero, List.push_toArray, List.append_toArray, List.nil_append, List.cons_append]
  gi_wp2
  refine wpIn_scope_wide ?_
  gi_wp2
  refine wpIn_label ?_
  gi_wp2
  gi_loopw [10] (fun p wr => ∃ k : Nat, p = .int .i64 k ∧ k ≤ l.length ∧ Aside0 (J (l.take k) wr) ∧ Aside0 (Below n₀ W wr)) (fun p _ => l.length - (intOf p).toNat)
  case atStart => exact ⟨0, rfl, Nat.zero_le _, HJ, ⟨Below.refl _ _⟩⟩
  case round =>
    obtain ⟨k, rfl, hk, HJr, HB⟩ := hrel
    by_cases hlt : k < l.length
    · have hCr := C_from HC.out hw0 (hWb.trans HB.out)
      obtain ⟨ad, rfl, x0, x1⟩ := at_T24 hCr (k : Int) (by omega) (by omega)
      simp only [Int.toNat_natCast] at x0 x1
      have hx : rd_T24 l (k : Int) = l.getD k z24 := by simp [rd_T24]
      rw [hx] at x0 x1
      have HTK := Lib.hid (take_next l k hlt)
      have HPL : Hid ((l.take k).length < l.length) := Lib.hid (by rw [List.length_take]; omega)
      have hpf : Hid (l.take k ++ [l.getD k z24] <+: l) := Lib.hid (by rw [← HTK.out]; exact List.take_prefix _ _)
      obtain ⟨x, hxx⟩ : ∃ x, l.getD k z24 = x := ⟨_, rfl⟩
      rw [hxx] at x0 x1 HTK hpf
      have hJ2 := hJ (l.take k) wr (wr.alloc (.cells #[.int .i64 x.f0, .int .i64 x.f1] 24)) none HJr.out (grown_of_below (below_alloc (Below.refl _ wr) _) none) (fun r e => by cases e)
      obtain ⟨fn, tmps, assign, body, hy, hR⟩ := hY (l.take k) x _ hJ2 HPL.out
      dsimp only [S24.enc] at hy
      have hlt2 : (k : Int) < (l.length : Int) := by omega
      have hnr : n₀ ≤ wr.heap.size := by
        have := (hWb.trans HB.out).size
        omega
      have HBa := Aside0.mk (HB.out.alloc hnr (.cells #[.int .i64 x.f0, .int .i64 x.f1] 24))
      clear hJ2 hx hxx hCr HJr HB
      gi_wp2
      refine hR.mono ?_
      rintro e W3 (⟨rfl, hJ3, hk3⟩ | ⟨rfl, hJx3⟩)
      · rw [← HTK.out] at hJ3
        have HJ3 := Aside0.mk hJ3
        have HB3 := Aside0.mk (HBa.out.trans hk3)
        clear hJ3 hk3 hy hR
        gi_wp2
        go_roundw
        case rel => exact ⟨k + 1, by go_num, by omega, HJ3, HB3⟩
        case measure => simp [intOf]; omega
      · have HJx := Aside0.mk hJx3
        clear hJx3 hy hR
        gi_wp2
        rw [Exit.noGoto_normal]
        go_end0
        exact ⟨⟨_, rfl⟩, .inr ⟨_, hpf.out, HJx.out⟩⟩
    · have HD : Hid (l.take k = l) := Lib.hid (List.take_of_length_le (by omega))
      gi_wp2
      rw [Exit.noGoto_normal]
      go_end0
      exact ⟨⟨_, rfl⟩, .inl ⟨_, HD.out, HJr.out⟩⟩

/-- (*band).spans: the receiver is boxed, the closure captures the box. -/
theorem spans_calls (g o : Nat) (w : World) :
    Calls Tryd.prog 41 #[.pointer (some ⟨g, o, none⟩)] w fun e w' => e = .returned (.func (.func 51) #[] #[.pointer (some ⟨w.heap.size, 0, none⟩)]) ∧ w.alloc (.cells #[.pointer (some ⟨g, o, none⟩)] 61) = w' := by
  go_enter Tryd.func41, Tryd.ntmps41
  go_wp2
  go_ret
  exact ⟨rfl, rfl⟩

/-- The iterator's contract. -/
theorem spans_stops (n : Nat) (hn : 1 ≤ n) (Bn n₀ g o : Nat) (A : Option Addr) (c : Nat) (l : List S24) (hcl : l.length ≤ c) (hlen : l.length ≤ 2000000) (w : World) (hn0 : n₀ ≤ w.heap.size)
    (hBn : w.cell? ⟨Bn, 0, none⟩ = some (.pointer (some ⟨g, o, none⟩))) (hg : w.cell? ⟨g, o, none⟩ = some (.slice A l.length c)) (w0 : World) (hw0 : w0.heap.size = n₀) (hwb : Below n₀ w0 w) (hC : Kd.C k24 w0 A l.length l) :
    SeqStopsK Fence.wide n Tryd.prog 51 #[.pointer (some ⟨Bn, 0, none⟩)] (fun x : S24 => #[S24.enc x]) (Below n₀) (fun ys => ys = l) (fun pre => pre <+: l) l.length w := fun lp J Jx W hW hJ _ hY hj =>
  spans1_in n hn lp Bn n₀ g o A c l hcl hlen J Jx W hJ hY ((hW.cell (p := ⟨Bn, 0, none⟩) (World.block_lt_of_cell? w _ hBn)).trans hBn) ((hW.cell (p := ⟨g, o, none⟩) (World.block_lt_of_cell? w _ hg)).trans hg) w0 hw0 (hwb.trans (hW.mono hn0)) hC hj

end Go.Proofs.YtomgpbhkoellpaaDoor.P
