/- A statement whose order is open, of which all operations but the last few leave the world alone but for draws (reads, calls that only read), the last few standing in one forced order: one walk in the order of the text serves every order. Conditions: the library's own Bool on the region. -/
import Derived.Deep.Quiet
import Derived.StillTail
import Derived.Deep.QuietTactic
import Derived.BigQuiet
import Derived.ScopeJumps
import Derived.WalkMore
namespace Go.Proofs.YtjpifknencfipaaDoor

section
variable {P : Program} {ops : Array Oper} {md : Region.Mode} {C : World → Prop} {n : Nat} {L : Array Bool → Act → Prop}

/-- Whatever order is picked among the head's operations. -/
def HeadQ (P : Program) (md : Region.Mode) (ops : Array Oper) (C : World → Prop) (n : Nat) (L : Array Bool → Act → Prop) : Nat → Array Bool → Act → Prop
  | 0, listed, a => L listed a
  | f + 1, listed, a => Region.ready md ops listed ≠ [] ∧ ∀ i ∈ Region.ready md ops listed, i < n ∧ qOp P ops C i (HeadQ P md ops C n L f (listed.setIfInBounds i true)) a

theorem HeadQ.any {g : Nat} {Q' : Exit → Act → World → Prop} (hL : ∀ listed a w, C w → L listed a → wpAny P md ops Q' g listed a w) (f : Nat) :
    ∀ (listed : Array Bool) (a : Act) (w : World), C w → HeadQ P md ops C n L f listed a → wpAny P md ops Q' (f + g) listed a w := by
  induction f with
  | zero =>
    intro listed a w hw h
    rw [Nat.zero_add]
    exact hL _ _ _ hw h
  | succ f ih =>
    intro listed a w hw h
    rw [show f + 1 + g = (f + g) + 1 by omega]
    exact ⟨fun h0 => absurd h0 h.1, fun i hi => wpOp_of_qOp hw (fun a' w' hw' => ih _ a' w' hw') (h.2 i hi).2⟩

theorem HeadQ.first {i : Nat} {oi : Oper} {v : Value} (hi : ops[i]? = some oi) (hsel : ∀ (j : Nat) (o : Oper) cs b, ops[j]? = some o → o.op ≠ .select cs b)
    (hs : Region.sinkB md ops n = true) (hc : Region.chainB md ops n = true) (hn : n < ops.size) (hin : i < n) (hdone : ∀ listed a, L listed a → ∀ j ∈ Region.ready md ops listed, n ≤ j) (f : Nat) :
    ∀ (listed : Array Bool) (a : Act), HeadInv md ops n listed →
      (∀ j oj, ops[j]? = some oj → j ≠ i → listed.getD j true = false → (∀ e ∈ oj.after, Region.binds md e = true → e.on ≠ i) → oi.apart ops oj = true) →
      i ∈ Region.ready md ops listed → YieldsIn P ops C oi v a →
      HeadQ P md ops C n L f (listed.setIfInBounds i true) (a.put oi.dst v) → HeadQ P md ops C n L (f + 1) listed a := by
  induction f with
  | zero =>
    intro listed a inv _ hr hy H
    have hun := (mem_ready.1 hr).1
    refine ⟨fun h0 => by (rw [h0] at hr; cases hr), fun j hj => ?_⟩
    have hjn : j < n := Nat.lt_of_not_le fun hle => absurd hj (tail_waits hs hc hn inv _ i rfl hin hun j hle)
    by_cases e : j = i
    · exact ⟨hjn, e ▸ hy.qOp hi H⟩
    · exact absurd (hdone _ _ H j (ready_mono hj e)) (by omega)
  | succ f ih =>
    intro listed a inv hfree hr hy H
    have hun := (mem_ready.1 hr).1
    refine ⟨fun h0 => by (rw [h0] at hr; cases hr), fun j hj => ?_⟩
    have hjn : j < n := Nat.lt_of_not_le fun hle => absurd hj (tail_waits hs hc hn inv _ i rfl hin hun j hle)
    by_cases e : j = i
    · exact ⟨hjn, e ▸ hy.qOp hi H⟩
    · refine ⟨hjn, ?_⟩
      obtain ⟨hjun, oj, hoj, hall⟩ := mem_ready.1 hj
      have hno : ∀ d ∈ oj.after, Region.binds md d = true → d.on ≠ i := fun d hd hb he => by
        have h1 := hall d hd hb
        rw [he, getD_both hun] at h1
        cases h1
      refine qOp_mono (fun a' h3 => ih (listed.setIfInBounds j true) a' (inv.set hj hjn) ?_ (ready_mono hr (Ne.symm e)) h3.1 ?_)
        (qOp_put hoj (hfree j oj hoj e hjun hno) (fun cs b => hsel i oi cs b hi) (fun cs b => hsel j oj cs b hoj) hy (H.2 j (ready_mono hj e)).2)
      · intro k ok hk hki hku hkn
        refine hfree k ok hk hki ?_ hkn
        by_cases hjk : j = k
        · exact hjk ▸ hjun
        · rwa [getD_set_ne true hjk] at hku
      · rw [Array.setIfInBounds_comm _ _ e]
        exact h3.2

theorem HeadQ.lex {g : Nat} {Lq : Act → Prop} (hsel : Region.noSelect ops = true) (hs : Region.sinkB md ops n = true) (hc : Region.chainB md ops n = true) (hn : n < ops.size) (l : List Oper) :
    ∀ (k : Nat) (listed : Array Bool) (a : Act), (∀ j, j < l.length → l[j]? = ops[k + j]?) → k + l.length = n → HeadInv md ops n listed →
    Region.lexHead md ops g l.length k listed = true → wpQuiet P ops C Lq l a → HeadQ P md ops C n (fun listed' a' => Region.seqB md ops g n listed' = true ∧ Lq a') l.length listed a := by
  induction l with
  | nil =>
    intro k listed a _ hk _ hB h
    obtain rfl : k = n := by simpa using hk
    exact ⟨by simpa [Region.lexHead] using hB, h⟩
  | cons o l ih =>
    intro k listed a hl hk inv hB h
    have h0 : ops[k]? = some o := by simpa using (hl 0 (by simp)).symm
    simp only [List.length_cons, Region.lexHead, Bool.and_eq_true] at hB
    obtain ⟨⟨hr, hf⟩, hB'⟩ := hB
    have hkn : k < n := by simp only [List.length_cons] at hk; omega
    have hr' : k ∈ Region.ready md ops listed := by simpa using hr
    obtain ⟨v, hy, hK⟩ := yieldsIn_of_qOp (K := wpQuiet P ops C Lq l) h0 (by unfold qOp; simp only [h0]; exact h)
    exact HeadQ.first h0 (Region.noSelect_spec hsel) hs hc hn hkn (fun listed' a' hL => seqB_ready hL.1) l.length listed a inv (Region.free_spec h0 hf) hr' hy
      (ih (k + 1) _ _ (fun j hj => by have := hl (j + 1) (by simp; omega); simpa [Nat.add_assoc, Nat.add_comm 1 j] using this) (by simp only [List.length_cons] at hk; omega) (inv.set hr' hkn) hB' hK)
end

/-- The head's walk, then the tail's from every world of the class. -/
theorem wp_region_quiet_tail {P : Program} (C : World → Prop) {id : Nat} {Q : Exit → Act → World → Prop} {a : Act} {w : World} {l : List Oper} (n : Nat) (hm : P.follows .mixedOrders = true) (hB : Region.lexTailB .any l.toArray n = true)
    (hC : C { w with drawn := w.drawn + 1 }) (h : wpQuiet P l.toArray C (fun a' => ∀ w', C w' → wpList P l.toArray Q (l.drop n) a' w') (l.take n) a) : (Code.region id l.toArray true).wp P Q a w := by
  simp only [Region.lexTailB, Bool.and_eq_true, decide_eq_true_eq] at hB
  obtain ⟨⟨⟨⟨hsel, hn⟩, hs⟩, hc⟩, hlex⟩ := hB
  have hnl : n < l.length := by simpa using hn
  have htl : (l.take n).length = n := by simp; omega
  have hdl : (l.drop n).length = l.toArray.size - n := by simp
  refine wp_region_any hm ?_
  have inv : HeadInv .any l.toArray n (Array.replicate l.toArray.size false) :=
    ⟨by simp, fun j oj _ hl => by (rw [getD_replicate_false] at hl; cases hl), fun t _ ht => by simp at ht ⊢; simp [ht]⟩
  have H := HeadQ.lex (P := P) (md := .any) (C := C) (g := l.toArray.size - n) hsel hs hc hn (l.take n) 0 (Array.replicate l.toArray.size false) a
    (fun j hj => by rw [htl] at hj; simp [hj]) (by rw [htl]; omega) inv (by rw [htl]; exact hlex) h
  have H2 := HeadQ.any (g := l.toArray.size - n) (Q' := Q) (fun listed a' w' hw hL => by
    have := wpAny_of_seq (md := .any) (Q' := Q) (l.drop n) n listed a' w' (fun j => by simp [List.getElem?_drop]) (by rw [hdl]; exact hL.1) (hL.2 w' hw)
    rwa [hdl] at this) _ _ _ _ hC H
  rw [htl, show n + (l.toArray.size - n) = l.toArray.size by omega] at H2
  exact H2

/-- At the class 'the world after some draws'. -/
theorem wp_region_quiet_tail_lit {P : Program} {id : Nat} {Q : Exit → Act → World → Prop} {a : Act} {w : World} {l : List Oper} (n : Nat) (hm : P.follows .mixedOrders = true) (hB : Region.lexTailB .any l.toArray n = true)
    (h : wpQuiet P l.toArray (fun w' => ∃ m, w' = w.drewN m) (fun a' => ∀ w', (∃ m, w' = w.drewN m) → wpList P l.toArray Q (l.drop n) a' w') (l.take n) a) : (Code.region id l.toArray true).wp P Q a w :=
  wp_region_quiet_tail (fun w' => ∃ m, w' = w.drewN m) n hm hB ⟨1, rfl⟩ h

/-! ### A scope in which the run jumps forward, at most k times: the walk goes on behind each label -/
def Follow (P : Program) (c : Code) : Nat → (Exit → Act → World → Prop) → Exit → Act → World → Prop
  | 0, Q => Exit.noGoto Q
  | k + 1, Q => fun e a w => match e with
    | .goto l => ∃ rest, findLabel c l = some rest ∧ rest.wp P (Follow P c k Q) a w
    | e => Q e a w
theorem Follow.normal {P : Program} {c : Code} (k : Nat) {Q : Exit → Act → World → Prop} {a : Act} {w : World} (h : Q .normal a w) : Follow P c k Q .normal a w := by cases k <;> exact h
theorem Follow.exit {P : Program} {c : Code} (k : Nat) {Q : Exit → Act → World → Prop} {id : Nat} {a : Act} {w : World} (h : Q (.exit id) a w) : Follow P c k Q (.exit id) a w := by cases k <;> exact h
theorem Follow.ret {P : Program} {c : Code} (k : Nat) {Q : Exit → Act → World → Prop} {a : Act} {w : World} (h : Q .ret a w) : Follow P c k Q .ret a w := by cases k <;> exact h
theorem Follow.goto {P : Program} {c rest : Code} (k : Nat) {Q : Exit → Act → World → Prop} {l : Nat} {a : Act} {w : World} (hf : findLabel c l = some rest) (h : rest.wp P (Follow P c k Q) a w) : Follow P c (k + 1) Q (.goto l) a w := ⟨rest, hf, h⟩

theorem wp_scope_follow {P : Program} {c : Code} (k : Nat) {Q : Exit → Act → World → Prop} {a : Act} {w : World} (h : c.wp P (Follow P c k Q) a w) : (Code.scope c).wp P Q a w := by
  intro b t cs
  have key : ∀ k (rest : Code) a w, rest.wp P (Follow P c k Q) a w → ∃ e a' w', Q e a' w' ∧ Arrives P (lone (b.at a (.code rest :: .inScope c :: t)) cs w) b t cs e a' w' := by
    intro k
    induction k with
    | zero =>
      intro rest a w h
      obtain ⟨e, a1, w1, hq, har⟩ := h b (.inScope c :: t) cs
      cases e with
      | normal => exact ⟨.normal, a1, w1, hq, Steps.trans har (.one step_inScope)⟩
      | exit id => exact ⟨.exit id, a1, w1, hq, fun k' hk => har k' (by simp [exitTo, hk])⟩
      | goto l => exact hq.elim
      | ret => exact ⟨_, a1, w1, hq, har⟩
      | panic ch => exact ⟨_, a1, w1, hq, har⟩
      | outgrown => exact ⟨_, a1, w1, hq, har⟩
    | succ k ih =>
      intro rest a w h
      obtain ⟨e, a1, w1, hq, har⟩ := h b (.inScope c :: t) cs
      cases e with
      | normal => exact ⟨.normal, a1, w1, hq, Steps.trans har (.one step_inScope)⟩
      | exit id => exact ⟨.exit id, a1, w1, hq, fun k' hk => har k' (by simp [exitTo, hk])⟩
      | goto l =>
        obtain ⟨r, hf, hr⟩ := hq
        obtain ⟨e2, a2, w2, hq2, har2⟩ := ih r a1 w1 hr
        exact ⟨e2, a2, w2, hq2, .of_steps (har _ (by simp [gotoIn, hf])) har2⟩
      | ret => exact ⟨_, a1, w1, hq, har⟩
      | panic ch => exact ⟨_, a1, w1, hq, har⟩
      | outgrown => exact ⟨_, a1, w1, hq, har⟩
  obtain ⟨e, a1, w1, hq, har⟩ := key k c a w h
  cases e with
  | normal => exact ⟨.normal, a1, w1, hq, .head step_scope har⟩
  | exit id => exact ⟨.exit id, a1, w1, hq, fun k' hk => .head step_scope (har k' hk)⟩
  | goto l => exact ⟨.goto l, a1, w1, hq, fun k' hk => .head step_scope (har k' hk)⟩
  | ret => exact ⟨_, a1, w1, hq, .of_steps (.one step_scope) har⟩
  | panic ch => exact ⟨_, a1, w1, hq, .of_steps (.one step_scope) har⟩
  | outgrown => exact ⟨_, a1, w1, hq, .of_steps (.one step_scope) har⟩

/-- What holds of the world is all that is kept. -/
theorem wp_world {P : Program} {c : Code} {Q : Exit → Act → World → Prop} {a : Act} {W : World} (R : World → Prop) (hR : R W) (h : ∀ W1, R W1 → Code.wp P c Q a W1) : Code.wp P c Q a W := h W hR

/-! ### A second quiet region -/
theorem quiet_add {P : Program} {f : FuncId} {args : Array Value} {w : World} {a n : Nat} {v : Value}
    (h : Calls P f args (w.drewN (a + n)) fun e w' => e = .returned v ∧ ∃ m, w' = (w.drewN (a + n)).drewN m) :
    Calls P f args (w.drewN (a + n)) fun e w'' => e = .returned v ∧ ∃ m, w'' = w.drewN (a + m) :=
  h.mono fun _ _ ⟨he, m, hm⟩ => ⟨he, n + m, by rw [hm, World.drewN_drewN, Nat.add_assoc]⟩
theorem quiet_add_left {P : Program} {f : FuncId} {args : Array Value} {w : World} {a n : Nat} {v : Value}
    (h : Calls P f args (w.drewN (a + n)) fun e w' => e = .returned v ∧ w.drewN (a + n) = w') :
    Calls P f args (w.drewN (a + n)) fun e w'' => e = .returned v ∧ ∃ m, w'' = w.drewN (a + m) :=
  h.mono fun _ _ ⟨he, hm⟩ => ⟨he, n, hm.symm⟩
theorem quiet_left {P : Program} {f : FuncId} {args : Array Value} {w : World} {n : Nat} {v : Value}
    (h : Calls P f args (w.drewN n) fun e w' => e = .returned v ∧ w.drewN n = w') : Calls P f args (w.drewN n) fun e w'' => e = .returned v ∧ ∃ m, w'' = w.drewN m :=
  h.mono fun _ _ ⟨he, hm⟩ => ⟨he, n, hm.symm⟩

end Go.Proofs.YtjpifknencfipaaDoor
