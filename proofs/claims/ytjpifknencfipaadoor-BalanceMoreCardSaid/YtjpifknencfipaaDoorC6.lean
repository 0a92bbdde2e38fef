/- The law BalanceMore answers true, whatever comes in, and leaves what came in as it was: the row and the tied card. Conditions: none. -/
import Derived.Test.YtjpifknencfipaaDoorRows
import Derived.Test.YtjpifknencfipaaDoorTie
import Derived.Test.YtjpifknencfipaaDoorCards
import Derived.Test.YtjpifknencfipaaDoorRw
import Derived.Test.YtjpifknencfipaaDoorRd
import Derived.Test.YtjpifknencfipaaDoorLb
import Derived.Test.YtjpifknencfipaaDoorP6
import Derived.WalkKit
import Derived.ProofKit
import Derived.OpenShut
import Derived.ChangeOld
import Derived.Below
import Derived.SizedLaws
import Derived.JoinedOf
import Derived.ChangeVars
import Derived.SevenTiedAt
import Derived.Stop.Joined
set_option linter.unusedVariables false
set_option linter.unusedSimpArgs false
namespace Go.Proofs.YtjpifknencfipaaDoor.P
open Go.RowKit Go.Proofs.YtjpifknencfipaaDoorW.PrintWords Go.Proofs.YtjpifknencfipaaDoorW.PrintLast Go.Proofs.YtjpifknencfipaaDoorW.PrintMore

/-- With more columns a search begins no later. -/
theorem begin_anti {l : List S32} (hr : rightA l = true) (hl : l.length ≤ 200) (n m : Int) (h1 : 1 ≤ n) (h2 : n ≤ 50) (h3 : 1 ≤ m) (h4 : m ≤ 50) (hnm : n ≤ m) : beginA l m ≤ beginA l n := by
  have hs := sum_range hr hl
  have t1 := target_range l n h1 h2 hl
  have t2 := target_range l m h3 h4 hl
  have htt : targetA l n ≤ targetA l m := by unfold targetA; omega
  have c1 := ceil_says (sumA l) (targetA l n) t1.1 hs.1
  have c2 := ceil_says (sumA l) (targetA l m) t2.1 hs.1
  have hle : (sumA l + targetA l m - 1) / targetA l m ≤ (sumA l + targetA l n - 1) / targetA l n := by
    refine Int.le_of_not_gt fun hlt => ?_
    have q := c2.2.2.2 _ hlt
    have : targetA l n * ((sumA l + targetA l n - 1) / targetA l n) ≤ targetA l m * ((sumA l + targetA l n - 1) / targetA l n) := Int.mul_le_mul_of_nonneg_right htt c1.1
    omega
  unfold beginA
  omega
/-- With a greater budget nothing that was exact turns. -/
theorem least_more (l : List S32) (n b c : Int) (h1 : 1 ≤ b) (hbc : b ≤ c) (he : (leastBA l n b).2.2 = true) : leastBA l n c = leastBA l n b := by
  rcases least_spec l n b h1 with ⟨k, hk, e, hn, hno⟩ | ⟨e, _⟩
  · rw [e]
    unfold leastBA
    rw [search_found l (targetA l n) k c.toNat 0 (beginA l n) (by omega) hno hn]
    simp
  · rw [e] at he
    cases he

theorem more_j0 (k : Nat) (x3 x4 : Int) (x13 x16 x17 : Int) (x18 : Bool) (x19 x20 x21 : Int) (x22 : Bool) (x23 : Int)
    (h : x19 = 0 → x23 = 0 → x4 ≥ x3 → x18 = true → x20 = x16 ∧ x21 = x17 ∧ x22 = true) (hx : x13 = 0 ∨ x13 = 140) (hy : x19 = if x13 = 0 ∧ 1 ≤ x3 ∧ x3 ≤ 1000 then 0 else 140) :
    gutterlaw15_BalanceMore.j0 (k + 1) x3 x4 true x13 x16 x17 x18 x19 x20 x21 x22 x23 false = some true := by
  have fin : (if x13 = 0 then (if x3 ≥ 1 then (some ((x19 == 0) == (decide (x3 ≤ 1000)))) else (some ((x19 == 0) == false))) else (some ((x19 == 0) == false))) = some true := by
    rw [hy]
    by_cases q1 : x13 = 0
    · rw [if_pos q1]
      by_cases q2 : x3 ≥ 1
      · rw [if_pos q2]
        by_cases q3 : x3 ≤ 1000
        · simp [q1, q3]
          omega
        · simp [q1, q3]
      · rw [if_neg q2, if_neg (by omega)]
        rfl
    · rw [if_neg q1, if_neg (by simp [q1])]
      rfl
  simp only [gutterlaw15_BalanceMore.j0]
  rw [if_neg (by simp), if_pos trivial]
  rw [fin]
  by_cases q1 : x19 = 0
  · rw [if_pos q1]
    by_cases q2 : x23 = 0
    · rw [if_pos q2]
      by_cases q3 : x4 ≥ x3
      · rw [if_pos q3]
        by_cases q4 : x18 = true
        · obtain ⟨e1, e2, e3⟩ := h q1 q2 q3 q4
          rw [if_pos q4, if_pos e1, if_pos e2, if_pos e3]
        · rw [if_neg q4]
      · rw [if_neg q3]
    · rw [if_neg q2]
  · rw [if_neg q1]

theorem BalanceMore_true (l0 : List S32) (a1 a2 a3 a4 : Int) : gutterlaw15_BalanceMore.f 1000 l0 a1 a2 a3 a4 = some true := by
  unfold gutterlaw15_BalanceMore.f
  have hl := few40_len l0
  rw [shown15, Option.bind_some, few15_f, Option.bind_some]
  generalize few40 l0 = l at hl
  obtain ⟨b1, eb1, hb1⟩ : ∃ b, balance_Begin.f l a1 = some b ∧ b = (if openA l a1 = true then (beginA l a1, 0) else (0, 140)) := ⟨_, by unfold balance_Begin.f; split <;> rfl, rfl⟩
  obtain ⟨b2, eb2, hb2⟩ : ∃ b, balance_Begin.f l a2 = some b ∧ b = (if openA l a2 = true then (beginA l a2, 0) else (0, 140)) := ⟨_, by unfold balance_Begin.f; split <;> rfl, rfl⟩
  obtain ⟨c1, ec1, hc1⟩ : ∃ c, balance_Least.f l a1 a3 = some c ∧ c = (if (openA l a1 && budA a3) = true then ((leastBA l a1 a3).1, (leastBA l a1 a3).2.1, (leastBA l a1 a3).2.2, 0) else (0, 0, false, 140)) := ⟨_, by unfold balance_Least.f; split <;> rfl, rfl⟩
  obtain ⟨c2, ec2, hc2⟩ : ∃ c, balance_Least.f l a1 a4 = some c ∧ c = (if (openA l a1 && budA a4) = true then ((leastBA l a1 a4).1, (leastBA l a1 a4).2.1, (leastBA l a1 a4).2.2, 0) else (0, 0, false, 140)) := ⟨_, by unfold balance_Least.f; split <;> rfl, rfl⟩
  rw [eb1, Option.bind_some, eb2, Option.bind_some, ec1, Option.bind_some, ec2, Option.bind_some]
  have hx : b1.2 = 0 ∨ b1.2 = 140 := by rw [hb1]; split <;> simp
  have hy : c1.2.2.2 = if b1.2 = 0 ∧ 1 ≤ a3 ∧ a3 ≤ 1000 then 0 else 140 := by
    rw [hc1, hb1]
    unfold budA
    by_cases q1 : openA l a1 = true
    · simp only [q1, Bool.true_and, Bool.and_eq_true, decide_eq_true_eq, if_true]
      by_cases q2 : 1 ≤ a3 ∧ a3 ≤ 1000
      · rw [if_pos q2, if_pos ⟨trivial, q2⟩]
      · rw [if_neg q2, if_neg (fun e => q2 e.2)]
    · simp [q1]
  have hcond : c1.2.2.2 = 0 → c2.2.2.2 = 0 → a4 ≥ a3 → c1.2.2.1 = true → c2.1 = c1.1 ∧ c2.2.1 = c1.2.1 ∧ c2.2.2.1 = true := by
    intro p1 p2 p3 p4
    have e1 : (openA l a1 && budA a3) = true := by
      rw [hc1] at p1
      split at p1
      · assumption
      · simp at p1
    have e2 : (openA l a1 && budA a4) = true := by
      rw [hc2] at p2
      split at p2
      · assumption
      · simp at p2
    rw [if_pos e1] at hc1
    rw [if_pos e2] at hc2
    rw [hc1] at p4 ⊢
    rw [hc2]
    simp only [Bool.and_eq_true] at e1
    have hb3 := e1.2
    unfold budA at hb3
    simp only [Bool.and_eq_true, decide_eq_true_eq] at hb3
    have := least_more l a1 a3 a4 hb3.1 p3 p4
    simp only [this]
    exact ⟨trivial, trivial, p4⟩
  by_cases q1 : b1.2 = 0
  · rw [if_pos q1]
    by_cases q2 : b2.2 = 0
    · rw [if_pos q2]
      by_cases q3 : a2 ≥ a1
      · rw [if_pos q3]
        have o1 : openA l a1 = true := by
          rw [hb1] at q1
          split at q1
          · assumption
          · simp at q1
        have o2 : openA l a2 = true := by
          rw [hb2] at q2
          split at q2
          · assumption
          · simp at q2
        obtain ⟨hr, hl2, p1, p2⟩ := open_parts o1
        obtain ⟨_, _, p3, p4⟩ := open_parts o2
        have hanti := begin_anti hr hl2 a1 a2 p1 p2 p3 p4 q3
        have e1 : b1.1 = beginA l a1 := by rw [hb1, if_pos o1]
        have e2 : b2.1 = beginA l a2 := by rw [hb2, if_pos o2]
        rw [decide_eq_false (show ¬ b2.1 > b1.1 by rw [e1, e2]; omega)]
        exact more_j0 999 a3 a4 _ _ _ _ _ _ _ _ _ hcond hx hy
      · rw [if_neg q3]
        exact more_j0 999 a3 a4 _ _ _ _ _ _ _ _ _ hcond hx hy
    · rw [if_neg q2]
      exact more_j0 999 a3 a4 _ _ _ _ _ _ _ _ _ hcond hx hy
  · rw [if_neg q1]
    exact more_j0 999 a3 a4 _ _ _ _ _ _ _ _ _ hcond hx hy

end Go.Proofs.YtjpifknencfipaaDoor.P
namespace Go.Proofs.YtjpifknencfipaaDoor.BalanceMoreRow
open Go
set_option maxRecDepth 100000
theorem h10 : (Rows.balanceMoreRow.inPlace == Tryd.prog.inPlace 6) = true := by kernel_rfl
theorem h11 : (Rows.balanceMoreRow.unfollowed == Tryd.prog.unfollowed 6) = true := by kernel_rfl
theorem h12 : (Rows.balanceMoreRow.recurses == Tryd.prog.recurses 6) = true := by kernel_rfl
theorem h13 : (Rows.balanceMoreRow.named == Tryd.prog.varsNamed 6) = true := by kernel_rfl
theorem g1 : (Rows.balanceMoreRow.plainKeys == Tryd.prog.plainKeys) = true := Rd.g1
theorem g4 : (Rows.balanceMoreRow.lifted == Tryd.prog.liftsFinal) = true := Rd.g4
theorem g5 : (Tryd.prog.make == some Rows.balanceMoreRow.make) = true := Rd.g5
theorem closed : joinedFacts Tryd.prog 6 Tryd.f6 Rows.balanceMoreSpec Rows.balanceMoreRow = true := by
  unfold joinedFacts
  rw [Rd.f2, Rd.f3, Rd.f7, Rd.f9, h10, h11, h12, h13, g1, Rd.g2, Rd.g3, g4, g5]
  kernel_rfl
end Go.Proofs.YtjpifknencfipaaDoor.BalanceMoreRow

namespace Go.Proofs.YtjpifknencfipaaDoor.BalanceMoreRow
open Go.ChangeShapes Go.WideShapes Go.ChangeAt Go.RowKit Go.Proofs.YtjpifknencfipaaDoor Go.Proofs.YtjpifknencfipaaDoor.P
set_option maxRecDepth 100000 in
theorem lifted (os : Os) (started : os.Started) (H : Type) (enc : TypeId × Value → H) :
    ReturnsInHanded {} Tryd.checked os 6 .any (fun w args => (Rows.balanceMoreSpec.pre enc Tryd.prog Tryd.f6 [] false w args ∧ laidMetH Tryd.prog R.L2 w) ∧ sizedMet enc Tryd.prog Tryd.f6 (OpenSpec.ofChange Rows.balanceMoreSpec) false w args)
      (Rows.balanceMoreSpec.post enc Tryd.prog Tryd.f6 false true false false) := by
  refine returnsInHanded_of_change_and (C := Tryd.checked) (X := fun w _ => laidMetH Tryd.prog R.L2 w) (fun _ _ _ hh h => h.of_heap hh) R.own started (by kernel_rfl) Tryd.func6
    (ChangeSpec.witness_at (enc := enc) (C := Tryd.checked) (os := os) (X := fun w _ => laidMetH Tryd.prog R.L2 w) false (World.laidAll Tryd.prog os R.L2) #[.slice none 0 0, .int .i64 0, .int .i64 0, .int .i64 0, .int .i64 0] 8 rfl (by kernel_rfl) (by kernel_rfl) (by kernel_rfl) (by kernel_rfl) (by kernel_rfl) (R.met2 os _)) ?_
  intro W base args ds gs before hval0 hW _ _ hL _
  have hval : ∀ (j : Nat) t v, Tryd.f6.params[j]? = some t → args[j]? = some v → Value.okWide Tryd.prog W .any base t v := hval0
  have hW' := hW
  obtain ⟨p, q, hA0, hV, rfl, hfz, hnd⟩ := hW
  have hA : DataW.TrodAll enc Tryd.prog W 0 (fun _ => true) true Tryd.f6.params.toList args.toList ds p := hA0
  rw [Tryd.params6] at hA hval
  obtain ⟨v0, vs0, d0, ds0, p0, q0, hargs, rfl, rfl, h0, r0⟩ := trodAll_cons hA
  obtain ⟨v1, vs1, d1, ds1, p1, q1, rfl, rfl, rfl, h1, r1⟩ := trodAll_cons r0
  obtain ⟨v2, vs2, d2, ds2, p2, q2, rfl, rfl, rfl, h2, r2⟩ := trodAll_cons r1
  obtain ⟨v3, vs3, d3, ds3, p3, q3, rfl, rfl, rfl, h3, r3⟩ := trodAll_cons r2
  obtain ⟨v4, vs4, d4, ds4, p4, q4, rfl, rfl, rfl, h4, r4⟩ := trodAll_cons r3
  obtain ⟨rfl, rfl, rfl⟩ := trodAll_nil r4
  obtain rfl : args = #[v0, v1, v2, v3, v4] := by cases args; simp_all
  obtain ⟨rfl, rfl⟩ := trodVars_none hV
  obtain ⟨A0, len0, cap0, rfl⟩ := okWide_slice Tryd.underlying22 (hval 0 22 v0 rfl rfl)
  have k0 := h0
  have lt0 : ∀ x ∈ p0, x.block < W.heap.size := by obtain ⟨m, hm⟩ := k0; exact DataW.trod_lt m _ _ _ hm
  obtain ⟨l0, e0, c0, K0⟩ := R.atoms_in h0
  subst e0
  obtain ⟨a1, rfl, rfl, rfl, w1⟩ := open_int Tryd.underlying3 (hval 1 3 v1 rfl rfl) h1
  obtain ⟨a2, rfl, rfl, rfl, w2⟩ := open_int Tryd.underlying3 (hval 2 3 v2 rfl rfl) h2
  obtain ⟨a3, rfl, rfl, rfl, w3⟩ := open_int Tryd.underlying3 (hval 3 3 v3 rfl rfl) h3
  obtain ⟨a4, rfl, rfl, rfl, w4⟩ := open_int Tryd.underlying3 (hval 4 3 v4 rfl rfl) h4
  refine (gutterlaw15_BalanceMore.calls (1000) _ _ l0 a1 a2 a3 a4 true W K0 c0 (R.gl2 hL) (BalanceMore_true l0 a1 a2 a3 a4)).mono fun e W' ⟨he, bel⟩ => ?_
  subst he
  exact ⟨_, rfl, _, _, _, [], _, [], hW', trodAll_mk1 (shut_bool Tryd.underlying4 _), (trodAll_cons_mk (Below.trod R.laidOut (by kernel_rfl) (of_decide_eq_true (by kernel_rfl)) k0 bel lt0) (trodAll_cons_mk (shut_int Tryd.underlying3 w1) (trodAll_cons_mk (shut_int Tryd.underlying3 w2) (trodAll_cons_mk (shut_int Tryd.underlying3 w3) (trodAll_cons_mk (shut_int Tryd.underlying3 w4) trodAll_mk0))))), rfl, bel.frame _, fun h => by cases h⟩
set_option maxRecDepth 100000
theorem named : Tryd.prog.funcNamed Rows.balanceMoreRow.func = some 6 := by kernel_rfl
theorem inst : Tryd.f6.isInstance Tryd.prog Rows.balanceMoreRow.origin Rows.balanceMoreRow.targs := of_decide_eq_true (by kernel_rfl)
theorem wrap : Tryd.f6.isWrapper Tryd.prog Rows.balanceMoreRow.wrapper Rows.balanceMoreRow.mainSum := by unfold Func.isWrapper; first | (rw [if_pos (by decide +kernel)]; kernel_rfl) | (rw [if_neg (by decide +kernel)]; exact ⟨rfl, rfl⟩)
theorem goes : false = Rows.balanceMoreRow.goesBy Tryd.pinned.checked.prog := by kernel_rfl
theorem byText : Rows.balanceMoreRow.wfByText (OpenSpec.ofChange Rows.balanceMoreSpec) = true := by kernel_rfl
theorem over : Rows.BalanceMoreSaid :=
  OpenClaim.holds_of_wide 6 Tryd.f6 rfl rfl rfl rfl rfl rfl rfl ⟨rfl, rfl, rfl, rfl, rfl⟩ rfl rfl rfl rfl rfl named Tryd.func6 closed inst wrap
    (fun os started H enc _ => lifted os started H enc)
theorem noStand : ∀ (j : Nat) (t : TypeId), Tryd.f6.params[j]? = some t → Tryd.prog.wantsStandIn t = false := by
  intro j t ht
  rw [Tryd.params6] at ht
  have h3 : t = 3 ∨ t = 22 := by
    match j, ht with
    | 0, ht => cases ht; simp
    | 1, ht => cases ht; simp
    | 2, ht => cases ht; simp
    | 3, ht => cases ht; simp
    | 4, ht => cases ht; simp
    | j + 5, ht => simp at ht
  rcases h3 with rfl | rfl
  · exact R.stand3
  · exact R.stand22
end Go.Proofs.YtjpifknencfipaaDoor.BalanceMoreRow
namespace Go.Proofs.YtjpifknencfipaaDoor
open Go
/-- The tied card. -/
theorem balanceMore_card : Rows.BalanceMoreCardSaid :=
  Claim7.holds_tied_plain_at .later [] [.sentinel, .sentinel] true (true, "b9d29a5a8ac8ffd65bd7abf0387edf791e422c0f8ec1e9ac251d4174caa9c425") true
    BalanceMoreRow.over (fun _ h => by cases h) BalanceMoreRow.byText (fun _ h => by cases h) balanceMore_row_tie rfl ⟨rfl, rfl⟩ R.mainFact rfl
    (fun f fn hf hfn => by
      obtain rfl : f = 6 := (Option.some.inj (BalanceMoreRow.named.symm.trans hf)).symm
      obtain rfl : fn = Tryd.f6 := (Option.some.inj (Tryd.func6.symm.trans hfn)).symm
      exact ⟨R.looksFact, BalanceMoreRow.noStand⟩)
    BalanceMoreRow.goes
#print axioms balanceMore_card
end Go.Proofs.YtjpifknencfipaaDoor
