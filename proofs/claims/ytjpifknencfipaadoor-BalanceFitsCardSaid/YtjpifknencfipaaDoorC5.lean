/- The law BalanceFits answers true, whatever comes in, and leaves what came in as it was: the row and the tied card. Conditions: none. -/
import Derived.Test.YtjpifknencfipaaDoorRows
import Derived.Test.YtjpifknencfipaaDoorTie
import Derived.Test.YtjpifknencfipaaDoorCards
import Derived.Test.YtjpifknencfipaaDoorRw
import Derived.Test.YtjpifknencfipaaDoorRd
import Derived.Test.YtjpifknencfipaaDoorLb
import Derived.Test.YtjpifknencfipaaDoorP5
import Derived.WalkKit
import Derived.ProofKit
import Derived.OpenShut
import Derived.ChangeOld
import Derived.Below
import Derived.SizedLaws
import Derived.JoinedOf
import Derived.ChangeVars
import Derived.SevenTiedAt
import Derived.Stop.Joined
set_option linter.unusedVariables false
set_option linter.unusedSimpArgs false
namespace Go.Proofs.YtjpifknencfipaaDoor.P
open Go.RowKit Go.Proofs.YtjpifknencfipaaDoorW.PrintWords Go.Proofs.YtjpifknencfipaaDoorW.PrintLast Go.Proofs.YtjpifknencfipaaDoorW.PrintMore

/-- What Least tells is from 0 to what all together have; the passes are within the budget; without bounds it makes no more columns than the target. -/
theorem least_fits (l : List S32) (n b : Int) (ho : openA l n = true) (hb : budA b = true) :
    0 ≤ (leastBA l n b).1 ∧ (leastBA l n b).1 ≤ allA l ∧ 1 ≤ (leastBA l n b).2.1 ∧ (leastBA l n b).2.1 ≤ b ∧ numA l (leastBA l n b).1 ≤ targetA l n := by
  obtain ⟨hr, hl, h1, h2⟩ := open_parts ho
  unfold budA at hb
  simp only [Bool.and_eq_true, decide_eq_true_eq] at hb
  have hal := all_range l hr
  rcases least_spec l n b hb.1 with ⟨k, hk, he, hn, hno⟩ | ⟨he, hno⟩
  · have hbr := begin_range hr hl n h1 h2
    have hup := hgt_le_all hr (beginA l n) hbr.1 (begin_le_all hr hl n h1 h2) k
    rw [he]
    exact ⟨hup.1, hup.2, by simp only; omega, by simp only; omega, hn⟩
  · rw [he]
    exact ⟨hal.1, Int.le_refl _, hb.1, Int.le_refl _, by simp only; unfold targetA; omega⟩

theorem BalanceFits_true (l0 : List S32) (a1 a2 a3 : Int) : gutterlaw15_BalanceFits.f 1000 l0 a1 a2 a3 = some true := by
  unfold gutterlaw15_BalanceFits.f
  have hl := few40_len l0
  rw [shown15, Option.bind_some, few15_f, Option.bind_some]
  generalize few40 l0 = l at hl
  unfold balance_Balance.f
  by_cases hf : (openA l a1 && budA a3 && decide (0 ≤ a2) && decide (a2 ≤ 2199023255552)) = true
  · have hf' := hf
    simp only [Bool.and_eq_true, decide_eq_true_eq] at hf'
    obtain ⟨⟨⟨ho, hb⟩, h0⟩, h1⟩ := hf'
    obtain ⟨hr, hl2, p1, p2⟩ := open_parts ho
    obtain ⟨f1, f2, f3, f4, f5⟩ := least_fits l a1 a3 ho hb
    have hal := all_range l hr
    have htr := target_range l a1 p1 p2 hl2
    have hT : balance_Target.f l a1 = some (targetA l a1, 0) := by unfold balance_Target.f; rw [if_pos ho]
    rw [if_pos hf, Option.bind_some, if_pos rfl, hT, Option.bind_some]
    simp only
    generalize (leastBA l a1 a3).2.1 = Pn at f3 f4
    generalize (leastBA l a1 a3).1 = H at f1 f2 f5
    have hlow : 0 ≤ lowA H a2 ∧ lowA H a2 ≤ H ∧ (a2 = 0 ∨ lowA H a2 ≤ a2) ∧ (¬ 0 < a2 → lowA H a2 = H) := by
      unfold lowA
      split <;> omega
    rw [cols_fine l _ (fine_of l hr _ hlow.1 (by omega)), Option.bind_some]
    iterate 4 (first | rw [if_pos rfl] | rw [if_pos trivial])
    rw [high_right l hr (by omega), Option.bind_some, if_pos (by omega)]
    have e1 : Pn ≥ 1 := f3
    have e2 : decide (targetA l a1 ≥ a1) = true := decide_eq_true htr.2.2
    by_cases q1 : a2 = 0
    · rw [if_pos q1, if_neg (by omega), hlow.2.2.2 (by omega), if_pos f5, if_pos e1, if_pos f4, e2]
    · rw [if_neg q1, if_pos (by omega), if_pos (by omega), if_pos e1, if_pos f4, e2]
  · rw [if_neg hf, Option.bind_some, if_neg (by simp), if_pos rfl]
    rfl

end Go.Proofs.YtjpifknencfipaaDoor.P
namespace Go.Proofs.YtjpifknencfipaaDoor.BalanceFitsRow
open Go
set_option maxRecDepth 100000
theorem h10 : (Rows.balanceFitsRow.inPlace == Tryd.prog.inPlace 5) = true := by kernel_rfl
theorem h11 : (Rows.balanceFitsRow.unfollowed == Tryd.prog.unfollowed 5) = true := by kernel_rfl
theorem h12 : (Rows.balanceFitsRow.recurses == Tryd.prog.recurses 5) = true := by kernel_rfl
theorem h13 : (Rows.balanceFitsRow.named == Tryd.prog.varsNamed 5) = true := by kernel_rfl
theorem g1 : (Rows.balanceFitsRow.plainKeys == Tryd.prog.plainKeys) = true := Rd.g1
theorem g4 : (Rows.balanceFitsRow.lifted == Tryd.prog.liftsFinal) = true := Rd.g4
theorem g5 : (Tryd.prog.make == some Rows.balanceFitsRow.make) = true := Rd.g5
theorem closed : joinedFacts Tryd.prog 5 Tryd.f5 Rows.balanceFitsSpec Rows.balanceFitsRow = true := by
  unfold joinedFacts
  rw [Rd.f2, Rd.f3, Rd.f7, Rd.f9, h10, h11, h12, h13, g1, Rd.g2, Rd.g3, g4, g5]
  kernel_rfl
end Go.Proofs.YtjpifknencfipaaDoor.BalanceFitsRow

namespace Go.Proofs.YtjpifknencfipaaDoor.BalanceFitsRow
open Go.ChangeShapes Go.WideShapes Go.ChangeAt Go.RowKit Go.Proofs.YtjpifknencfipaaDoor Go.Proofs.YtjpifknencfipaaDoor.P
set_option maxRecDepth 100000 in
theorem lifted (os : Os) (started : os.Started) (H : Type) (enc : TypeId × Value → H) :
    ReturnsInHanded {} Tryd.checked os 5 .any (fun w args => (Rows.balanceFitsSpec.pre enc Tryd.prog Tryd.f5 [] false w args ∧ laidMetH Tryd.prog R.L2 w) ∧ sizedMet enc Tryd.prog Tryd.f5 (OpenSpec.ofChange Rows.balanceFitsSpec) false w args)
      (Rows.balanceFitsSpec.post enc Tryd.prog Tryd.f5 false true false false) := by
  refine returnsInHanded_of_change_and (C := Tryd.checked) (X := fun w _ => laidMetH Tryd.prog R.L2 w) (fun _ _ _ hh h => h.of_heap hh) R.own started (by kernel_rfl) Tryd.func5
    (ChangeSpec.witness_at (enc := enc) (C := Tryd.checked) (os := os) (X := fun w _ => laidMetH Tryd.prog R.L2 w) false (World.laidAll Tryd.prog os R.L2) #[.slice none 0 0, .int .i64 0, .int .i64 0, .int .i64 0] 8 rfl (by kernel_rfl) (by kernel_rfl) (by kernel_rfl) (by kernel_rfl) (by kernel_rfl) (R.met2 os _)) ?_
  intro W base args ds gs before hval0 hW _ _ hL _
  have hval : ∀ (j : Nat) t v, Tryd.f5.params[j]? = some t → args[j]? = some v → Value.okWide Tryd.prog W .any base t v := hval0
  have hW' := hW
  obtain ⟨p, q, hA0, hV, rfl, hfz, hnd⟩ := hW
  have hA : DataW.TrodAll enc Tryd.prog W 0 (fun _ => true) true Tryd.f5.params.toList args.toList ds p := hA0
  rw [Tryd.params5] at hA hval
  obtain ⟨v0, vs0, d0, ds0, p0, q0, hargs, rfl, rfl, h0, r0⟩ := trodAll_cons hA
  obtain ⟨v1, vs1, d1, ds1, p1, q1, rfl, rfl, rfl, h1, r1⟩ := trodAll_cons r0
  obtain ⟨v2, vs2, d2, ds2, p2, q2, rfl, rfl, rfl, h2, r2⟩ := trodAll_cons r1
  obtain ⟨v3, vs3, d3, ds3, p3, q3, rfl, rfl, rfl, h3, r3⟩ := trodAll_cons r2
  obtain ⟨rfl, rfl, rfl⟩ := trodAll_nil r3
  obtain rfl : args = #[v0, v1, v2, v3] := by cases args; simp_all
  obtain ⟨rfl, rfl⟩ := trodVars_none hV
  obtain ⟨A0, len0, cap0, rfl⟩ := okWide_slice Tryd.underlying22 (hval 0 22 v0 rfl rfl)
  have k0 := h0
  have lt0 : ∀ x ∈ p0, x.block < W.heap.size := by obtain ⟨m, hm⟩ := k0; exact DataW.trod_lt m _ _ _ hm
  obtain ⟨l0, e0, c0, K0⟩ := R.atoms_in h0
  subst e0
  obtain ⟨a1, rfl, rfl, rfl, w1⟩ := open_int Tryd.underlying3 (hval 1 3 v1 rfl rfl) h1
  obtain ⟨a2, rfl, rfl, rfl, w2⟩ := open_int Tryd.underlying2 (hval 2 2 v2 rfl rfl) h2
  obtain ⟨a3, rfl, rfl, rfl, w3⟩ := open_int Tryd.underlying3 (hval 3 3 v3 rfl rfl) h3
  refine (gutterlaw15_BalanceFits.callsT (1000) _ _ l0 a1 a2 a3 true W K0 c0 (R.gl2 hL) (BalanceFits_true l0 a1 a2 a3) rfl).mono fun e W' ⟨he, bel⟩ => ?_
  subst he
  exact ⟨_, rfl, _, _, _, [], _, [], hW', trodAll_mk1 (shut_bool Tryd.underlying4 _), (trodAll_cons_mk (Below.trod R.laidOut (by kernel_rfl) (of_decide_eq_true (by kernel_rfl)) k0 bel lt0) (trodAll_cons_mk (shut_int Tryd.underlying3 w1) (trodAll_cons_mk (shut_int Tryd.underlying2 w2) (trodAll_cons_mk (shut_int Tryd.underlying3 w3) trodAll_mk0)))), rfl, bel.frame _, fun h => by cases h⟩
set_option maxRecDepth 100000
theorem named : Tryd.prog.funcNamed Rows.balanceFitsRow.func = some 5 := by kernel_rfl
theorem inst : Tryd.f5.isInstance Tryd.prog Rows.balanceFitsRow.origin Rows.balanceFitsRow.targs := of_decide_eq_true (by kernel_rfl)
theorem wrap : Tryd.f5.isWrapper Tryd.prog Rows.balanceFitsRow.wrapper Rows.balanceFitsRow.mainSum := by unfold Func.isWrapper; first | (rw [if_pos (by decide +kernel)]; kernel_rfl) | (rw [if_neg (by decide +kernel)]; exact ⟨rfl, rfl⟩)
theorem goes : false = Rows.balanceFitsRow.goesBy Tryd.pinned.checked.prog := by kernel_rfl
theorem byText : Rows.balanceFitsRow.wfByText (OpenSpec.ofChange Rows.balanceFitsSpec) = true := by kernel_rfl
theorem over : Rows.BalanceFitsSaid :=
  OpenClaim.holds_of_wide 5 Tryd.f5 rfl rfl rfl rfl rfl rfl rfl ⟨rfl, rfl, rfl, rfl, rfl⟩ rfl rfl rfl rfl rfl named Tryd.func5 closed inst wrap
    (fun os started H enc _ => lifted os started H enc)
theorem noStand : ∀ (j : Nat) (t : TypeId), Tryd.f5.params[j]? = some t → Tryd.prog.wantsStandIn t = false := by
  intro j t ht
  rw [Tryd.params5] at ht
  have h3 : t = 2 ∨ t = 3 ∨ t = 22 := by
    match j, ht with
    | 0, ht => cases ht; simp
    | 1, ht => cases ht; simp
    | 2, ht => cases ht; simp
    | 3, ht => cases ht; simp
    | j + 4, ht => simp at ht
  rcases h3 with rfl | rfl | rfl
  · exact R.stand2
  · exact R.stand3
  · exact R.stand22
end Go.Proofs.YtjpifknencfipaaDoor.BalanceFitsRow
namespace Go.Proofs.YtjpifknencfipaaDoor
open Go
/-- The tied card. -/
theorem balanceFits_card : Rows.BalanceFitsCardSaid :=
  Claim7.holds_tied_plain_at .later [] [.sentinel, .sentinel] true (true, "b9d29a5a8ac8ffd65bd7abf0387edf791e422c0f8ec1e9ac251d4174caa9c425") true
    BalanceFitsRow.over (fun _ h => by cases h) BalanceFitsRow.byText (fun _ h => by cases h) balanceFits_row_tie rfl ⟨rfl, rfl⟩ R.mainFact rfl
    (fun f fn hf hfn => by
      obtain rfl : f = 5 := (Option.some.inj (BalanceFitsRow.named.symm.trans hf)).symm
      obtain rfl : fn = Tryd.f5 := (Option.some.inj (Tryd.func5.symm.trans hfn)).symm
      exact ⟨R.looksFact, BalanceFitsRow.noStand⟩)
    BalanceFitsRow.goes
#print axioms balanceFits_card
end Go.Proofs.YtjpifknencfipaaDoor
