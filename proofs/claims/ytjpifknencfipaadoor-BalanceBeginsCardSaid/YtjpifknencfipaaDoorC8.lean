/- The law BalanceBegins answers true, whatever comes in, and leaves what came in as it was: the row and the tied card. Conditions: none. -/
import Derived.Test.YtjpifknencfipaaDoorRows
import Derived.Test.YtjpifknencfipaaDoorTie
import Derived.Test.YtjpifknencfipaaDoorCards
import Derived.Test.YtjpifknencfipaaDoorRw
import Derived.Test.YtjpifknencfipaaDoorRd
import Derived.Test.YtjpifknencfipaaDoorLb
import Derived.Test.YtjpifknencfipaaDoorLt
import Derived.Test.YtjpifknencfipaaDoorP8
import Derived.WalkKit
import Derived.ProofKit
import Derived.OpenShut
import Derived.ChangeOld
import Derived.Below
import Derived.SizedLaws
import Derived.JoinedOf
import Derived.ChangeVars
import Derived.SevenTiedAt
import Derived.Stop.Joined
set_option linter.unusedVariables false
set_option linter.unusedSimpArgs false
namespace Go.Proofs.YtjpifknencfipaaDoor.P
open Go.RowKit Go.Proofs.YtjpifknencfipaaDoorW.PrintWords Go.Proofs.YtjpifknencfipaaDoorW.PrintLast Go.Proofs.YtjpifknencfipaaDoorW.PrintMore

theorem BalanceBegins_true (l0 : List S32) (a1 a2 : Int) : gutterlaw15_BalanceBegins.f 1000 l0 a1 a2 = some true := by
  unfold gutterlaw15_BalanceBegins.f
  have hl := few40_len l0
  rw [shown15, Option.bind_some, few15_f, Option.bind_some]
  generalize few40 l0 = l at hl
  unfold balance_Begin.f balance_Target.f
  by_cases ho : openA l a1 = true
  · obtain ⟨hr, _, h1, h2⟩ := open_parts ho
    rw [if_pos ho, if_pos ho, Option.bind_some, Option.bind_some, if_pos rfl, if_pos rfl, rtall_k l (by omega) (by omega), Option.bind_some]
    by_cases q1 : a2 < tallA l
    · rw [if_pos q1]
    · rw [if_neg q1]
      by_cases q2 : a2 ≥ beginA l a1
      · rw [if_pos q2]
      · have hbr := begin_range hr (by omega) a1 h1 h2
        have h0 := (tall_ge l).1
        have := begin_says hr (by omega) a1 h1 h2 a2 (by omega) (by omega)
        rw [if_neg q2, cols_fine l a2 (fine_of l hr a2 (by omega) (by omega)), Option.bind_some, if_pos rfl, if_pos rfl]
        simp only
        rw [decide_eq_true (show numA l a2 > targetA l a1 from this)]
  · rw [if_neg ho, if_neg ho, Option.bind_some, Option.bind_some, if_neg (by simp)]

end Go.Proofs.YtjpifknencfipaaDoor.P
namespace Go.Proofs.YtjpifknencfipaaDoor.BalanceBeginsRow
open Go
set_option maxRecDepth 100000
theorem h10 : (Rows.balanceBeginsRow.inPlace == Tryd.prog.inPlace 8) = true := by kernel_rfl
theorem h11 : (Rows.balanceBeginsRow.unfollowed == Tryd.prog.unfollowed 8) = true := by kernel_rfl
theorem h12 : (Rows.balanceBeginsRow.recurses == Tryd.prog.recurses 8) = true := by kernel_rfl
theorem h13 : (Rows.balanceBeginsRow.named == Tryd.prog.varsNamed 8) = true := by kernel_rfl
theorem g1 : (Rows.balanceBeginsRow.plainKeys == Tryd.prog.plainKeys) = true := Rd.g1
theorem g4 : (Rows.balanceBeginsRow.lifted == Tryd.prog.liftsFinal) = true := Rd.g4
theorem g5 : (Tryd.prog.make == some Rows.balanceBeginsRow.make) = true := Rd.g5
theorem closed : joinedFacts Tryd.prog 8 Tryd.f8 Rows.balanceBeginsSpec Rows.balanceBeginsRow = true := by
  unfold joinedFacts
  rw [Rd.f2, Rd.f3, Rd.f7, Rd.f9, h10, h11, h12, h13, g1, Rd.g2, Rd.g3, g4, g5]
  kernel_rfl
end Go.Proofs.YtjpifknencfipaaDoor.BalanceBeginsRow

namespace Go.Proofs.YtjpifknencfipaaDoor.BalanceBeginsRow
open Go.ChangeShapes Go.WideShapes Go.ChangeAt Go.RowKit Go.Proofs.YtjpifknencfipaaDoor Go.Proofs.YtjpifknencfipaaDoor.P
set_option maxRecDepth 100000 in
theorem lifted (os : Os) (started : os.Started) (H : Type) (enc : TypeId × Value → H) :
    ReturnsInHanded {} Tryd.checked os 8 .any (fun w args => (Rows.balanceBeginsSpec.pre enc Tryd.prog Tryd.f8 [] false w args ∧ laidMetH Tryd.prog R.L2 w) ∧ sizedMet enc Tryd.prog Tryd.f8 (OpenSpec.ofChange Rows.balanceBeginsSpec) false w args)
      (Rows.balanceBeginsSpec.post enc Tryd.prog Tryd.f8 false true false false) := by
  refine returnsInHanded_of_change_and (C := Tryd.checked) (X := fun w _ => laidMetH Tryd.prog R.L2 w) (fun _ _ _ hh h => h.of_heap hh) R.own started (by kernel_rfl) Tryd.func8
    (ChangeSpec.witness_at (enc := enc) (C := Tryd.checked) (os := os) (X := fun w _ => laidMetH Tryd.prog R.L2 w) false (World.laidAll Tryd.prog os R.L2) #[.slice none 0 0, .int .i64 0, .int .i64 0] 8 rfl (by kernel_rfl) (by kernel_rfl) (by kernel_rfl) (by kernel_rfl) (by kernel_rfl) (R.met2 os _)) ?_
  intro W base args ds gs before hval0 hW _ _ hL _
  have hval : ∀ (j : Nat) t v, Tryd.f8.params[j]? = some t → args[j]? = some v → Value.okWide Tryd.prog W .any base t v := hval0
  have hW' := hW
  obtain ⟨p, q, hA0, hV, rfl, hfz, hnd⟩ := hW
  have hA : DataW.TrodAll enc Tryd.prog W 0 (fun _ => true) true Tryd.f8.params.toList args.toList ds p := hA0
  rw [Tryd.params8] at hA hval
  obtain ⟨v0, vs0, d0, ds0, p0, q0, hargs, rfl, rfl, h0, r0⟩ := trodAll_cons hA
  obtain ⟨v1, vs1, d1, ds1, p1, q1, rfl, rfl, rfl, h1, r1⟩ := trodAll_cons r0
  obtain ⟨v2, vs2, d2, ds2, p2, q2, rfl, rfl, rfl, h2, r2⟩ := trodAll_cons r1
  obtain ⟨rfl, rfl, rfl⟩ := trodAll_nil r2
  obtain rfl : args = #[v0, v1, v2] := by cases args; simp_all
  obtain ⟨rfl, rfl⟩ := trodVars_none hV
  obtain ⟨A0, len0, cap0, rfl⟩ := okWide_slice Tryd.underlying22 (hval 0 22 v0 rfl rfl)
  have k0 := h0
  have lt0 : ∀ x ∈ p0, x.block < W.heap.size := by obtain ⟨m, hm⟩ := k0; exact DataW.trod_lt m _ _ _ hm
  obtain ⟨l0, e0, c0, K0⟩ := R.atoms_in h0
  subst e0
  obtain ⟨a1, rfl, rfl, rfl, w1⟩ := open_int Tryd.underlying3 (hval 1 3 v1 rfl rfl) h1
  obtain ⟨a2, rfl, rfl, rfl, w2⟩ := open_int Tryd.underlying2 (hval 2 2 v2 rfl rfl) h2
  refine (gutterlaw15_BalanceBegins.calls (1000) _ _ l0 a1 a2 true W K0 c0 (R.gl2 hL) (BalanceBegins_true l0 a1 a2)).mono fun e W' ⟨he, bel⟩ => ?_
  subst he
  exact ⟨_, rfl, _, _, _, [], _, [], hW', trodAll_mk1 (shut_bool Tryd.underlying4 _), (trodAll_cons_mk (Below.trod R.laidOut (by kernel_rfl) (of_decide_eq_true (by kernel_rfl)) k0 bel lt0) (trodAll_cons_mk (shut_int Tryd.underlying3 w1) (trodAll_cons_mk (shut_int Tryd.underlying2 w2) trodAll_mk0))), rfl, bel.frame _, fun h => by cases h⟩
set_option maxRecDepth 100000
theorem named : Tryd.prog.funcNamed Rows.balanceBeginsRow.func = some 8 := by kernel_rfl
theorem inst : Tryd.f8.isInstance Tryd.prog Rows.balanceBeginsRow.origin Rows.balanceBeginsRow.targs := of_decide_eq_true (by kernel_rfl)
theorem wrap : Tryd.f8.isWrapper Tryd.prog Rows.balanceBeginsRow.wrapper Rows.balanceBeginsRow.mainSum := by unfold Func.isWrapper; first | (rw [if_pos (by decide +kernel)]; kernel_rfl) | (rw [if_neg (by decide +kernel)]; exact ⟨rfl, rfl⟩)
theorem goes : false = Rows.balanceBeginsRow.goesBy Tryd.pinned.checked.prog := by kernel_rfl
theorem byText : Rows.balanceBeginsRow.wfByText (OpenSpec.ofChange Rows.balanceBeginsSpec) = true := by kernel_rfl
theorem over : Rows.BalanceBeginsSaid :=
  OpenClaim.holds_of_wide 8 Tryd.f8 rfl rfl rfl rfl rfl rfl rfl ⟨rfl, rfl, rfl, rfl, rfl⟩ rfl rfl rfl rfl rfl named Tryd.func8 closed inst wrap
    (fun os started H enc _ => lifted os started H enc)
theorem noStand : ∀ (j : Nat) (t : TypeId), Tryd.f8.params[j]? = some t → Tryd.prog.wantsStandIn t = false := by
  intro j t ht
  rw [Tryd.params8] at ht
  have h3 : t = 2 ∨ t = 3 ∨ t = 22 := by
    match j, ht with
    | 0, ht => cases ht; simp
    | 1, ht => cases ht; simp
    | 2, ht => cases ht; simp
    | j + 3, ht => simp at ht
  rcases h3 with rfl | rfl | rfl
  · exact R.stand2
  · exact R.stand3
  · exact R.stand22
end Go.Proofs.YtjpifknencfipaaDoor.BalanceBeginsRow
namespace Go.Proofs.YtjpifknencfipaaDoor
open Go
/-- The tied card. -/
theorem balanceBegins_card : Rows.BalanceBeginsCardSaid :=
  Claim7.holds_tied_plain_at .later [] [.sentinel, .sentinel] true (true, "b9d29a5a8ac8ffd65bd7abf0387edf791e422c0f8ec1e9ac251d4174caa9c425") true
    BalanceBeginsRow.over (fun _ h => by cases h) BalanceBeginsRow.byText (fun _ h => by cases h) balanceBegins_row_tie rfl ⟨rfl, rfl⟩ R.mainFact rfl
    (fun f fn hf hfn => by
      obtain rfl : f = 8 := (Option.some.inj (BalanceBeginsRow.named.symm.trans hf)).symm
      obtain rfl : fn = Tryd.f8 := (Option.some.inj (Tryd.func8.symm.trans hfn)).symm
      exact ⟨R.looksFact, BalanceBeginsRow.noStand⟩)
    BalanceBeginsRow.goes
#print axioms balanceBegins_card
end Go.Proofs.YtjpifknencfipaaDoor
