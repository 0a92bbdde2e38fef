/- The law FillMore answers true, whatever comes in, and leaves what came in as it was: the row and the tied card. Conditions: none. -/
import Derived.Test.YtjpifknencfipaaDoorRows
import Derived.Test.YtjpifknencfipaaDoorTie
import Derived.Test.YtjpifknencfipaaDoorCards
import Derived.Test.YtjpifknencfipaaDoorRw
import Derived.Test.YtjpifknencfipaaDoorRd
import Derived.Test.YtjpifknencfipaaDoorLw
import Derived.Test.YtjpifknencfipaaDoorP23
import Derived.WalkKit
import Derived.ProofKit
import Derived.OpenShut
import Derived.ChangeOld
import Derived.Below
import Derived.SizedLaws
import Derived.JoinedOf
import Derived.ChangeVars
import Derived.SevenTiedAt
import Derived.Stop.Joined
set_option linter.unusedVariables false
set_option linter.unusedSimpArgs false
namespace Go.Proofs.YtjpifknencfipaaDoor.P
open Go.RowKit Go.Proofs.YtjpifknencfipaaDoorW.PrintWords Go.Proofs.YtjpifknencfipaaDoorW.PrintLast Go.Proofs.YtjpifknencfipaaDoorW.PrintMore

theorem FillMore_true (l0 : List S32) (a1 : Int) : gutterlaw14_FillMore.f 1000 l0 a1 = some true := by
  unfold gutterlaw14_FillMore.f
  have hf := few_len l0
  rw [shown_f (by omega), Option.bind_some, few_f, Option.bind_some]
  generalize fewA l0 = l at hf
  obtain ⟨v, hv⟩ := high_any l hf
  rw [hv 1000 (by omega), Option.bind_some]
  by_cases h1 : fineA l v = true
  · have hfv : fill_Fill.f l v = some (outA l v, 0) := by unfold fill_Fill.f; rw [if_pos h1]; rfl
    rw [hfv, Option.bind_some, if_pos rfl]
    have hr : rightA l = true := by
      unfold fineA at h1
      simp only [Bool.and_eq_true] at h1
      exact h1.1.1
    have hva : v = allA l := Option.some.inj ((hv 1000 (by omega)).symm.trans (high_right l hr (by omega)))
    have hal := all_range l hr
    simp only [gutterlaw14_FillMore.j0]
    by_cases ha : a1 < 0
    · rw [if_pos ha, if_pos trivial]
    · rw [if_neg ha]
      by_cases hb : a1 > 1000
      · rw [if_pos (by simpa using hb)]
      · rw [if_neg (by simpa using hb), w64 (by omega)]
        have h2 : fineA l (v + a1) = true := by
          unfold fineA
          rw [hr]
          simp only [Bool.true_and, Bool.and_eq_true, decide_eq_true_eq]
          omega
        have hs : fill_Fill.f l (v + a1) = some (outA l (v + a1), 0) := by unfold fill_Fill.f; rw [if_pos h2]; rfl
        have hsh : fill_Short.f l v = some (0, false, 0) := by
          unfold fill_Short.f
          rw [if_pos h1, short_all l hr v (by omega) (by omega)]
          rfl
        have hout : outA l (v + a1) = outA l v := by
          unfold outA
          rw [fill_same l v (v + a1) (by omega) (fun c hm hne => absurd (all_no_over l hr v (by omega) (by omega) c hm) hne)]
        have hlen := fill_len l v
        rw [hs, Option.bind_some, hsh, Option.bind_some, if_pos trivial, if_pos rfl, hout, same_yes _ (by rw [out_len]; omega) (by rw [out_len]; omega), Option.bind_some, if_pos rfl, if_pos rfl]
        rfl
  · have hfv : fill_Fill.f l v = some ([], 130) := by unfold fill_Fill.f; rw [if_neg h1]
    rw [hfv, Option.bind_some, if_neg (by simp)]
    simp only [gutterlaw14_FillMore.j0]
    rfl

end Go.Proofs.YtjpifknencfipaaDoor.P
namespace Go.Proofs.YtjpifknencfipaaDoor.FillMoreRow
open Go
set_option maxRecDepth 100000
theorem h10 : (Rows.fillMoreRow.inPlace == Tryd.prog.inPlace 23) = true := by kernel_rfl
theorem h11 : (Rows.fillMoreRow.unfollowed == Tryd.prog.unfollowed 23) = true := by kernel_rfl
theorem h12 : (Rows.fillMoreRow.recurses == Tryd.prog.recurses 23) = true := by kernel_rfl
theorem h13 : (Rows.fillMoreRow.named == Tryd.prog.varsNamed 23) = true := by kernel_rfl
theorem g1 : (Rows.fillMoreRow.plainKeys == Tryd.prog.plainKeys) = true := Rd.g1
theorem g4 : (Rows.fillMoreRow.lifted == Tryd.prog.liftsFinal) = true := Rd.g4
theorem g5 : (Tryd.prog.make == some Rows.fillMoreRow.make) = true := Rd.g5
theorem closed : joinedFacts Tryd.prog 23 Tryd.f23 Rows.fillMoreSpec Rows.fillMoreRow = true := by
  unfold joinedFacts
  rw [Rd.f2, Rd.f3, Rd.f7, Rd.f9, h10, h11, h12, h13, g1, Rd.g2, Rd.g3, g4, g5]
  kernel_rfl
end Go.Proofs.YtjpifknencfipaaDoor.FillMoreRow

namespace Go.Proofs.YtjpifknencfipaaDoor.FillMoreRow
open Go.ChangeShapes Go.WideShapes Go.ChangeAt Go.RowKit Go.Proofs.YtjpifknencfipaaDoor Go.Proofs.YtjpifknencfipaaDoor.P
set_option maxRecDepth 100000 in
theorem lifted (os : Os) (started : os.Started) (H : Type) (enc : TypeId × Value → H) :
    ReturnsInHanded {} Tryd.checked os 23 .any (fun w args => (Rows.fillMoreSpec.pre enc Tryd.prog Tryd.f23 [] false w args ∧ laidMetH Tryd.prog R.L1 w) ∧ sizedMet enc Tryd.prog Tryd.f23 (OpenSpec.ofChange Rows.fillMoreSpec) false w args)
      (Rows.fillMoreSpec.post enc Tryd.prog Tryd.f23 false true false false) := by
  refine returnsInHanded_of_change_and (C := Tryd.checked) (X := fun w _ => laidMetH Tryd.prog R.L1 w) (fun _ _ _ hh h => h.of_heap hh) R.own started (by kernel_rfl) Tryd.func23
    (ChangeSpec.witness_at (enc := enc) (C := Tryd.checked) (os := os) (X := fun w _ => laidMetH Tryd.prog R.L1 w) false (World.laidAll Tryd.prog os R.L1) #[.slice none 0 0, .int .i64 0] 8 rfl (by kernel_rfl) (by kernel_rfl) (by kernel_rfl) (by kernel_rfl) (by kernel_rfl) (R.met1 os _)) ?_
  intro W base args ds gs before hval0 hW _ _ hL _
  have hval : ∀ (j : Nat) t v, Tryd.f23.params[j]? = some t → args[j]? = some v → Value.okWide Tryd.prog W .any base t v := hval0
  have hW' := hW
  obtain ⟨p, q, hA0, hV, rfl, hfz, hnd⟩ := hW
  have hA : DataW.TrodAll enc Tryd.prog W 0 (fun _ => true) true Tryd.f23.params.toList args.toList ds p := hA0
  rw [Tryd.params23] at hA hval
  obtain ⟨v0, vs0, d0, ds0, p0, q0, hargs, rfl, rfl, h0, r0⟩ := trodAll_cons hA
  obtain ⟨v1, vs1, d1, ds1, p1, q1, rfl, rfl, rfl, h1, r1⟩ := trodAll_cons r0
  obtain ⟨rfl, rfl, rfl⟩ := trodAll_nil r1
  obtain rfl : args = #[v0, v1] := by cases args; simp_all
  obtain ⟨rfl, rfl⟩ := trodVars_none hV
  obtain ⟨A0, len0, cap0, rfl⟩ := okWide_slice Tryd.underlying22 (hval 0 22 v0 rfl rfl)
  have k0 := h0
  have lt0 : ∀ x ∈ p0, x.block < W.heap.size := by obtain ⟨m, hm⟩ := k0; exact DataW.trod_lt m _ _ _ hm
  obtain ⟨l0, e0, c0, K0⟩ := R.atoms_in h0
  subst e0
  obtain ⟨a1, rfl, rfl, rfl, w1⟩ := open_int Tryd.underlying2 (hval 1 2 v1 rfl rfl) h1
  refine (gutterlaw14_FillMore.calls (1000) _ _ l0 a1 true W K0 c0 (R.gl1 hL) (FillMore_true l0 a1)).mono fun e W' ⟨he, bel⟩ => ?_
  subst he
  exact ⟨_, rfl, _, _, _, [], _, [], hW', trodAll_mk1 (shut_bool Tryd.underlying4 _), (trodAll_cons_mk (Below.trod R.laidOut (by kernel_rfl) (of_decide_eq_true (by kernel_rfl)) k0 bel lt0) (trodAll_cons_mk (shut_int Tryd.underlying2 w1) trodAll_mk0)), rfl, bel.frame _, fun h => by cases h⟩
set_option maxRecDepth 100000
theorem named : Tryd.prog.funcNamed Rows.fillMoreRow.func = some 23 := by kernel_rfl
theorem inst : Tryd.f23.isInstance Tryd.prog Rows.fillMoreRow.origin Rows.fillMoreRow.targs := of_decide_eq_true (by kernel_rfl)
theorem wrap : Tryd.f23.isWrapper Tryd.prog Rows.fillMoreRow.wrapper Rows.fillMoreRow.mainSum := by unfold Func.isWrapper; first | (rw [if_pos (by decide +kernel)]; kernel_rfl) | (rw [if_neg (by decide +kernel)]; exact ⟨rfl, rfl⟩)
theorem goes : false = Rows.fillMoreRow.goesBy Tryd.pinned.checked.prog := by kernel_rfl
theorem byText : Rows.fillMoreRow.wfByText (OpenSpec.ofChange Rows.fillMoreSpec) = true := by kernel_rfl
theorem over : Rows.FillMoreSaid :=
  OpenClaim.holds_of_wide 23 Tryd.f23 rfl rfl rfl rfl rfl rfl rfl ⟨rfl, rfl, rfl, rfl, rfl⟩ rfl rfl rfl rfl rfl named Tryd.func23 closed inst wrap
    (fun os started H enc _ => lifted os started H enc)
theorem noStand : ∀ (j : Nat) (t : TypeId), Tryd.f23.params[j]? = some t → Tryd.prog.wantsStandIn t = false := by
  intro j t ht
  rw [Tryd.params23] at ht
  have h3 : t = 2 ∨ t = 22 := by
    match j, ht with
    | 0, ht => cases ht; simp
    | 1, ht => cases ht; simp
    | j + 2, ht => simp at ht
  rcases h3 with rfl | rfl
  · exact R.stand2
  · exact R.stand22
end Go.Proofs.YtjpifknencfipaaDoor.FillMoreRow
namespace Go.Proofs.YtjpifknencfipaaDoor
open Go
/-- The tied card. -/
theorem fillMore_card : Rows.FillMoreCardSaid :=
  Claim7.holds_tied_plain_at .later [] [.sentinel] true (true, "b9d29a5a8ac8ffd65bd7abf0387edf791e422c0f8ec1e9ac251d4174caa9c425") true
    FillMoreRow.over (fun _ h => by cases h) FillMoreRow.byText (fun _ h => by cases h) fillMore_row_tie rfl ⟨rfl, rfl⟩ R.mainFact rfl
    (fun f fn hf hfn => by
      obtain rfl : f = 23 := (Option.some.inj (FillMoreRow.named.symm.trans hf)).symm
      obtain rfl : fn = Tryd.f23 := (Option.some.inj (Tryd.func23.symm.trans hfn)).symm
      exact ⟨R.looksFact, FillMoreRow.noStand⟩)
    FillMoreRow.goes
#print axioms fillMore_card
end Go.Proofs.YtjpifknencfipaaDoor
