/- The law FillBetween answers true, whatever comes in, and leaves what came in as it was: the row and the tied card. Conditions: none. -/
import Derived.Test.YtjpifknencfipaaDoorRows
import Derived.Test.YtjpifknencfipaaDoorTie
import Derived.Test.YtjpifknencfipaaDoorCards
import Derived.Test.YtjpifknencfipaaDoorRw
import Derived.Test.YtjpifknencfipaaDoorRd
import Derived.Test.YtjpifknencfipaaDoorLw
import Derived.Test.YtjpifknencfipaaDoorP22
import Derived.WalkKit
import Derived.ProofKit
import Derived.OpenShut
import Derived.ChangeOld
import Derived.Below
import Derived.SizedLaws
import Derived.JoinedOf
import Derived.ChangeVars
import Derived.SevenTiedAt
import Derived.Stop.Joined
set_option linter.unusedVariables false
set_option linter.unusedSimpArgs false
namespace Go.Proofs.YtjpifknencfipaaDoor.P
open Go.RowKit Go.Proofs.YtjpifknencfipaaDoorW.PrintWords Go.Proofs.YtjpifknencfipaaDoorW.PrintLast Go.Proofs.YtjpifknencfipaaDoorW.PrintMore

theorem FillBetween_true (l0 : List S32) (a1 a2 : Int) : gutterlaw14_FillBetween.f 1000 l0 a1 a2 = some true := by
  unfold gutterlaw14_FillBetween.f
  have hf := few_len l0
  rw [shown_f (by omega), Option.bind_some, few_f, Option.bind_some]
  generalize fewA l0 = l at hf
  unfold fill_Fill.f fill_Short.f
  by_cases h1 : fineA l a1 = true
  · by_cases h2 : fineA l a2 = true
    · rw [if_pos h1, if_pos h2, if_pos h1]
      simp only [Option.bind_some]
      simp only [if_true]
      simp only [gutterlaw14_FillBetween.j0]
      unfold fineA at h1
      simp only [Bool.and_eq_true, decide_eq_true_eq] at h1
      obtain ⟨⟨hr, h0⟩, _⟩ := h1
      by_cases hlt : a2 < a1
      · rw [if_pos (decide_eq_true hlt)]
      · rw [if_neg (by simpa using hlt)]
        have hlen := fill_len l a1
        have hsame : ∀ hc : (∀ c ∈ fillA l a1, c.o ≠ 0 → hiA l c.a (c.o + 1) > a2), (fill_Same.f 999 ((fillA l a1).map (ColA.out l)) ((fillA l a2).map (ColA.out l))) = some true := fun hc => by
          rw [fill_same l a1 a2 (by omega) hc]
          exact same_yes _ (by rw [List.length_map]; omega) (by rw [List.length_map]; omega)
        rcases short_says l hr a1 h0 with ⟨e, hz⟩ | ⟨hgt, _, hle⟩
        · rw [e, if_neg (by simp), if_pos trivial, hsame (fun c hm hne => absurd (hz c hm) hne)]
          rfl
        · rw [if_pos (decide_eq_true (by omega))]
          by_cases hge : a2 ≥ shortA l a1
          · rw [if_pos hge, if_pos trivial, decide_eq_true hgt]
          · rw [if_neg hge, if_pos trivial, hsame (fun c hm hne => by have := hle c hm hne; omega)]
            rfl
    · rw [if_pos h1, if_neg h2, if_pos h1]
      simp only [Option.bind_some]
      simp only [if_true]
      rw [if_neg (by omega)]
      simp only [gutterlaw14_FillBetween.j0]
      rfl
  · rw [if_neg h1, if_neg h1]
    have : ∃ x, (if fineA l a2 = true then some ((fillA l a2).map (ColA.out l), (0 : Int)) else some ([], 130)) = some x := by
      split
      · exact ⟨_, rfl⟩
      · exact ⟨_, rfl⟩
    obtain ⟨x, hx⟩ := this
    rw [hx]
    simp only [Option.bind_some]
    rw [if_neg (by simp)]
    simp only [gutterlaw14_FillBetween.j0]
    rfl

end Go.Proofs.YtjpifknencfipaaDoor.P
namespace Go.Proofs.YtjpifknencfipaaDoor.FillBetweenRow
open Go
set_option maxRecDepth 100000
theorem h10 : (Rows.fillBetweenRow.inPlace == Tryd.prog.inPlace 22) = true := by kernel_rfl
theorem h11 : (Rows.fillBetweenRow.unfollowed == Tryd.prog.unfollowed 22) = true := by kernel_rfl
theorem h12 : (Rows.fillBetweenRow.recurses == Tryd.prog.recurses 22) = true := by kernel_rfl
theorem h13 : (Rows.fillBetweenRow.named == Tryd.prog.varsNamed 22) = true := by kernel_rfl
theorem g1 : (Rows.fillBetweenRow.plainKeys == Tryd.prog.plainKeys) = true := Rd.g1
theorem g4 : (Rows.fillBetweenRow.lifted == Tryd.prog.liftsFinal) = true := Rd.g4
theorem g5 : (Tryd.prog.make == some Rows.fillBetweenRow.make) = true := Rd.g5
theorem closed : joinedFacts Tryd.prog 22 Tryd.f22 Rows.fillBetweenSpec Rows.fillBetweenRow = true := by
  unfold joinedFacts
  rw [Rd.f2, Rd.f3, Rd.f7, Rd.f9, h10, h11, h12, h13, g1, Rd.g2, Rd.g3, g4, g5]
  kernel_rfl
end Go.Proofs.YtjpifknencfipaaDoor.FillBetweenRow

namespace Go.Proofs.YtjpifknencfipaaDoor.FillBetweenRow
open Go.ChangeShapes Go.WideShapes Go.ChangeAt Go.RowKit Go.Proofs.YtjpifknencfipaaDoor Go.Proofs.YtjpifknencfipaaDoor.P
set_option maxRecDepth 100000 in
theorem lifted (os : Os) (started : os.Started) (H : Type) (enc : TypeId × Value → H) :
    ReturnsInHanded {} Tryd.checked os 22 .any (fun w args => (Rows.fillBetweenSpec.pre enc Tryd.prog Tryd.f22 [] false w args ∧ laidMetH Tryd.prog R.L1 w) ∧ sizedMet enc Tryd.prog Tryd.f22 (OpenSpec.ofChange Rows.fillBetweenSpec) false w args)
      (Rows.fillBetweenSpec.post enc Tryd.prog Tryd.f22 false true false false) := by
  refine returnsInHanded_of_change_and (C := Tryd.checked) (X := fun w _ => laidMetH Tryd.prog R.L1 w) (fun _ _ _ hh h => h.of_heap hh) R.own started (by kernel_rfl) Tryd.func22
    (ChangeSpec.witness_at (enc := enc) (C := Tryd.checked) (os := os) (X := fun w _ => laidMetH Tryd.prog R.L1 w) false (World.laidAll Tryd.prog os R.L1) #[.slice none 0 0, .int .i64 0, .int .i64 0] 8 rfl (by kernel_rfl) (by kernel_rfl) (by kernel_rfl) (by kernel_rfl) (by kernel_rfl) (R.met1 os _)) ?_
  intro W base args ds gs before hval0 hW _ _ hL _
  have hval : ∀ (j : Nat) t v, Tryd.f22.params[j]? = some t → args[j]? = some v → Value.okWide Tryd.prog W .any base t v := hval0
  have hW' := hW
  obtain ⟨p, q, hA0, hV, rfl, hfz, hnd⟩ := hW
  have hA : DataW.TrodAll enc Tryd.prog W 0 (fun _ => true) true Tryd.f22.params.toList args.toList ds p := hA0
  rw [Tryd.params22] at hA hval
  obtain ⟨v0, vs0, d0, ds0, p0, q0, hargs, rfl, rfl, h0, r0⟩ := trodAll_cons hA
  obtain ⟨v1, vs1, d1, ds1, p1, q1, rfl, rfl, rfl, h1, r1⟩ := trodAll_cons r0
  obtain ⟨v2, vs2, d2, ds2, p2, q2, rfl, rfl, rfl, h2, r2⟩ := trodAll_cons r1
  obtain ⟨rfl, rfl, rfl⟩ := trodAll_nil r2
  obtain rfl : args = #[v0, v1, v2] := by cases args; simp_all
  obtain ⟨rfl, rfl⟩ := trodVars_none hV
  obtain ⟨A0, len0, cap0, rfl⟩ := okWide_slice Tryd.underlying22 (hval 0 22 v0 rfl rfl)
  have k0 := h0
  have lt0 : ∀ x ∈ p0, x.block < W.heap.size := by obtain ⟨m, hm⟩ := k0; exact DataW.trod_lt m _ _ _ hm
  obtain ⟨l0, e0, c0, K0⟩ := R.atoms_in h0
  subst e0
  obtain ⟨a1, rfl, rfl, rfl, w1⟩ := open_int Tryd.underlying2 (hval 1 2 v1 rfl rfl) h1
  obtain ⟨a2, rfl, rfl, rfl, w2⟩ := open_int Tryd.underlying2 (hval 2 2 v2 rfl rfl) h2
  refine (gutterlaw14_FillBetween.calls (1000) _ _ l0 a1 a2 true W K0 c0 (R.gl1 hL) (FillBetween_true l0 a1 a2)).mono fun e W' ⟨he, bel⟩ => ?_
  subst he
  exact ⟨_, rfl, _, _, _, [], _, [], hW', trodAll_mk1 (shut_bool Tryd.underlying4 _), (trodAll_cons_mk (Below.trod R.laidOut (by kernel_rfl) (of_decide_eq_true (by kernel_rfl)) k0 bel lt0) (trodAll_cons_mk (shut_int Tryd.underlying2 w1) (trodAll_cons_mk (shut_int Tryd.underlying2 w2) trodAll_mk0))), rfl, bel.frame _, fun h => by cases h⟩
set_option maxRecDepth 100000
theorem named : Tryd.prog.funcNamed Rows.fillBetweenRow.func = some 22 := by kernel_rfl
theorem inst : Tryd.f22.isInstance Tryd.prog Rows.fillBetweenRow.origin Rows.fillBetweenRow.targs := of_decide_eq_true (by kernel_rfl)
theorem wrap : Tryd.f22.isWrapper Tryd.prog Rows.fillBetweenRow.wrapper Rows.fillBetweenRow.mainSum := by unfold Func.isWrapper; first | (rw [if_pos (by decide +kernel)]; kernel_rfl) | (rw [if_neg (by decide +kernel)]; exact ⟨rfl, rfl⟩)
theorem goes : false = Rows.fillBetweenRow.goesBy Tryd.pinned.checked.prog := by kernel_rfl
theorem byText : Rows.fillBetweenRow.wfByText (OpenSpec.ofChange Rows.fillBetweenSpec) = true := by kernel_rfl
theorem over : Rows.FillBetweenSaid :=
  OpenClaim.holds_of_wide 22 Tryd.f22 rfl rfl rfl rfl rfl rfl rfl ⟨rfl, rfl, rfl, rfl, rfl⟩ rfl rfl rfl rfl rfl named Tryd.func22 closed inst wrap
    (fun os started H enc _ => lifted os started H enc)
theorem noStand : ∀ (j : Nat) (t : TypeId), Tryd.f22.params[j]? = some t → Tryd.prog.wantsStandIn t = false := by
  intro j t ht
  rw [Tryd.params22] at ht
  have h3 : t = 2 ∨ t = 22 := by
    match j, ht with
    | 0, ht => cases ht; simp
    | 1, ht => cases ht; simp
    | 2, ht => cases ht; simp
    | j + 3, ht => simp at ht
  rcases h3 with rfl | rfl
  · exact R.stand2
  · exact R.stand22
end Go.Proofs.YtjpifknencfipaaDoor.FillBetweenRow
namespace Go.Proofs.YtjpifknencfipaaDoor
open Go
/-- The tied card. -/
theorem fillBetween_card : Rows.FillBetweenCardSaid :=
  Claim7.holds_tied_plain_at .later [] [.sentinel] true (true, "b9d29a5a8ac8ffd65bd7abf0387edf791e422c0f8ec1e9ac251d4174caa9c425") true
    FillBetweenRow.over (fun _ h => by cases h) FillBetweenRow.byText (fun _ h => by cases h) fillBetween_row_tie rfl ⟨rfl, rfl⟩ R.mainFact rfl
    (fun f fn hf hfn => by
      obtain rfl : f = 22 := (Option.some.inj (FillBetweenRow.named.symm.trans hf)).symm
      obtain rfl : fn = Tryd.f22 := (Option.some.inj (Tryd.func22.symm.trans hfn)).symm
      exact ⟨R.looksFact, FillBetweenRow.noStand⟩)
    FillBetweenRow.goes
#print axioms fillBetween_card
end Go.Proofs.YtjpifknencfipaaDoor
