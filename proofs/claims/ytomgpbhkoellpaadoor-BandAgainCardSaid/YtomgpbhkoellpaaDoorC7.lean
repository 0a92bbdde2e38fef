/- The law BandAgain answers true, whatever comes in, and leaves what came in as it was: the row and the tied card. Conditions: none. -/
import Derived.Test.YtomgpbhkoellpaaDoorRows
import Derived.Test.YtomgpbhkoellpaaDoorTie
import Derived.Test.YtomgpbhkoellpaaDoorCards
import Derived.Test.YtomgpbhkoellpaaDoorRw
import Derived.Test.YtomgpbhkoellpaaDoorRd
import Derived.Test.YtomgpbhkoellpaaDoorLa
import Derived.Test.YtomgpbhkoellpaaDoorP7
import Derived.WalkKit
import Derived.ProofKit
import Derived.OpenShut
import Derived.ChangeOld
import Derived.Below
import Derived.SizedLaws
import Derived.JoinedOf
import Derived.ChangeVars
import Derived.SevenTiedAt
import Derived.Stop.Joined
set_option linter.unusedVariables false
set_option linter.unusedSimpArgs false
namespace Go.Proofs.YtomgpbhkoellpaaDoor.P
open Go.RowKit Go.Proofs.YtomgpbhkoellpaaDoorW.PrintWords Go.Proofs.YtomgpbhkoellpaaDoorW.PrintLast Go.Proofs.YtomgpbhkoellpaaDoorW.PrintMore

theorem again_eq {l : List S24} {x : S24} (hl : rightD l = true) (hx : rightD [x] = true) : plusB (lessB l x) x = plusB l x :=
  extD (plus_right (less_right hl hx) hx) (plus_right hl hx) fun n => by
    rw [plus_has (less_right hl hx) hx, plus_has hl hx, less_has hl hx]
    refine ⟨fun h => h.imp_left And.left, fun h => ?_⟩
    by_cases q : x.f0 ≤ n ∧ n < x.f1
    · exact .inr q
    · exact h.imp_left fun h => ⟨h, q⟩

theorem BandAgain_true (l0 : List S24) (a1_0 a1_1 : Int) : gutterlaw03_BandAgain.f 4000 l0 a1_0 a1_1 = some true := by
  unfold gutterlaw03_BandAgain.f
  have hn := few3_len l0
  rw [shown3 (by omega), Option.bind_some, few3_f, Option.bind_some]
  generalize few3 l0 = l at hn
  obtain ⟨x, hx⟩ : ∃ x : S24, x = ⟨a1_0, a1_1⟩ := ⟨_, rfl⟩
  obtain rfl : x.f0 = a1_0 := by rw [hx]
  obtain rfl : x.f1 = a1_1 := by rw [hx]
  clear hx
  by_cases h : (rightD l && rightD [x]) = true
  · obtain ⟨hl, hx⟩ := Bool.and_eq_true_iff.1 h
    have h1 := lessB_len l x
    have h2 := plusB_len (lessB l x) x
    rw [less_ok hl hx (by omega), Option.bind_some, plus_ok (less_right hl hx) hx (by omega), Option.bind_some, plus_ok hl hx (by omega), Option.bind_some, if_pos rfl, if_pos rfl, if_pos rfl, if_pos rfl, again_eq hl hx, bsame_f _ _ (by have := plusB_len l x; show (plusB l x).length ≤ _; omega) (by have := plusB_len l x; show (plusB l x).length < _; omega)]
    simp
  · have h' : (rightD l && rightD [x]) = false := by simpa using h
    rw [less_no h' (by omega), Option.bind_some, plus_f [] x (by simp), Option.bind_some, plus_no h' (by omega), Option.bind_some, if_neg (by simp), if_pos rfl, if_pos rfl]
    rfl

end Go.Proofs.YtomgpbhkoellpaaDoor.P
namespace Go.Proofs.YtomgpbhkoellpaaDoor.BandAgainRow
open Go
set_option maxRecDepth 100000
theorem h10 : (Rows.bandAgainRow.inPlace == Tryd.prog.inPlace 7) = true := by kernel_rfl
theorem h11 : (Rows.bandAgainRow.unfollowed == Tryd.prog.unfollowed 7) = true := by kernel_rfl
theorem h12 : (Rows.bandAgainRow.recurses == Tryd.prog.recurses 7) = true := by kernel_rfl
theorem h13 : (Rows.bandAgainRow.named == Tryd.prog.varsNamed 7) = true := by kernel_rfl
theorem g1 : (Rows.bandAgainRow.plainKeys == Tryd.prog.plainKeys) = true := Rd.g1
theorem g4 : (Rows.bandAgainRow.lifted == Tryd.prog.liftsFinal) = true := Rd.g4
theorem g5 : (Tryd.prog.make == some Rows.bandAgainRow.make) = true := Rd.g5
theorem closed : joinedFacts Tryd.prog 7 Tryd.f7 Rows.bandAgainSpec Rows.bandAgainRow = true := by
  unfold joinedFacts
  rw [Rd.f2, Rd.f3, Rd.f7, Rd.f9, h10, h11, h12, h13, g1, Rd.g2, Rd.g3, g4, g5]
  kernel_rfl
end Go.Proofs.YtomgpbhkoellpaaDoor.BandAgainRow

namespace Go.Proofs.YtomgpbhkoellpaaDoor.BandAgainRow
open Go.ChangeShapes Go.WideShapes Go.ChangeAt Go.RowKit Go.Proofs.YtomgpbhkoellpaaDoor Go.Proofs.YtomgpbhkoellpaaDoor.P
set_option maxRecDepth 100000 in
theorem lifted (os : Os) (started : os.Started) (H : Type) (enc : TypeId × Value → H) :
    ReturnsInHanded {} Tryd.checked os 7 .any (fun w args => (Rows.bandAgainSpec.pre enc Tryd.prog Tryd.f7 [] false w args ∧ laidMetH Tryd.prog R.L1 w) ∧ sizedMet enc Tryd.prog Tryd.f7 (OpenSpec.ofChange Rows.bandAgainSpec) false w args)
      (Rows.bandAgainSpec.post enc Tryd.prog Tryd.f7 false true false false) := by
  refine returnsInHanded_of_change_and (C := Tryd.checked) (X := fun w _ => laidMetH Tryd.prog R.L1 w) (fun _ _ _ hh h => h.of_heap hh) R.own started (by kernel_rfl) Tryd.func7
    (ChangeSpec.witness_at (enc := enc) (C := Tryd.checked) (os := os) (X := fun w _ => laidMetH Tryd.prog R.L1 w) false (World.laidAll Tryd.prog os R.L1) #[.slice none 0 0, .agg #[.int .i64 0, .int .i64 0]] 8 rfl (by kernel_rfl) (by kernel_rfl) (by kernel_rfl) (by kernel_rfl) (by kernel_rfl) (R.met1 os _)) ?_
  intro W base args ds gs before hval0 hW _ _ hL _
  have hval : ∀ (j : Nat) t v, Tryd.f7.params[j]? = some t → args[j]? = some v → Value.okWide Tryd.prog W .any base t v := hval0
  have hW' := hW
  obtain ⟨p, q, hA0, hV, rfl, hfz, hnd⟩ := hW
  have hA : DataW.TrodAll enc Tryd.prog W 0 (fun _ => true) true Tryd.f7.params.toList args.toList ds p := hA0
  rw [Tryd.params7] at hA hval
  obtain ⟨v0, vs0, d0, ds0, p0, q0, hargs, rfl, rfl, h0, r0⟩ := trodAll_cons hA
  obtain ⟨v1, vs1, d1, ds1, p1, q1, rfl, rfl, rfl, h1, r1⟩ := trodAll_cons r0
  obtain ⟨rfl, rfl, rfl⟩ := trodAll_nil r1
  obtain rfl : args = #[v0, v1] := by cases args; simp_all
  obtain ⟨rfl, rfl⟩ := trodVars_none hV
  obtain ⟨A0, len0, cap0, rfl⟩ := okWide_slice Tryd.underlying22 (hval 0 22 v0 rfl rfl)
  have k0 := h0
  have lt0 : ∀ x ∈ p0, x.block < W.heap.size := by obtain ⟨m, hm⟩ := k0; exact DataW.trod_lt m _ _ _ hm
  obtain ⟨l0, e0, c0, K0⟩ := R.spans_in h0
  subst e0
  have k1 := h1
  have lt1 : ∀ x ∈ p1, x.block < W.heap.size := by obtain ⟨m, hm⟩ := k1; exact DataW.trod_lt m _ _ _ hm
  obtain ⟨a1_0, a1_1, rfl⟩ := R.span_in (hval 1 24 v1 rfl rfl) h1
  refine (gutterlaw03_BandAgain.calls (4000) _ _ l0 a1_0 a1_1 true W K0 c0 (R.gl1 hL) (BandAgain_true l0 a1_0 a1_1)).mono fun e W' ⟨he, bel⟩ => ?_
  subst he
  exact ⟨_, rfl, _, _, _, [], _, [], hW', trodAll_mk1 (shut_bool Tryd.underlying4 _), (trodAll_cons_mk (Below.trod R.laidOut (by kernel_rfl) (of_decide_eq_true (by kernel_rfl)) k0 bel lt0) (trodAll_cons_mk (Below.trod R.laidOut (by kernel_rfl) (of_decide_eq_true (by kernel_rfl)) k1 bel lt1) trodAll_mk0)), rfl, bel.frame _, fun h => by cases h⟩
set_option maxRecDepth 100000
theorem named : Tryd.prog.funcNamed Rows.bandAgainRow.func = some 7 := by kernel_rfl
theorem inst : Tryd.f7.isInstance Tryd.prog Rows.bandAgainRow.origin Rows.bandAgainRow.targs := of_decide_eq_true (by kernel_rfl)
theorem wrap : Tryd.f7.isWrapper Tryd.prog Rows.bandAgainRow.wrapper Rows.bandAgainRow.mainSum := by unfold Func.isWrapper; first | (rw [if_pos (by decide +kernel)]; kernel_rfl) | (rw [if_neg (by decide +kernel)]; exact ⟨rfl, rfl⟩)
theorem goes : false = Rows.bandAgainRow.goesBy Tryd.pinned.checked.prog := by kernel_rfl
theorem byText : Rows.bandAgainRow.wfByText (OpenSpec.ofChange Rows.bandAgainSpec) = true := by kernel_rfl
theorem over : Rows.BandAgainSaid :=
  OpenClaim.holds_of_wide 7 Tryd.f7 rfl rfl rfl rfl rfl rfl rfl ⟨rfl, rfl, rfl, rfl, rfl⟩ rfl rfl rfl rfl rfl named Tryd.func7 closed inst wrap
    (fun os started H enc _ => lifted os started H enc)
theorem noStand : ∀ (j : Nat) (t : TypeId), Tryd.f7.params[j]? = some t → Tryd.prog.wantsStandIn t = false := by
  intro j t ht
  rw [Tryd.params7] at ht
  have h3 : t = 22 ∨ t = 24 := by
    match j, ht with
    | 0, ht => cases ht; simp
    | 1, ht => cases ht; simp
    | j + 2, ht => simp at ht
  rcases h3 with rfl | rfl
  · exact R.stand22
  · exact R.stand24
end Go.Proofs.YtomgpbhkoellpaaDoor.BandAgainRow
namespace Go.Proofs.YtomgpbhkoellpaaDoor
open Go
/-- The tied card. -/
theorem bandAgain_card : Rows.BandAgainCardSaid :=
  Claim7.holds_tied_plain_at .later [] [.sentinel] true (true, "ac9d298ba8180d8e28314710ac8d3f43303b32e2ef07f873131167b130a3c7d2") true
    BandAgainRow.over (fun _ h => by cases h) BandAgainRow.byText (fun _ h => by cases h) bandAgain_row_tie rfl ⟨rfl, rfl⟩ R.mainFact rfl
    (fun f fn hf hfn => by
      obtain rfl : f = 7 := (Option.some.inj (BandAgainRow.named.symm.trans hf)).symm
      obtain rfl : fn = Tryd.f7 := (Option.some.inj (Tryd.func7.symm.trans hfn)).symm
      exact ⟨R.looksFact, BandAgainRow.noStand⟩)
    BandAgainRow.goes
#print axioms bandAgain_card
end Go.Proofs.YtomgpbhkoellpaaDoor
