/- The law BandBoth answers true, whatever comes in, and leaves what came in as it was: the row and the tied card. Conditions: none. -/
import Derived.Test.YtomgpbhkoellpaaDoorRows
import Derived.Test.YtomgpbhkoellpaaDoorTie
import Derived.Test.YtomgpbhkoellpaaDoorCards
import Derived.Test.YtomgpbhkoellpaaDoorRw
import Derived.Test.YtomgpbhkoellpaaDoorRd
import Derived.Test.YtomgpbhkoellpaaDoorLa
import Derived.Test.YtomgpbhkoellpaaDoorP10
import Derived.WalkKit
import Derived.ProofKit
import Derived.OpenShut
import Derived.ChangeOld
import Derived.Below
import Derived.SizedLaws
import Derived.JoinedOf
import Derived.ChangeVars
import Derived.SevenTiedAt
import Derived.Stop.Joined
set_option linter.unusedVariables false
set_option linter.unusedSimpArgs false
namespace Go.Proofs.YtomgpbhkoellpaaDoor.P
open Go.RowKit Go.Proofs.YtomgpbhkoellpaaDoorW.PrintWords Go.Proofs.YtomgpbhkoellpaaDoorW.PrintLast Go.Proofs.YtomgpbhkoellpaaDoorW.PrintMore

theorem both_turn {l m : List S24} (hl : rightD l = true) (hm : rightD m = true) : bothB m l = bothB l m :=
  extD (both_right hm hl) (both_right hl hm) fun n => by rw [both_has hm hl, both_has hl hm, And.comm]
theorem both_self {l : List S24} (hl : rightD l = true) : bothB l l = l :=
  extD (both_right hl hl) hl fun n => by rw [both_has hl hl, and_self]
theorem both_less {l m : List S24} (hl : rightD l = true) (hm : rightD m = true) : ctB (hasB (bothB l m)) ≤ ctB (hasB l) := by
  have h := ct_add (p := hasB l) (q := hasB (bothB l m)) (r := fun n => hasB l n && !hasB m n) (fun n => by
    rw [both_has hl hm]
    cases hasB l n <;> cases hasB m n <;> simp) (fun n => by
    rw [both_has hl hm]
    cases hasB l n <;> cases hasB m n <;> simp)
  have := ct_bounds (fun n => hasB l n && !hasB m n)
  omega

theorem BandBoth_true (l0 l1 : List S24) : gutterlaw03_BandBoth.f 4000 l0 l1 = some true := by
  unfold gutterlaw03_BandBoth.f
  have hn := few3_len l0
  have hn' := few3_len l1
  rw [shown3 (by omega), Option.bind_some, few3_f, Option.bind_some, few3_f, Option.bind_some]
  generalize few3 l0 = l at hn
  generalize few3 l1 = m at hn'
  have hc : (bothB l m).length ≤ 900 := Nat.le_trans (bothB_len l m) (Nat.mul_le_mul hn hn')
  by_cases h : (rightD l && rightD m) = true
  · obtain ⟨hl, hm⟩ := Bool.and_eq_true_iff.1 h
    rw [both_ok hl hm (by omega) (by omega), Option.bind_some, both_ok hm hl (by omega) (by omega), Option.bind_some, both_ok hl hl (by omega) (by omega), Option.bind_some, both_turn hl hm, both_self hl, if_pos rfl, if_pos rfl, if_pos rfl, if_pos rfl,
      bsame_f _ _ (by show (bothB l m).length ≤ _; omega) (by show (bothB l m).length < _; omega), Option.bind_some, if_pos (by simp), bsame_f _ _ (by show l.length ≤ _; omega) (by show l.length < _; omega), Option.bind_some, if_pos (by simp),
      total_ok (both_right hl hm) (by omega), Option.bind_some, total_ok hl (by omega), Option.bind_some, decide_eq_true (both_less hl hm)]
  · have h' : (rightD l && rightD m) = false := by simpa using h
    have h'' : (rightD m && rightD l) = false := by rw [Bool.and_comm]; exact h'
    rw [both_no h' (by omega) (by omega), Option.bind_some, both_no h'' (by omega) (by omega), Option.bind_some, both_f l l (by omega) (by omega), Option.bind_some, if_neg (by simp), if_pos rfl, if_pos rfl]
    rfl

end Go.Proofs.YtomgpbhkoellpaaDoor.P
namespace Go.Proofs.YtomgpbhkoellpaaDoor.BandBothRow
open Go
set_option maxRecDepth 100000
theorem h10 : (Rows.bandBothRow.inPlace == Tryd.prog.inPlace 10) = true := by kernel_rfl
theorem h11 : (Rows.bandBothRow.unfollowed == Tryd.prog.unfollowed 10) = true := by kernel_rfl
theorem h12 : (Rows.bandBothRow.recurses == Tryd.prog.recurses 10) = true := by kernel_rfl
theorem h13 : (Rows.bandBothRow.named == Tryd.prog.varsNamed 10) = true := by kernel_rfl
theorem g1 : (Rows.bandBothRow.plainKeys == Tryd.prog.plainKeys) = true := Rd.g1
theorem g4 : (Rows.bandBothRow.lifted == Tryd.prog.liftsFinal) = true := Rd.g4
theorem g5 : (Tryd.prog.make == some Rows.bandBothRow.make) = true := Rd.g5
theorem closed : joinedFacts Tryd.prog 10 Tryd.f10 Rows.bandBothSpec Rows.bandBothRow = true := by
  unfold joinedFacts
  rw [Rd.f2, Rd.f3, Rd.f7, Rd.f9, h10, h11, h12, h13, g1, Rd.g2, Rd.g3, g4, g5]
  kernel_rfl
end Go.Proofs.YtomgpbhkoellpaaDoor.BandBothRow

namespace Go.Proofs.YtomgpbhkoellpaaDoor.BandBothRow
open Go.ChangeShapes Go.WideShapes Go.ChangeAt Go.RowKit Go.Proofs.YtomgpbhkoellpaaDoor Go.Proofs.YtomgpbhkoellpaaDoor.P
set_option maxRecDepth 100000 in
theorem lifted (os : Os) (started : os.Started) (H : Type) (enc : TypeId × Value → H) :
    ReturnsInHanded {} Tryd.checked os 10 .any (fun w args => (Rows.bandBothSpec.pre enc Tryd.prog Tryd.f10 [] false w args ∧ laidMetH Tryd.prog R.L1 w) ∧ sizedMet enc Tryd.prog Tryd.f10 (OpenSpec.ofChange Rows.bandBothSpec) false w args)
      (Rows.bandBothSpec.post enc Tryd.prog Tryd.f10 false true false false) := by
  refine returnsInHanded_of_change_and (C := Tryd.checked) (X := fun w _ => laidMetH Tryd.prog R.L1 w) (fun _ _ _ hh h => h.of_heap hh) R.own started (by kernel_rfl) Tryd.func10
    (ChangeSpec.witness_at (enc := enc) (C := Tryd.checked) (os := os) (X := fun w _ => laidMetH Tryd.prog R.L1 w) false (World.laidAll Tryd.prog os R.L1) #[.slice none 0 0, .slice none 0 0] 8 rfl (by kernel_rfl) (by kernel_rfl) (by kernel_rfl) (by kernel_rfl) (by kernel_rfl) (R.met1 os _)) ?_
  intro W base args ds gs before hval0 hW _ _ hL _
  have hval : ∀ (j : Nat) t v, Tryd.f10.params[j]? = some t → args[j]? = some v → Value.okWide Tryd.prog W .any base t v := hval0
  have hW' := hW
  obtain ⟨p, q, hA0, hV, rfl, hfz, hnd⟩ := hW
  have hA : DataW.TrodAll enc Tryd.prog W 0 (fun _ => true) true Tryd.f10.params.toList args.toList ds p := hA0
  rw [Tryd.params10] at hA hval
  obtain ⟨v0, vs0, d0, ds0, p0, q0, hargs, rfl, rfl, h0, r0⟩ := trodAll_cons hA
  obtain ⟨v1, vs1, d1, ds1, p1, q1, rfl, rfl, rfl, h1, r1⟩ := trodAll_cons r0
  obtain ⟨rfl, rfl, rfl⟩ := trodAll_nil r1
  obtain rfl : args = #[v0, v1] := by cases args; simp_all
  obtain ⟨rfl, rfl⟩ := trodVars_none hV
  obtain ⟨A0, len0, cap0, rfl⟩ := okWide_slice Tryd.underlying22 (hval 0 22 v0 rfl rfl)
  have k0 := h0
  have lt0 : ∀ x ∈ p0, x.block < W.heap.size := by obtain ⟨m, hm⟩ := k0; exact DataW.trod_lt m _ _ _ hm
  obtain ⟨l0, e0, c0, K0⟩ := R.spans_in h0
  subst e0
  obtain ⟨A1, len1, cap1, rfl⟩ := okWide_slice Tryd.underlying22 (hval 1 22 v1 rfl rfl)
  have k1 := h1
  have lt1 : ∀ x ∈ p1, x.block < W.heap.size := by obtain ⟨m, hm⟩ := k1; exact DataW.trod_lt m _ _ _ hm
  obtain ⟨l1, e1, c1, K1⟩ := R.spans_in h1
  subst e1
  refine (gutterlaw03_BandBoth.calls (4000) _ _ l0 _ _ l1 true W K0 c0 K1 c1 (R.gl1 hL) (BandBoth_true l0 l1)).mono fun e W' ⟨he, bel⟩ => ?_
  subst he
  exact ⟨_, rfl, _, _, _, [], _, [], hW', trodAll_mk1 (shut_bool Tryd.underlying4 _), (trodAll_cons_mk (Below.trod R.laidOut (by kernel_rfl) (of_decide_eq_true (by kernel_rfl)) k0 bel lt0) (trodAll_cons_mk (Below.trod R.laidOut (by kernel_rfl) (of_decide_eq_true (by kernel_rfl)) k1 bel lt1) trodAll_mk0)), rfl, bel.frame _, fun h => by cases h⟩
set_option maxRecDepth 100000
theorem named : Tryd.prog.funcNamed Rows.bandBothRow.func = some 10 := by kernel_rfl
theorem inst : Tryd.f10.isInstance Tryd.prog Rows.bandBothRow.origin Rows.bandBothRow.targs := of_decide_eq_true (by kernel_rfl)
theorem wrap : Tryd.f10.isWrapper Tryd.prog Rows.bandBothRow.wrapper Rows.bandBothRow.mainSum := by unfold Func.isWrapper; first | (rw [if_pos (by decide +kernel)]; kernel_rfl) | (rw [if_neg (by decide +kernel)]; exact ⟨rfl, rfl⟩)
theorem goes : false = Rows.bandBothRow.goesBy Tryd.pinned.checked.prog := by kernel_rfl
theorem byText : Rows.bandBothRow.wfByText (OpenSpec.ofChange Rows.bandBothSpec) = true := by kernel_rfl
theorem over : Rows.BandBothSaid :=
  OpenClaim.holds_of_wide 10 Tryd.f10 rfl rfl rfl rfl rfl rfl rfl ⟨rfl, rfl, rfl, rfl, rfl⟩ rfl rfl rfl rfl rfl named Tryd.func10 closed inst wrap
    (fun os started H enc _ => lifted os started H enc)
theorem noStand : ∀ (j : Nat) (t : TypeId), Tryd.f10.params[j]? = some t → Tryd.prog.wantsStandIn t = false := by
  intro j t ht
  rw [Tryd.params10] at ht
  have h3 : t = 22 := by
    match j, ht with
    | 0, ht => cases ht; simp
    | 1, ht => cases ht; simp
    | j + 2, ht => simp at ht
  rcases h3 with rfl
  · exact R.stand22
end Go.Proofs.YtomgpbhkoellpaaDoor.BandBothRow
namespace Go.Proofs.YtomgpbhkoellpaaDoor
open Go
/-- The tied card. -/
theorem bandBoth_card : Rows.BandBothCardSaid :=
  Claim7.holds_tied_plain_at .later [] [.sentinel] true (true, "ac9d298ba8180d8e28314710ac8d3f43303b32e2ef07f873131167b130a3c7d2") true
    BandBothRow.over (fun _ h => by cases h) BandBothRow.byText (fun _ h => by cases h) bandBoth_row_tie rfl ⟨rfl, rfl⟩ R.mainFact rfl
    (fun f fn hf hfn => by
      obtain rfl : f = 10 := (Option.some.inj (BandBothRow.named.symm.trans hf)).symm
      obtain rfl : fn = Tryd.f10 := (Option.some.inj (Tryd.func10.symm.trans hfn)).symm
      exact ⟨R.looksFact, BandBothRow.noStand⟩)
    BandBothRow.goes
#print axioms bandBoth_card
end Go.Proofs.YtomgpbhkoellpaaDoor
