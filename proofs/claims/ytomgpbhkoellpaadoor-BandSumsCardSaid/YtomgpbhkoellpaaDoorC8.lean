/- The law BandSums answers true, whatever comes in, and leaves what came in as it was: the row and the tied card. Conditions: none. -/
import Derived.Test.YtomgpbhkoellpaaDoorRows
import Derived.Test.YtomgpbhkoellpaaDoorTie
import Derived.Test.YtomgpbhkoellpaaDoorCards
import Derived.Test.YtomgpbhkoellpaaDoorRw
import Derived.Test.YtomgpbhkoellpaaDoorRd
import Derived.Test.YtomgpbhkoellpaaDoorLa
import Derived.Test.YtomgpbhkoellpaaDoorP8
import Derived.WalkKit
import Derived.ProofKit
import Derived.OpenShut
import Derived.ChangeOld
import Derived.Below
import Derived.SizedLaws
import Derived.JoinedOf
import Derived.ChangeVars
import Derived.SevenTiedAt
import Derived.Stop.Joined
set_option linter.unusedVariables false
set_option linter.unusedSimpArgs false
namespace Go.Proofs.YtomgpbhkoellpaaDoor.P
open Go.RowKit Go.Proofs.YtomgpbhkoellpaaDoorW.PrintWords Go.Proofs.YtomgpbhkoellpaaDoorW.PrintLast Go.Proofs.YtomgpbhkoellpaaDoorW.PrintMore

theorem sums_less {l : List S24} {x : S24} (hl : rightD l = true) (hx : rightD [x] = true) : ctB (hasB l) = ctB (hasB (lessB l x)) + ctB (hasB (bothB l [x])) :=
  ct_add (fun n => by
    rw [less_has hl hx, both_has hl hx, one_has]
    by_cases q : x.f0 ≤ n ∧ n < x.f1 <;> simp [q]) (fun n => by
    rw [less_has hl hx, both_has hl hx, one_has]
    exact fun e => e.1.2 e.2.2)
theorem sums_plus {l : List S24} {x : S24} (hl : rightD l = true) (hx : rightD [x] = true) : ctB (hasB (plusB l x)) = ctB (hasB l) + (x.f1 - x.f0) - ctB (hasB (bothB l [x])) := by
  have hs := (rightD_one x).1 hx
  unfold spanB at hs
  have h1 := ct_add (p := hasB (plusB l x)) (q := hasB l) (r := fun n => !hasB l n && (decide (x.f0 ≤ n) && decide (n < x.f1))) (fun n => by
    rw [plus_has hl hx]
    cases hasB l n <;> simp) (fun n => by cases hasB l n <;> simp)
  have h2 := ct_add (p := fun n => decide (x.f0 ≤ n) && decide (n < x.f1)) (q := fun n => !hasB l n && (decide (x.f0 ≤ n) && decide (n < x.f1))) (r := hasB (bothB l [x])) (fun n => by
    rw [both_has hl hx, one_has]
    cases hasB l n <;> simp) (fun n => by
    rw [both_has hl hx, one_has]
    cases hasB l n <;> simp)
  have h3 := ct_span x.f0 x.f1 (by omega) (by omega) hs.2.2
  omega
theorem sums_there {l : List S24} {x : S24} (hl : rightD l = true) (hx : rightD [x] = true) : bothB (plusB l x) [x] = [x] :=
  extD (both_right (plus_right hl hx) hx) hx fun n => by
    rw [both_has (plus_right hl hx) hx, plus_has hl hx, one_has]
    exact ⟨And.right, fun e => ⟨.inr e, e⟩⟩
theorem sums_gone {l : List S24} {x : S24} (hl : rightD l = true) (hx : rightD [x] = true) : bothB (lessB l x) [x] = [] :=
  extD (both_right (less_right hl hx) hx) rfl fun n => by
    rw [both_has (less_right hl hx) hx, less_has hl hx, one_has, hasB_nil]
    exact ⟨fun e => absurd e.2 e.1.2, fun e => by cases e⟩

theorem BandSums_true (l0 : List S24) (a1_0 a1_1 : Int) : gutterlaw03_BandSums.f 4000 l0 a1_0 a1_1 = some true := by
  unfold gutterlaw03_BandSums.f
  have hn := few3_len l0
  rw [shown3 (by omega), Option.bind_some, few3_f, Option.bind_some]
  generalize few3 l0 = l at hn
  obtain ⟨x, hx⟩ : ∃ x : S24, x = ⟨a1_0, a1_1⟩ := ⟨_, rfl⟩
  rw [← hx]
  obtain rfl : x.f0 = a1_0 := by rw [hx]
  obtain rfl : x.f1 = a1_1 := by rw [hx]
  clear hx
  by_cases h : (rightD l && rightD [x]) = true
  · obtain ⟨hl, hx⟩ := Bool.and_eq_true_iff.1 h
    have h1 := plusB_len l x
    have h2 := lessB_len l x
    have h3 := bothB_len l [x]
    rw [List.length_singleton, Nat.mul_one] at h3
    have hs := (rightD_one x).1 hx
    unfold spanB at hs
    have b1 := ct_bounds (hasB l)
    have b2 := ct_bounds (hasB (lessB l x))
    have b3 := ct_bounds (hasB (bothB l [x]))
    rw [plus_ok hl hx (by omega), Option.bind_some, less_ok hl hx (by omega), Option.bind_some, both_ok hl hx (by omega) (by simp), Option.bind_some, if_pos rfl]
    dsimp only
    rw [both_ok (plus_right hl hx) hx (by omega) (by simp), Option.bind_some, both_ok (less_right hl hx) hx (by omega) (by simp), Option.bind_some, sums_there hl hx, sums_gone hl hx, if_pos rfl]
    dsimp only
    rw [if_pos rfl, if_pos rfl, if_pos rfl, if_pos rfl, bsame_f [x] [x] (by simp) (by simp), Option.bind_some, if_pos (by simp), if_pos (by simp),
      total_ok hl (by omega), Option.bind_some, total_ok (less_right hl hx) (by omega), Option.bind_some, total_ok (both_right hl hx) (by omega), Option.bind_some, w64 (by omega), if_pos (sums_less hl hx), total_ok (plus_right hl hx) (by omega), Option.bind_some, Option.bind_some, Option.bind_some,
      w64 (x := ctB (hasB l) + x.f1) (by omega), w64 (x := ctB (hasB l) + x.f1 - x.f0) (by omega), w64 (by omega), if_pos (by rw [sums_plus hl hx]; omega),
      right_f _ (by omega) (by omega), Option.bind_some, if_pos (plus_right hl hx), right_f _ (by omega) (by omega), Option.bind_some, if_pos (less_right hl hx), right_f _ (by omega) (by omega), Option.bind_some, both_right hl hx]
  · have h' : (rightD l && rightD [x]) = false := by simpa using h
    rw [plus_no h' (by omega), Option.bind_some, less_no h' (by omega), Option.bind_some, both_no h' (by omega) (by simp), Option.bind_some, if_neg (by simp), if_pos rfl, if_pos rfl]
    rfl

end Go.Proofs.YtomgpbhkoellpaaDoor.P
namespace Go.Proofs.YtomgpbhkoellpaaDoor.BandSumsRow
open Go
set_option maxRecDepth 100000
theorem h10 : (Rows.bandSumsRow.inPlace == Tryd.prog.inPlace 8) = true := by kernel_rfl
theorem h11 : (Rows.bandSumsRow.unfollowed == Tryd.prog.unfollowed 8) = true := by kernel_rfl
theorem h12 : (Rows.bandSumsRow.recurses == Tryd.prog.recurses 8) = true := by kernel_rfl
theorem h13 : (Rows.bandSumsRow.named == Tryd.prog.varsNamed 8) = true := by kernel_rfl
theorem g1 : (Rows.bandSumsRow.plainKeys == Tryd.prog.plainKeys) = true := Rd.g1
theorem g4 : (Rows.bandSumsRow.lifted == Tryd.prog.liftsFinal) = true := Rd.g4
theorem g5 : (Tryd.prog.make == some Rows.bandSumsRow.make) = true := Rd.g5
theorem closed : joinedFacts Tryd.prog 8 Tryd.f8 Rows.bandSumsSpec Rows.bandSumsRow = true := by
  unfold joinedFacts
  rw [Rd.f2, Rd.f3, Rd.f7, Rd.f9, h10, h11, h12, h13, g1, Rd.g2, Rd.g3, g4, g5]
  kernel_rfl
end Go.Proofs.YtomgpbhkoellpaaDoor.BandSumsRow

namespace Go.Proofs.YtomgpbhkoellpaaDoor.BandSumsRow
open Go.ChangeShapes Go.WideShapes Go.ChangeAt Go.RowKit Go.Proofs.YtomgpbhkoellpaaDoor Go.Proofs.YtomgpbhkoellpaaDoor.P
set_option maxRecDepth 100000 in
theorem lifted (os : Os) (started : os.Started) (H : Type) (enc : TypeId × Value → H) :
    ReturnsInHanded {} Tryd.checked os 8 .any (fun w args => (Rows.bandSumsSpec.pre enc Tryd.prog Tryd.f8 [] false w args ∧ laidMetH Tryd.prog R.L1 w) ∧ sizedMet enc Tryd.prog Tryd.f8 (OpenSpec.ofChange Rows.bandSumsSpec) false w args)
      (Rows.bandSumsSpec.post enc Tryd.prog Tryd.f8 false true false false) := by
  refine returnsInHanded_of_change_and (C := Tryd.checked) (X := fun w _ => laidMetH Tryd.prog R.L1 w) (fun _ _ _ hh h => h.of_heap hh) R.own started (by kernel_rfl) Tryd.func8
    (ChangeSpec.witness_at (enc := enc) (C := Tryd.checked) (os := os) (X := fun w _ => laidMetH Tryd.prog R.L1 w) false (World.laidAll Tryd.prog os R.L1) #[.slice none 0 0, .agg #[.int .i64 0, .int .i64 0]] 8 rfl (by kernel_rfl) (by kernel_rfl) (by kernel_rfl) (by kernel_rfl) (by kernel_rfl) (R.met1 os _)) ?_
  intro W base args ds gs before hval0 hW _ _ hL _
  have hval : ∀ (j : Nat) t v, Tryd.f8.params[j]? = some t → args[j]? = some v → Value.okWide Tryd.prog W .any base t v := hval0
  have hW' := hW
  obtain ⟨p, q, hA0, hV, rfl, hfz, hnd⟩ := hW
  have hA : DataW.TrodAll enc Tryd.prog W 0 (fun _ => true) true Tryd.f8.params.toList args.toList ds p := hA0
  rw [Tryd.params8] at hA hval
  obtain ⟨v0, vs0, d0, ds0, p0, q0, hargs, rfl, rfl, h0, r0⟩ := trodAll_cons hA
  obtain ⟨v1, vs1, d1, ds1, p1, q1, rfl, rfl, rfl, h1, r1⟩ := trodAll_cons r0
  obtain ⟨rfl, rfl, rfl⟩ := trodAll_nil r1
  obtain rfl : args = #[v0, v1] := by cases args; simp_all
  obtain ⟨rfl, rfl⟩ := trodVars_none hV
  obtain ⟨A0, len0, cap0, rfl⟩ := okWide_slice Tryd.underlying22 (hval 0 22 v0 rfl rfl)
  have k0 := h0
  have lt0 : ∀ x ∈ p0, x.block < W.heap.size := by obtain ⟨m, hm⟩ := k0; exact DataW.trod_lt m _ _ _ hm
  obtain ⟨l0, e0, c0, K0⟩ := R.spans_in h0
  subst e0
  have k1 := h1
  have lt1 : ∀ x ∈ p1, x.block < W.heap.size := by obtain ⟨m, hm⟩ := k1; exact DataW.trod_lt m _ _ _ hm
  obtain ⟨a1_0, a1_1, rfl⟩ := R.span_in (hval 1 24 v1 rfl rfl) h1
  refine (gutterlaw03_BandSums.callsT (4000) _ _ l0 a1_0 a1_1 true W K0 c0 (R.gl1 hL) (BandSums_true l0 a1_0 a1_1) rfl).mono fun e W' ⟨he, bel⟩ => ?_
  subst he
  exact ⟨_, rfl, _, _, _, [], _, [], hW', trodAll_mk1 (shut_bool Tryd.underlying4 _), (trodAll_cons_mk (Below.trod R.laidOut (by kernel_rfl) (of_decide_eq_true (by kernel_rfl)) k0 bel lt0) (trodAll_cons_mk (Below.trod R.laidOut (by kernel_rfl) (of_decide_eq_true (by kernel_rfl)) k1 bel lt1) trodAll_mk0)), rfl, bel.frame _, fun h => by cases h⟩
set_option maxRecDepth 100000
theorem named : Tryd.prog.funcNamed Rows.bandSumsRow.func = some 8 := by kernel_rfl
theorem inst : Tryd.f8.isInstance Tryd.prog Rows.bandSumsRow.origin Rows.bandSumsRow.targs := of_decide_eq_true (by kernel_rfl)
theorem wrap : Tryd.f8.isWrapper Tryd.prog Rows.bandSumsRow.wrapper Rows.bandSumsRow.mainSum := by unfold Func.isWrapper; first | (rw [if_pos (by decide +kernel)]; kernel_rfl) | (rw [if_neg (by decide +kernel)]; exact ⟨rfl, rfl⟩)
theorem goes : false = Rows.bandSumsRow.goesBy Tryd.pinned.checked.prog := by kernel_rfl
theorem byText : Rows.bandSumsRow.wfByText (OpenSpec.ofChange Rows.bandSumsSpec) = true := by kernel_rfl
theorem over : Rows.BandSumsSaid :=
  OpenClaim.holds_of_wide 8 Tryd.f8 rfl rfl rfl rfl rfl rfl rfl ⟨rfl, rfl, rfl, rfl, rfl⟩ rfl rfl rfl rfl rfl named Tryd.func8 closed inst wrap
    (fun os started H enc _ => lifted os started H enc)
theorem noStand : ∀ (j : Nat) (t : TypeId), Tryd.f8.params[j]? = some t → Tryd.prog.wantsStandIn t = false := by
  intro j t ht
  rw [Tryd.params8] at ht
  have h3 : t = 22 ∨ t = 24 := by
    match j, ht with
    | 0, ht => cases ht; simp
    | 1, ht => cases ht; simp
    | j + 2, ht => simp at ht
  rcases h3 with rfl | rfl
  · exact R.stand22
  · exact R.stand24
end Go.Proofs.YtomgpbhkoellpaaDoor.BandSumsRow
namespace Go.Proofs.YtomgpbhkoellpaaDoor
open Go
/-- The tied card. -/
theorem bandSums_card : Rows.BandSumsCardSaid :=
  Claim7.holds_tied_plain_at .later [] [.sentinel] true (true, "ac9d298ba8180d8e28314710ac8d3f43303b32e2ef07f873131167b130a3c7d2") true
    BandSumsRow.over (fun _ h => by cases h) BandSumsRow.byText (fun _ h => by cases h) bandSums_row_tie rfl ⟨rfl, rfl⟩ R.mainFact rfl
    (fun f fn hf hfn => by
      obtain rfl : f = 8 := (Option.some.inj (BandSumsRow.named.symm.trans hf)).symm
      obtain rfl : fn = Tryd.f8 := (Option.some.inj (Tryd.func8.symm.trans hfn)).symm
      exact ⟨R.looksFact, BandSumsRow.noStand⟩)
    BandSumsRow.goes
#print axioms bandSums_card
end Go.Proofs.YtomgpbhkoellpaaDoor
