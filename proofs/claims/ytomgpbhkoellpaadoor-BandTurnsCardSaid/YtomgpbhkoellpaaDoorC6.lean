/- The law BandTurns answers true, whatever comes in, and leaves what came in as it was: the row and the tied card. Conditions: none. -/
import Derived.Test.YtomgpbhkoellpaaDoorRows
import Derived.Test.YtomgpbhkoellpaaDoorTie
import Derived.Test.YtomgpbhkoellpaaDoorCards
import Derived.Test.YtomgpbhkoellpaaDoorRw
import Derived.Test.YtomgpbhkoellpaaDoorRd
import Derived.Test.YtomgpbhkoellpaaDoorLa
import Derived.Test.YtomgpbhkoellpaaDoorP6
import Derived.WalkKit
import Derived.ProofKit
import Derived.OpenShut
import Derived.ChangeOld
import Derived.Below
import Derived.SizedLaws
import Derived.JoinedOf
import Derived.ChangeVars
import Derived.SevenTiedAt
import Derived.Stop.Joined
set_option linter.unusedVariables false
set_option linter.unusedSimpArgs false
namespace Go.Proofs.YtomgpbhkoellpaaDoor.P
open Go.RowKit Go.Proofs.YtomgpbhkoellpaaDoorW.PrintWords Go.Proofs.YtomgpbhkoellpaaDoorW.PrintLast Go.Proofs.YtomgpbhkoellpaaDoorW.PrintMore

theorem plus_turn {l : List S24} {x y : S24} (hl : rightD l = true) (hx : rightD [x] = true) (hy : rightD [y] = true) : plusB (plusB l x) y = plusB (plusB l y) x :=
  extD (plus_right (plus_right hl hx) hy) (plus_right (plus_right hl hy) hx) fun n => by
    rw [plus_has (plus_right hl hx) hy, plus_has hl hx, plus_has (plus_right hl hy) hx, plus_has hl hy, or_assoc, or_assoc, or_comm (a := x.f0 ≤ n ∧ n < x.f1)]
theorem less_turn {l : List S24} {x y : S24} (hl : rightD l = true) (hx : rightD [x] = true) (hy : rightD [y] = true) : lessB (lessB l x) y = lessB (lessB l y) x :=
  extD (less_right (less_right hl hx) hy) (less_right (less_right hl hy) hx) fun n => by
    rw [less_has (less_right hl hx) hy, less_has hl hx, less_has (less_right hl hy) hx, less_has hl hy, and_assoc, and_assoc, and_comm (a := ¬ (x.f0 ≤ n ∧ n < x.f1))]

theorem BandTurns_true (l0 : List S24) (a1_0 a1_1 a2_0 a2_1 : Int) : gutterlaw03_BandTurns.f 4000 l0 a1_0 a1_1 a2_0 a2_1 = some true := by
  unfold gutterlaw03_BandTurns.f
  have hn := few3_len l0
  rw [shown3 (by omega), Option.bind_some, few3_f, Option.bind_some]
  generalize few3 l0 = l at hn
  obtain ⟨x, hx⟩ : ∃ x : S24, x = ⟨a1_0, a1_1⟩ := ⟨_, rfl⟩
  obtain ⟨y, hy⟩ : ∃ y : S24, y = ⟨a2_0, a2_1⟩ := ⟨_, rfl⟩
  obtain rfl : x.f0 = a1_0 := by rw [hx]
  obtain rfl : x.f1 = a1_1 := by rw [hx]
  obtain rfl : y.f0 = a2_0 := by rw [hy]
  obtain rfl : y.f1 = a2_1 := by rw [hy]
  clear hx hy
  have h1 := plusB_len l x
  have h2 := plusB_len l y
  have h3 := plusB_len (plusB l x) y
  have h4 := plusB_len (plusB l y) x
  have h5 := lessB_len l x
  have h6 := lessB_len l y
  have h7 := lessB_len (lessB l x) y
  have h8 := lessB_len (lessB l y) x
  cases hl : rightD l with
  | false =>
    have q : ∀ z, (rightD l && rightD [z]) = false := fun z => by rw [hl]; rfl
    rw [plus_no (q x) (by omega), Option.bind_some, plus_f [] y (by simp), Option.bind_some, plus_no (q y) (by omega), Option.bind_some, plus_f [] x (by simp), Option.bind_some, less_no (q x) (by omega), Option.bind_some, less_f [] y (by simp), Option.bind_some, less_no (q y) (by omega), Option.bind_some, less_f [] x (by simp), Option.bind_some, if_neg (by simp)]
    simp only [gutterlaw03_BandTurns.j0]
    rfl
  | true =>
    have q : ∀ (m z : _), rightD [z] = false → (rightD m && rightD [z]) = false := fun m z h => by rw [h, Bool.and_false]
    cases hx : rightD [x] with
    | false =>
      cases hy : rightD [y] with
      | false =>
        rw [plus_no (q _ x hx) (by omega), Option.bind_some, plus_no (q _ y hy) (by simp), Option.bind_some, plus_no (q _ y hy) (by omega), Option.bind_some, plus_no (q _ x hx) (by simp), Option.bind_some, less_no (q _ x hx) (by omega), Option.bind_some, less_no (q _ y hy) (by simp), Option.bind_some, less_no (q _ y hy) (by omega), Option.bind_some, less_no (q _ x hx) (by simp), Option.bind_some, if_neg (by simp)]
        simp only [gutterlaw03_BandTurns.j0]
        rfl
      | true =>
        rw [plus_no (q _ x hx) (by omega), Option.bind_some, plus_ok rfl hy (by simp), Option.bind_some, plus_ok hl hy (by omega), Option.bind_some, plus_no (q _ x hx) (by show (plusB l y).length ≤ _; omega), Option.bind_some, less_no (q _ x hx) (by omega), Option.bind_some, less_ok rfl hy (by simp), Option.bind_some, less_ok hl hy (by omega), Option.bind_some, less_no (q _ x hx) (by show (lessB l y).length ≤ _; omega), Option.bind_some, if_neg (by simp)]
        simp only [gutterlaw03_BandTurns.j0]
        rfl
    | true =>
      cases hy : rightD [y] with
      | false =>
        rw [plus_ok hl hx (by omega), Option.bind_some, plus_no (q _ y hy) (by show (plusB l x).length ≤ _; omega), Option.bind_some, plus_no (q _ y hy) (by omega), Option.bind_some, plus_ok rfl hx (by simp), Option.bind_some, less_ok hl hx (by omega), Option.bind_some, less_no (q _ y hy) (by show (lessB l x).length ≤ _; omega), Option.bind_some, less_no (q _ y hy) (by omega), Option.bind_some, less_ok rfl hx (by simp), Option.bind_some, if_pos rfl]
        simp only [gutterlaw03_BandTurns.j0]
        rfl
      | true =>
        rw [plus_ok hl hx (by omega), Option.bind_some, plus_ok (plus_right hl hx) hy (by show (plusB l x).length ≤ _; omega), Option.bind_some, plus_ok hl hy (by omega), Option.bind_some, plus_ok (plus_right hl hy) hx (by show (plusB l y).length ≤ _; omega), Option.bind_some, less_ok hl hx (by omega), Option.bind_some, less_ok (less_right hl hx) hy (by show (lessB l x).length ≤ _; omega), Option.bind_some, less_ok hl hy (by omega), Option.bind_some, less_ok (less_right hl hy) hx (by show (lessB l y).length ≤ _; omega), Option.bind_some, if_pos rfl, show ((0 : Int) != 0) = false from rfl]
        simp only [gutterlaw03_BandTurns.j0]
        rw [if_neg (by simp), if_pos trivial, if_pos trivial, if_pos trivial, if_pos trivial, if_pos trivial, if_pos trivial, if_pos trivial, plus_turn hl hx hy, less_turn hl hx hy, bsame_f _ _ (by show (plusB (plusB l y) x).length ≤ _; omega) (by show (plusB (plusB l y) x).length < _; omega), Option.bind_some, if_pos (by simp), bsame_f _ _ (by show (lessB (lessB l y) x).length ≤ _; omega) (by show (lessB (lessB l y) x).length < _; omega)]
        simp

end Go.Proofs.YtomgpbhkoellpaaDoor.P
namespace Go.Proofs.YtomgpbhkoellpaaDoor.BandTurnsRow
open Go
set_option maxRecDepth 100000
theorem h10 : (Rows.bandTurnsRow.inPlace == Tryd.prog.inPlace 6) = true := by kernel_rfl
theorem h11 : (Rows.bandTurnsRow.unfollowed == Tryd.prog.unfollowed 6) = true := by kernel_rfl
theorem h12 : (Rows.bandTurnsRow.recurses == Tryd.prog.recurses 6) = true := by kernel_rfl
theorem h13 : (Rows.bandTurnsRow.named == Tryd.prog.varsNamed 6) = true := by kernel_rfl
theorem g1 : (Rows.bandTurnsRow.plainKeys == Tryd.prog.plainKeys) = true := Rd.g1
theorem g4 : (Rows.bandTurnsRow.lifted == Tryd.prog.liftsFinal) = true := Rd.g4
theorem g5 : (Tryd.prog.make == some Rows.bandTurnsRow.make) = true := Rd.g5
theorem closed : joinedFacts Tryd.prog 6 Tryd.f6 Rows.bandTurnsSpec Rows.bandTurnsRow = true := by
  unfold joinedFacts
  rw [Rd.f2, Rd.f3, Rd.f7, Rd.f9, h10, h11, h12, h13, g1, Rd.g2, Rd.g3, g4, g5]
  kernel_rfl
end Go.Proofs.YtomgpbhkoellpaaDoor.BandTurnsRow

namespace Go.Proofs.YtomgpbhkoellpaaDoor.BandTurnsRow
open Go.ChangeShapes Go.WideShapes Go.ChangeAt Go.RowKit Go.Proofs.YtomgpbhkoellpaaDoor Go.Proofs.YtomgpbhkoellpaaDoor.P
set_option maxRecDepth 100000 in
theorem lifted (os : Os) (started : os.Started) (H : Type) (enc : TypeId × Value → H) :
    ReturnsInHanded {} Tryd.checked os 6 .any (fun w args => (Rows.bandTurnsSpec.pre enc Tryd.prog Tryd.f6 [] false w args ∧ laidMetH Tryd.prog R.L1 w) ∧ sizedMet enc Tryd.prog Tryd.f6 (OpenSpec.ofChange Rows.bandTurnsSpec) false w args)
      (Rows.bandTurnsSpec.post enc Tryd.prog Tryd.f6 false true false false) := by
  refine returnsInHanded_of_change_and (C := Tryd.checked) (X := fun w _ => laidMetH Tryd.prog R.L1 w) (fun _ _ _ hh h => h.of_heap hh) R.own started (by kernel_rfl) Tryd.func6
    (ChangeSpec.witness_at (enc := enc) (C := Tryd.checked) (os := os) (X := fun w _ => laidMetH Tryd.prog R.L1 w) false (World.laidAll Tryd.prog os R.L1) #[.slice none 0 0, .agg #[.int .i64 0, .int .i64 0], .agg #[.int .i64 0, .int .i64 0]] 8 rfl (by kernel_rfl) (by kernel_rfl) (by kernel_rfl) (by kernel_rfl) (by kernel_rfl) (R.met1 os _)) ?_
  intro W base args ds gs before hval0 hW _ _ hL _
  have hval : ∀ (j : Nat) t v, Tryd.f6.params[j]? = some t → args[j]? = some v → Value.okWide Tryd.prog W .any base t v := hval0
  have hW' := hW
  obtain ⟨p, q, hA0, hV, rfl, hfz, hnd⟩ := hW
  have hA : DataW.TrodAll enc Tryd.prog W 0 (fun _ => true) true Tryd.f6.params.toList args.toList ds p := hA0
  rw [Tryd.params6] at hA hval
  obtain ⟨v0, vs0, d0, ds0, p0, q0, hargs, rfl, rfl, h0, r0⟩ := trodAll_cons hA
  obtain ⟨v1, vs1, d1, ds1, p1, q1, rfl, rfl, rfl, h1, r1⟩ := trodAll_cons r0
  obtain ⟨v2, vs2, d2, ds2, p2, q2, rfl, rfl, rfl, h2, r2⟩ := trodAll_cons r1
  obtain ⟨rfl, rfl, rfl⟩ := trodAll_nil r2
  obtain rfl : args = #[v0, v1, v2] := by cases args; simp_all
  obtain ⟨rfl, rfl⟩ := trodVars_none hV
  obtain ⟨A0, len0, cap0, rfl⟩ := okWide_slice Tryd.underlying22 (hval 0 22 v0 rfl rfl)
  have k0 := h0
  have lt0 : ∀ x ∈ p0, x.block < W.heap.size := by obtain ⟨m, hm⟩ := k0; exact DataW.trod_lt m _ _ _ hm
  obtain ⟨l0, e0, c0, K0⟩ := R.spans_in h0
  subst e0
  have k1 := h1
  have lt1 : ∀ x ∈ p1, x.block < W.heap.size := by obtain ⟨m, hm⟩ := k1; exact DataW.trod_lt m _ _ _ hm
  obtain ⟨a1_0, a1_1, rfl⟩ := R.span_in (hval 1 24 v1 rfl rfl) h1
  have k2 := h2
  have lt2 : ∀ x ∈ p2, x.block < W.heap.size := by obtain ⟨m, hm⟩ := k2; exact DataW.trod_lt m _ _ _ hm
  obtain ⟨a2_0, a2_1, rfl⟩ := R.span_in (hval 2 24 v2 rfl rfl) h2
  refine (gutterlaw03_BandTurns.calls (4000) _ _ l0 a1_0 a1_1 a2_0 a2_1 true W K0 c0 (R.gl1 hL) (BandTurns_true l0 a1_0 a1_1 a2_0 a2_1)).mono fun e W' ⟨he, bel⟩ => ?_
  subst he
  exact ⟨_, rfl, _, _, _, [], _, [], hW', trodAll_mk1 (shut_bool Tryd.underlying4 _), (trodAll_cons_mk (Below.trod R.laidOut (by kernel_rfl) (of_decide_eq_true (by kernel_rfl)) k0 bel lt0) (trodAll_cons_mk (Below.trod R.laidOut (by kernel_rfl) (of_decide_eq_true (by kernel_rfl)) k1 bel lt1) (trodAll_cons_mk (Below.trod R.laidOut (by kernel_rfl) (of_decide_eq_true (by kernel_rfl)) k2 bel lt2) trodAll_mk0))), rfl, bel.frame _, fun h => by cases h⟩
set_option maxRecDepth 100000
theorem named : Tryd.prog.funcNamed Rows.bandTurnsRow.func = some 6 := by kernel_rfl
theorem inst : Tryd.f6.isInstance Tryd.prog Rows.bandTurnsRow.origin Rows.bandTurnsRow.targs := of_decide_eq_true (by kernel_rfl)
theorem wrap : Tryd.f6.isWrapper Tryd.prog Rows.bandTurnsRow.wrapper Rows.bandTurnsRow.mainSum := by unfold Func.isWrapper; first | (rw [if_pos (by decide +kernel)]; kernel_rfl) | (rw [if_neg (by decide +kernel)]; exact ⟨rfl, rfl⟩)
theorem goes : false = Rows.bandTurnsRow.goesBy Tryd.pinned.checked.prog := by kernel_rfl
theorem byText : Rows.bandTurnsRow.wfByText (OpenSpec.ofChange Rows.bandTurnsSpec) = true := by kernel_rfl
theorem over : Rows.BandTurnsSaid :=
  OpenClaim.holds_of_wide 6 Tryd.f6 rfl rfl rfl rfl rfl rfl rfl ⟨rfl, rfl, rfl, rfl, rfl⟩ rfl rfl rfl rfl rfl named Tryd.func6 closed inst wrap
    (fun os started H enc _ => lifted os started H enc)
theorem noStand : ∀ (j : Nat) (t : TypeId), Tryd.f6.params[j]? = some t → Tryd.prog.wantsStandIn t = false := by
  intro j t ht
  rw [Tryd.params6] at ht
  have h3 : t = 22 ∨ t = 24 := by
    match j, ht with
    | 0, ht => cases ht; simp
    | 1, ht => cases ht; simp
    | 2, ht => cases ht; simp
    | j + 3, ht => simp at ht
  rcases h3 with rfl | rfl
  · exact R.stand22
  · exact R.stand24
end Go.Proofs.YtomgpbhkoellpaaDoor.BandTurnsRow
namespace Go.Proofs.YtomgpbhkoellpaaDoor
open Go
/-- The tied card. -/
theorem bandTurns_card : Rows.BandTurnsCardSaid :=
  Claim7.holds_tied_plain_at .later [] [.sentinel] true (true, "ac9d298ba8180d8e28314710ac8d3f43303b32e2ef07f873131167b130a3c7d2") true
    BandTurnsRow.over (fun _ h => by cases h) BandTurnsRow.byText (fun _ h => by cases h) bandTurns_row_tie rfl ⟨rfl, rfl⟩ R.mainFact rfl
    (fun f fn hf hfn => by
      obtain rfl : f = 6 := (Option.some.inj (BandTurnsRow.named.symm.trans hf)).symm
      obtain rfl : fn = Tryd.f6 := (Option.some.inj (Tryd.func6.symm.trans hfn)).symm
      exact ⟨R.looksFact, BandTurnsRow.noStand⟩)
    BandTurnsRow.goes
#print axioms bandTurns_card
end Go.Proofs.YtomgpbhkoellpaaDoor
