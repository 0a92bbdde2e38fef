/- The law BandMakes answers true, whatever comes in, and leaves what came in as it was: the row and the tied card. Conditions: none. -/
import Derived.Test.YtomgpbhkoellpaaDoorRows
import Derived.Test.YtomgpbhkoellpaaDoorTie
import Derived.Test.YtomgpbhkoellpaaDoorCards
import Derived.Test.YtomgpbhkoellpaaDoorRw
import Derived.Test.YtomgpbhkoellpaaDoorRd
import Derived.Test.YtomgpbhkoellpaaDoorLa
import Derived.Test.YtomgpbhkoellpaaDoorLo
import Derived.Test.YtomgpbhkoellpaaDoorP3
import Derived.WalkKit
import Derived.ProofKit
import Derived.OpenShut
import Derived.ChangeOld
import Derived.Below
import Derived.SizedLaws
import Derived.JoinedOf
import Derived.ChangeVars
import Derived.SevenTiedAt
import Derived.Stop.Joined
set_option linter.unusedVariables false
set_option linter.unusedSimpArgs false
namespace Go.Proofs.YtomgpbhkoellpaaDoor.P
open Go.RowKit Go.Proofs.YtomgpbhkoellpaaDoorW.PrintWords Go.Proofs.YtomgpbhkoellpaaDoorW.PrintLast Go.Proofs.YtomgpbhkoellpaaDoorW.PrintMore

theorem same_self {l : List S24} {k : Nat} (hn : l.length ≤ 2000) (hk : 2000 < k) : gutterref03_Same.f k l l = some true := by
  rw [rsame_f l l (by omega) (by omega)]
  simp
theorem BandMakes_true (l0 l1 : List S24) (a2_0 a2_1 : Int) : gutterlaw03_BandMakes.f 4000 l0 l1 a2_0 a2_1 = some true := by
  unfold gutterlaw03_BandMakes.f
  have hn := few3_len l0
  have hn' := few3_len l1
  rw [shown3 (by omega), Option.bind_some, few3_f, Option.bind_some, few3_f, Option.bind_some]
  generalize few3 l0 = l at hn
  generalize few3 l1 = m at hn'
  obtain ⟨x, hx⟩ : ∃ x : S24, x = ⟨a2_0, a2_1⟩ := ⟨_, rfl⟩
  obtain rfl : x.f0 = a2_0 := by rw [hx]
  obtain rfl : x.f1 = a2_1 := by rw [hx]
  clear hx
  have hc : (bothB l m).length ≤ 900 := Nat.le_trans (bothB_len l m) (Nat.mul_le_mul hn hn')
  have h1 := plusB_len l x
  have h2 := lessB_len l x
  have e : ∀ (b : Bool) (r : List S24), r.length ≤ 2000 → ((if b = true then (r, (0 : Int)) else ([], 30)).1).length ≤ 2000 := fun b r hr => by cases b <;> simp <;> omega
  rw [plus_f l x (by omega), Option.bind_some, rplus_f l x (by omega) (by omega), Option.bind_some, less_f l x (by omega), Option.bind_some, rless_f l x (by omega) (by omega), Option.bind_some, both_f l m (by omega) (by omega), Option.bind_some, rboth_f l m (by omega) (by omega) (by omega), Option.bind_some, if_pos rfl,
    same_self (e _ _ (by omega)) (by omega), Option.bind_some, if_pos rfl, if_pos rfl, same_self (e _ _ (by omega)) (by omega), Option.bind_some, if_pos rfl, if_pos rfl, same_self (e _ _ (by omega)) (by omega), Option.bind_some, if_pos rfl]
  simp

end Go.Proofs.YtomgpbhkoellpaaDoor.P
namespace Go.Proofs.YtomgpbhkoellpaaDoor.BandMakesRow
open Go
set_option maxRecDepth 100000
theorem h10 : (Rows.bandMakesRow.inPlace == Tryd.prog.inPlace 3) = true := by kernel_rfl
theorem h11 : (Rows.bandMakesRow.unfollowed == Tryd.prog.unfollowed 3) = true := by kernel_rfl
theorem h12 : (Rows.bandMakesRow.recurses == Tryd.prog.recurses 3) = true := by kernel_rfl
theorem h13 : (Rows.bandMakesRow.named == Tryd.prog.varsNamed 3) = true := by kernel_rfl
theorem g1 : (Rows.bandMakesRow.plainKeys == Tryd.prog.plainKeys) = true := Rd.g1
theorem g4 : (Rows.bandMakesRow.lifted == Tryd.prog.liftsFinal) = true := Rd.g4
theorem g5 : (Tryd.prog.make == some Rows.bandMakesRow.make) = true := Rd.g5
theorem closed : joinedFacts Tryd.prog 3 Tryd.f3 Rows.bandMakesSpec Rows.bandMakesRow = true := by
  unfold joinedFacts
  rw [Rd.f2, Rd.f3, Rd.f7, Rd.f9, h10, h11, h12, h13, g1, Rd.g2, Rd.g3, g4, g5]
  kernel_rfl
end Go.Proofs.YtomgpbhkoellpaaDoor.BandMakesRow

namespace Go.Proofs.YtomgpbhkoellpaaDoor.BandMakesRow
open Go.ChangeShapes Go.WideShapes Go.ChangeAt Go.RowKit Go.Proofs.YtomgpbhkoellpaaDoor Go.Proofs.YtomgpbhkoellpaaDoor.P
set_option maxRecDepth 100000 in
theorem lifted (os : Os) (started : os.Started) (H : Type) (enc : TypeId × Value → H) :
    ReturnsInHanded {} Tryd.checked os 3 .any (fun w args => (Rows.bandMakesSpec.pre enc Tryd.prog Tryd.f3 [] false w args ∧ laidMetH Tryd.prog R.L1 w) ∧ sizedMet enc Tryd.prog Tryd.f3 (OpenSpec.ofChange Rows.bandMakesSpec) false w args)
      (Rows.bandMakesSpec.post enc Tryd.prog Tryd.f3 false true false false) := by
  refine returnsInHanded_of_change_and (C := Tryd.checked) (X := fun w _ => laidMetH Tryd.prog R.L1 w) (fun _ _ _ hh h => h.of_heap hh) R.own started (by kernel_rfl) Tryd.func3
    (ChangeSpec.witness_at (enc := enc) (C := Tryd.checked) (os := os) (X := fun w _ => laidMetH Tryd.prog R.L1 w) false (World.laidAll Tryd.prog os R.L1) #[.slice none 0 0, .slice none 0 0, .agg #[.int .i64 0, .int .i64 0]] 8 rfl (by kernel_rfl) (by kernel_rfl) (by kernel_rfl) (by kernel_rfl) (by kernel_rfl) (R.met1 os _)) ?_
  intro W base args ds gs before hval0 hW _ _ hL _
  have hval : ∀ (j : Nat) t v, Tryd.f3.params[j]? = some t → args[j]? = some v → Value.okWide Tryd.prog W .any base t v := hval0
  have hW' := hW
  obtain ⟨p, q, hA0, hV, rfl, hfz, hnd⟩ := hW
  have hA : DataW.TrodAll enc Tryd.prog W 0 (fun _ => true) true Tryd.f3.params.toList args.toList ds p := hA0
  rw [Tryd.params3] at hA hval
  obtain ⟨v0, vs0, d0, ds0, p0, q0, hargs, rfl, rfl, h0, r0⟩ := trodAll_cons hA
  obtain ⟨v1, vs1, d1, ds1, p1, q1, rfl, rfl, rfl, h1, r1⟩ := trodAll_cons r0
  obtain ⟨v2, vs2, d2, ds2, p2, q2, rfl, rfl, rfl, h2, r2⟩ := trodAll_cons r1
  obtain ⟨rfl, rfl, rfl⟩ := trodAll_nil r2
  obtain rfl : args = #[v0, v1, v2] := by cases args; simp_all
  obtain ⟨rfl, rfl⟩ := trodVars_none hV
  obtain ⟨A0, len0, cap0, rfl⟩ := okWide_slice Tryd.underlying22 (hval 0 22 v0 rfl rfl)
  have k0 := h0
  have lt0 : ∀ x ∈ p0, x.block < W.heap.size := by obtain ⟨m, hm⟩ := k0; exact DataW.trod_lt m _ _ _ hm
  obtain ⟨l0, e0, c0, K0⟩ := R.spans_in h0
  subst e0
  obtain ⟨A1, len1, cap1, rfl⟩ := okWide_slice Tryd.underlying22 (hval 1 22 v1 rfl rfl)
  have k1 := h1
  have lt1 : ∀ x ∈ p1, x.block < W.heap.size := by obtain ⟨m, hm⟩ := k1; exact DataW.trod_lt m _ _ _ hm
  obtain ⟨l1, e1, c1, K1⟩ := R.spans_in h1
  subst e1
  have k2 := h2
  have lt2 : ∀ x ∈ p2, x.block < W.heap.size := by obtain ⟨m, hm⟩ := k2; exact DataW.trod_lt m _ _ _ hm
  obtain ⟨a2_0, a2_1, rfl⟩ := R.span_in (hval 2 24 v2 rfl rfl) h2
  refine (gutterlaw03_BandMakes.callsT (4000) _ _ l0 _ _ l1 a2_0 a2_1 true W K0 c0 K1 c1 (R.gl1 hL) (BandMakes_true l0 l1 a2_0 a2_1) rfl).mono fun e W' ⟨he, bel⟩ => ?_
  subst he
  exact ⟨_, rfl, _, _, _, [], _, [], hW', trodAll_mk1 (shut_bool Tryd.underlying4 _), (trodAll_cons_mk (Below.trod R.laidOut (by kernel_rfl) (of_decide_eq_true (by kernel_rfl)) k0 bel lt0) (trodAll_cons_mk (Below.trod R.laidOut (by kernel_rfl) (of_decide_eq_true (by kernel_rfl)) k1 bel lt1) (trodAll_cons_mk (Below.trod R.laidOut (by kernel_rfl) (of_decide_eq_true (by kernel_rfl)) k2 bel lt2) trodAll_mk0))), rfl, bel.frame _, fun h => by cases h⟩
set_option maxRecDepth 100000
theorem named : Tryd.prog.funcNamed Rows.bandMakesRow.func = some 3 := by kernel_rfl
theorem inst : Tryd.f3.isInstance Tryd.prog Rows.bandMakesRow.origin Rows.bandMakesRow.targs := of_decide_eq_true (by kernel_rfl)
theorem wrap : Tryd.f3.isWrapper Tryd.prog Rows.bandMakesRow.wrapper Rows.bandMakesRow.mainSum := by unfold Func.isWrapper; first | (rw [if_pos (by decide +kernel)]; kernel_rfl) | (rw [if_neg (by decide +kernel)]; exact ⟨rfl, rfl⟩)
theorem goes : false = Rows.bandMakesRow.goesBy Tryd.pinned.checked.prog := by kernel_rfl
theorem byText : Rows.bandMakesRow.wfByText (OpenSpec.ofChange Rows.bandMakesSpec) = true := by kernel_rfl
theorem over : Rows.BandMakesSaid :=
  OpenClaim.holds_of_wide 3 Tryd.f3 rfl rfl rfl rfl rfl rfl rfl ⟨rfl, rfl, rfl, rfl, rfl⟩ rfl rfl rfl rfl rfl named Tryd.func3 closed inst wrap
    (fun os started H enc _ => lifted os started H enc)
theorem noStand : ∀ (j : Nat) (t : TypeId), Tryd.f3.params[j]? = some t → Tryd.prog.wantsStandIn t = false := by
  intro j t ht
  rw [Tryd.params3] at ht
  have h3 : t = 22 ∨ t = 24 := by
    match j, ht with
    | 0, ht => cases ht; simp
    | 1, ht => cases ht; simp
    | 2, ht => cases ht; simp
    | j + 3, ht => simp at ht
  rcases h3 with rfl | rfl
  · exact R.stand22
  · exact R.stand24
end Go.Proofs.YtomgpbhkoellpaaDoor.BandMakesRow
namespace Go.Proofs.YtomgpbhkoellpaaDoor
open Go
/-- The tied card. -/
theorem bandMakes_card : Rows.BandMakesCardSaid :=
  Claim7.holds_tied_plain_at .later [] [.sentinel] true (true, "ac9d298ba8180d8e28314710ac8d3f43303b32e2ef07f873131167b130a3c7d2") true
    BandMakesRow.over (fun _ h => by cases h) BandMakesRow.byText (fun _ h => by cases h) bandMakes_row_tie rfl ⟨rfl, rfl⟩ R.mainFact rfl
    (fun f fn hf hfn => by
      obtain rfl : f = 3 := (Option.some.inj (BandMakesRow.named.symm.trans hf)).symm
      obtain rfl : fn = Tryd.f3 := (Option.some.inj (Tryd.func3.symm.trans hfn)).symm
      exact ⟨R.looksFact, BandMakesRow.noStand⟩)
    BandMakesRow.goes
#print axioms bandMakes_card
end Go.Proofs.YtomgpbhkoellpaaDoor
