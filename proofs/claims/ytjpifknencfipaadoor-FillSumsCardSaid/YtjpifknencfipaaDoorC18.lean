/- The law FillSums answers true, whatever comes in, and leaves what came in as it was: the row and the tied card. Conditions: none. -/
import Derived.Test.YtjpifknencfipaaDoorRows
import Derived.Test.YtjpifknencfipaaDoorTie
import Derived.Test.YtjpifknencfipaaDoorCards
import Derived.Test.YtjpifknencfipaaDoorRw
import Derived.Test.YtjpifknencfipaaDoorRd
import Derived.Test.YtjpifknencfipaaDoorLw
import Derived.Test.YtjpifknencfipaaDoorP18
import Derived.WalkKit
import Derived.ProofKit
import Derived.OpenShut
import Derived.ChangeOld
import Derived.Below
import Derived.SizedLaws
import Derived.JoinedOf
import Derived.ChangeVars
import Derived.SevenTiedAt
import Derived.Stop.Joined
set_option linter.unusedVariables false
set_option linter.unusedSimpArgs false
namespace Go.Proofs.YtjpifknencfipaaDoor.P
open Go.RowKit Go.Proofs.YtjpifknencfipaaDoorW.PrintWords Go.Proofs.YtjpifknencfipaaDoorW.PrintLast Go.Proofs.YtjpifknencfipaaDoorW.PrintMore

theorem sums_l0 (l : List S32) (hr : rightA l = true) (h : Int) (d : Nat) : ∀ (k i : Nat), i ≤ (fillA l h).length → (fillA l h).length - i = d → 2 * d + l.length + 2 ≤ k →
    gutterlaw14_FillSums.l0 k l true (outA l h) (if i = 0 then 0 else hiA l 0 (begA l h i)) (i : Int) = some true := by
  have hln := len_of hr
  have hfl := fill_len l h
  induction d with
  | zero =>
    intro k i h0 hd hk
    obtain ⟨k, rfl⟩ : ∃ m, k = m + 1 := ⟨k - 1, by omega⟩
    obtain rfl : i = (fillA l h).length := by omega
    simp only [gutterlaw14_FillSums.l0]
    rw [if_neg (by rw [out_len]; omega)]
    simp only [if_true]
    rw [high_right l hr (by omega), Option.bind_some, beg_end]
    have e : (if (fillA l h).length = 0 then (0 : Int) else hiA l 0 l.length) = allA l := by
      unfold allA
      by_cases hz : l.length = 0
      · rw [if_pos (by omega), if_pos hz]
      · have : 0 < (fillA l h).length := (fill_lt l h 0).2 (by rw [beg_zero]; omega)
        rw [if_neg (by omega), if_neg hz]
    rw [e, if_pos rfl, out_len]
    simp [hfl]
  | succ d ih =>
    intro k i h0 hd hk
    obtain ⟨k, rfl⟩ : ∃ m, k = m + 1 + 1 := ⟨k - 2, by omega⟩
    have hlt : i < (fillA l h).length := by omega
    have hb := beg_lt l h i hlt
    have hbl := (fill_lt l h i).1 hlt
    simp only [gutterlaw14_FillSums.l0, gutterlaw14_FillSums.j1]
    rw [rd_out l h i hlt]
    simp only [out_len]
    rw [if_pos (by omega), if_pos (by omega), if_neg (by omega)]
    have hdec : decide ((begA l h i : Int) ≥ (l.length : Int)) = false := decide_eq_false (by omega)
    rw [hdec]
    rw [if_neg (by simp), if_pos (by omega), if_pos (by omega), wrap64_succ (n := (fillA l h).length) (by omega) (by omega) (by omega), show ((i : Int) + 1) = ((i + 1 : Nat) : Int) by push_cast; rfl, rd_32]
    have hi := ih k (i + 1) (by omega) (by omega) (by omega)
    rw [if_neg (by omega)] at hi
    have r2 := hi_range hr (begA l h i) (begA l h (i + 1)) hb.1 hb.2
    have r3 := hi_range hr 0 (begA l h (i + 1)) (by omega) hb.2
    have hh := hh_of hr (begA l h i) hbl
    have e1 : (atA l (begA l h i)).f3 = spA l (begA l h i) := rfl
    by_cases hz : i = 0
    · subst hz
      rw [beg_zero] at *
      rw [if_neg (by omega), if_pos rfl, w64 (by omega), Int.zero_add]
      exact hi
    · have hg := beg_ge l h i (by omega)
      have r1 := hi_range hr 0 (begA l h i) (by omega) (by omega)
      rw [if_pos (by omega), if_neg hz, if_pos (by omega), if_pos (by omega), e1, w64 (x := hiA l 0 (begA l h i) + hiA l (begA l h i) (begA l h (i + 1))) (by omega), w64 (by omega)]
      have : hiA l 0 (begA l h i) + hiA l (begA l h i) (begA l h (i + 1)) + spA l (begA l h i) = hiA l 0 (begA l h (i + 1)) := by unfold hiA; omega
      rw [this]
      exact hi

theorem FillSums_true (l0 : List S32) (a1 : Int) : gutterlaw14_FillSums.f 1000 l0 a1 = some true := by
  unfold gutterlaw14_FillSums.f
  have hf := few_len l0
  rw [shown_f (by omega), Option.bind_some, few_f, Option.bind_some]
  unfold fill_Fill.f
  by_cases hfi : fineA (fewA l0) a1 = true
  · rw [if_pos hfi, Option.bind_some, if_pos rfl]
    have hr : rightA (fewA l0) = true := by
      unfold fineA at hfi
      simp only [Bool.and_eq_true] at hfi
      exact hfi.1.1
    have := fill_len (fewA l0) a1
    exact sums_l0 (fewA l0) hr a1 _ 1000 0 (by omega) rfl (by omega)
  · rw [if_neg hfi, Option.bind_some, if_neg (by simp)]

end Go.Proofs.YtjpifknencfipaaDoor.P
namespace Go.Proofs.YtjpifknencfipaaDoor.FillSumsRow
open Go
set_option maxRecDepth 100000
theorem h10 : (Rows.fillSumsRow.inPlace == Tryd.prog.inPlace 18) = true := by kernel_rfl
theorem h11 : (Rows.fillSumsRow.unfollowed == Tryd.prog.unfollowed 18) = true := by kernel_rfl
theorem h12 : (Rows.fillSumsRow.recurses == Tryd.prog.recurses 18) = true := by kernel_rfl
theorem h13 : (Rows.fillSumsRow.named == Tryd.prog.varsNamed 18) = true := by kernel_rfl
theorem g1 : (Rows.fillSumsRow.plainKeys == Tryd.prog.plainKeys) = true := Rd.g1
theorem g4 : (Rows.fillSumsRow.lifted == Tryd.prog.liftsFinal) = true := Rd.g4
theorem g5 : (Tryd.prog.make == some Rows.fillSumsRow.make) = true := Rd.g5
theorem closed : joinedFacts Tryd.prog 18 Tryd.f18 Rows.fillSumsSpec Rows.fillSumsRow = true := by
  unfold joinedFacts
  rw [Rd.f2, Rd.f3, Rd.f7, Rd.f9, h10, h11, h12, h13, g1, Rd.g2, Rd.g3, g4, g5]
  kernel_rfl
end Go.Proofs.YtjpifknencfipaaDoor.FillSumsRow

namespace Go.Proofs.YtjpifknencfipaaDoor.FillSumsRow
open Go.ChangeShapes Go.WideShapes Go.ChangeAt Go.RowKit Go.Proofs.YtjpifknencfipaaDoor Go.Proofs.YtjpifknencfipaaDoor.P
set_option maxRecDepth 100000 in
theorem lifted (os : Os) (started : os.Started) (H : Type) (enc : TypeId × Value → H) :
    ReturnsInHanded {} Tryd.checked os 18 .any (fun w args => (Rows.fillSumsSpec.pre enc Tryd.prog Tryd.f18 [] false w args ∧ laidMetH Tryd.prog R.L1 w) ∧ sizedMet enc Tryd.prog Tryd.f18 (OpenSpec.ofChange Rows.fillSumsSpec) false w args)
      (Rows.fillSumsSpec.post enc Tryd.prog Tryd.f18 false true false false) := by
  refine returnsInHanded_of_change_and (C := Tryd.checked) (X := fun w _ => laidMetH Tryd.prog R.L1 w) (fun _ _ _ hh h => h.of_heap hh) R.own started (by kernel_rfl) Tryd.func18
    (ChangeSpec.witness_at (enc := enc) (C := Tryd.checked) (os := os) (X := fun w _ => laidMetH Tryd.prog R.L1 w) false (World.laidAll Tryd.prog os R.L1) #[.slice none 0 0, .int .i64 0] 8 rfl (by kernel_rfl) (by kernel_rfl) (by kernel_rfl) (by kernel_rfl) (by kernel_rfl) (R.met1 os _)) ?_
  intro W base args ds gs before hval0 hW _ _ hL _
  have hval : ∀ (j : Nat) t v, Tryd.f18.params[j]? = some t → args[j]? = some v → Value.okWide Tryd.prog W .any base t v := hval0
  have hW' := hW
  obtain ⟨p, q, hA0, hV, rfl, hfz, hnd⟩ := hW
  have hA : DataW.TrodAll enc Tryd.prog W 0 (fun _ => true) true Tryd.f18.params.toList args.toList ds p := hA0
  rw [Tryd.params18] at hA hval
  obtain ⟨v0, vs0, d0, ds0, p0, q0, hargs, rfl, rfl, h0, r0⟩ := trodAll_cons hA
  obtain ⟨v1, vs1, d1, ds1, p1, q1, rfl, rfl, rfl, h1, r1⟩ := trodAll_cons r0
  obtain ⟨rfl, rfl, rfl⟩ := trodAll_nil r1
  obtain rfl : args = #[v0, v1] := by cases args; simp_all
  obtain ⟨rfl, rfl⟩ := trodVars_none hV
  obtain ⟨A0, len0, cap0, rfl⟩ := okWide_slice Tryd.underlying22 (hval 0 22 v0 rfl rfl)
  have k0 := h0
  have lt0 : ∀ x ∈ p0, x.block < W.heap.size := by obtain ⟨m, hm⟩ := k0; exact DataW.trod_lt m _ _ _ hm
  obtain ⟨l0, e0, c0, K0⟩ := R.atoms_in h0
  subst e0
  obtain ⟨a1, rfl, rfl, rfl, w1⟩ := open_int Tryd.underlying2 (hval 1 2 v1 rfl rfl) h1
  refine (gutterlaw14_FillSums.calls (1000) _ _ l0 a1 true W K0 c0 (R.gl1 hL) (FillSums_true l0 a1)).mono fun e W' ⟨he, bel⟩ => ?_
  subst he
  exact ⟨_, rfl, _, _, _, [], _, [], hW', trodAll_mk1 (shut_bool Tryd.underlying4 _), (trodAll_cons_mk (Below.trod R.laidOut (by kernel_rfl) (of_decide_eq_true (by kernel_rfl)) k0 bel lt0) (trodAll_cons_mk (shut_int Tryd.underlying2 w1) trodAll_mk0)), rfl, bel.frame _, fun h => by cases h⟩
set_option maxRecDepth 100000
theorem named : Tryd.prog.funcNamed Rows.fillSumsRow.func = some 18 := by kernel_rfl
theorem inst : Tryd.f18.isInstance Tryd.prog Rows.fillSumsRow.origin Rows.fillSumsRow.targs := of_decide_eq_true (by kernel_rfl)
theorem wrap : Tryd.f18.isWrapper Tryd.prog Rows.fillSumsRow.wrapper Rows.fillSumsRow.mainSum := by unfold Func.isWrapper; first | (rw [if_pos (by decide +kernel)]; kernel_rfl) | (rw [if_neg (by decide +kernel)]; exact ⟨rfl, rfl⟩)
theorem goes : false = Rows.fillSumsRow.goesBy Tryd.pinned.checked.prog := by kernel_rfl
theorem byText : Rows.fillSumsRow.wfByText (OpenSpec.ofChange Rows.fillSumsSpec) = true := by kernel_rfl
theorem over : Rows.FillSumsSaid :=
  OpenClaim.holds_of_wide 18 Tryd.f18 rfl rfl rfl rfl rfl rfl rfl ⟨rfl, rfl, rfl, rfl, rfl⟩ rfl rfl rfl rfl rfl named Tryd.func18 closed inst wrap
    (fun os started H enc _ => lifted os started H enc)
theorem noStand : ∀ (j : Nat) (t : TypeId), Tryd.f18.params[j]? = some t → Tryd.prog.wantsStandIn t = false := by
  intro j t ht
  rw [Tryd.params18] at ht
  have h3 : t = 2 ∨ t = 22 := by
    match j, ht with
    | 0, ht => cases ht; simp
    | 1, ht => cases ht; simp
    | j + 2, ht => simp at ht
  rcases h3 with rfl | rfl
  · exact R.stand2
  · exact R.stand22
end Go.Proofs.YtjpifknencfipaaDoor.FillSumsRow
namespace Go.Proofs.YtjpifknencfipaaDoor
open Go
/-- The tied card. -/
theorem fillSums_card : Rows.FillSumsCardSaid :=
  Claim7.holds_tied_plain_at .later [] [.sentinel] true (true, "b9d29a5a8ac8ffd65bd7abf0387edf791e422c0f8ec1e9ac251d4174caa9c425") true
    FillSumsRow.over (fun _ h => by cases h) FillSumsRow.byText (fun _ h => by cases h) fillSums_row_tie rfl ⟨rfl, rfl⟩ R.mainFact rfl
    (fun f fn hf hfn => by
      obtain rfl : f = 18 := (Option.some.inj (FillSumsRow.named.symm.trans hf)).symm
      obtain rfl : fn = Tryd.f18 := (Option.some.inj (Tryd.func18.symm.trans hfn)).symm
      exact ⟨R.looksFact, FillSumsRow.noStand⟩)
    FillSumsRow.goes
#print axioms fillSums_card
end Go.Proofs.YtjpifknencfipaaDoor
