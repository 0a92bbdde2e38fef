/- The law FillOne answers true, whatever comes in, and leaves what came in as it was: the row and the tied card. Conditions: none. -/
import Derived.Test.YtjpifknencfipaaDoorRows
import Derived.Test.YtjpifknencfipaaDoorTie
import Derived.Test.YtjpifknencfipaaDoorCards
import Derived.Test.YtjpifknencfipaaDoorRw
import Derived.Test.YtjpifknencfipaaDoorRd
import Derived.Test.YtjpifknencfipaaDoorLs
import Derived.Test.YtjpifknencfipaaDoorP20
import Derived.WalkKit
import Derived.ProofKit
import Derived.OpenShut
import Derived.ChangeOld
import Derived.Below
import Derived.SizedLaws
import Derived.JoinedOf
import Derived.ChangeVars
import Derived.SevenTiedAt
import Derived.Stop.Joined
set_option linter.unusedVariables false
set_option linter.unusedSimpArgs false
namespace Go.Proofs.YtjpifknencfipaaDoor.P
open Go.RowKit Go.Proofs.YtjpifknencfipaaDoorW.PrintWords Go.Proofs.YtjpifknencfipaaDoorW.PrintLast Go.Proofs.YtjpifknencfipaaDoorW.PrintMore

theorem one_l0 (l : List S32) (hn : l.length ≤ 150) (x4 : Int) (d : Nat) : ∀ (k i m : Nat), l.length - i = d → d < k → m ≤ i →
    gutterlaw14_FillOne.l0 k l true x4 0 (m : Int) (i : Int) = some (x4 == ((m + mustA l i d : Nat) : Int)) := by
  induction d with
  | zero =>
    intro k i m hd hk hm
    obtain ⟨k, rfl⟩ : ∃ m, k = m + 1 := ⟨k - 1, by omega⟩
    simp only [gutterlaw14_FillOne.l0]
    rw [if_neg (by omega), if_pos trivial, if_pos trivial]
    simp [mustA]
  | succ d ih =>
    intro k i m hd hk hm
    obtain ⟨k, rfl⟩ : ∃ m, k = m + 1 := ⟨k - 1, by omega⟩
    simp only [gutterlaw14_FillOne.l0]
    rw [if_pos (by omega), if_pos (by omega), rd_32, w64 (x := (i : Int) + 1) (by omega), w64 (x := (m : Int) + 1) (by omega), show ((i : Int) + 1) = ((i + 1 : Nat) : Int) by push_cast; rfl, show ((m : Int) + 1) = ((m + 1 : Nat) : Int) by push_cast; rfl]
    have e : mustA l i (d + 1) = (if bkA l i = 2 then 1 else 0) + mustA l (i + 1) d := rfl
    rw [e]
    by_cases hb : (atA l i).f4 = 2
    · rw [if_pos hb, if_pos (show bkA l i = 2 from hb), ih k (i + 1) (m + 1) (by omega) (by omega) (by omega), show m + 1 + mustA l (i + 1) d = m + (1 + mustA l (i + 1) d) by omega]
    · rw [if_neg hb, if_neg (show ¬ bkA l i = 2 from hb), ih k (i + 1) m (by omega) (by omega) (by omega), Nat.zero_add]

theorem FillOne_true (l0 : List S32) : gutterlaw14_FillOne.f 1000 l0 = some true := by
  unfold gutterlaw14_FillOne.f
  have hf := few_len l0
  rw [shown_f (by omega), Option.bind_some, few_f, Option.bind_some]
  generalize fewA l0 = l at hf
  rw [ref_right l (by omega) (by omega), Option.bind_some]
  by_cases hr : rightA l = true
  · rw [if_pos hr, high_right l hr (by omega), Option.bind_some]
    have hal := all_range l hr
    have h1 : fineA l (allA l) = true := by
      unfold fineA
      rw [hr]
      simp only [Bool.true_and, Bool.and_eq_true, decide_eq_true_eq]
      omega
    unfold fill_Cols.f fill_Fill.f
    rw [if_pos h1, Option.bind_some, Option.bind_some]
    simp only [List.length_map]
    have hc := fill_count l hr (allA l) hal.1 (Int.le_refl _)
    have hmn : mn 1 (l.length : Int) = ((min 1 l.length : Nat) : Int) := by
      unfold mn
      omega
    rw [hmn, show (1 : Int) = ((1 : Nat) : Int) from rfl, one_l0 l hf _ (l.length - 1) 1000 1 (min 1 l.length) rfl (by omega) (by omega), hc]
    by_cases hz : 0 < l.length
    · rw [if_pos hz, show min 1 l.length = 1 by omega]
      simp
    · rw [if_neg hz, show min 1 l.length = 0 by omega, show l.length - 1 = 0 by omega]
      rfl
  · rw [if_neg hr]

end Go.Proofs.YtjpifknencfipaaDoor.P
namespace Go.Proofs.YtjpifknencfipaaDoor.FillOneRow
open Go
set_option maxRecDepth 100000
theorem h10 : (Rows.fillOneRow.inPlace == Tryd.prog.inPlace 20) = true := by kernel_rfl
theorem h11 : (Rows.fillOneRow.unfollowed == Tryd.prog.unfollowed 20) = true := by kernel_rfl
theorem h12 : (Rows.fillOneRow.recurses == Tryd.prog.recurses 20) = true := by kernel_rfl
theorem h13 : (Rows.fillOneRow.named == Tryd.prog.varsNamed 20) = true := by kernel_rfl
theorem g1 : (Rows.fillOneRow.plainKeys == Tryd.prog.plainKeys) = true := Rd.g1
theorem g4 : (Rows.fillOneRow.lifted == Tryd.prog.liftsFinal) = true := Rd.g4
theorem g5 : (Tryd.prog.make == some Rows.fillOneRow.make) = true := Rd.g5
theorem closed : joinedFacts Tryd.prog 20 Tryd.f20 Rows.fillOneSpec Rows.fillOneRow = true := by
  unfold joinedFacts
  rw [Rd.f2, Rd.f3, Rd.f7, Rd.f9, h10, h11, h12, h13, g1, Rd.g2, Rd.g3, g4, g5]
  kernel_rfl
end Go.Proofs.YtjpifknencfipaaDoor.FillOneRow

namespace Go.Proofs.YtjpifknencfipaaDoor.FillOneRow
open Go.ChangeShapes Go.WideShapes Go.ChangeAt Go.RowKit Go.Proofs.YtjpifknencfipaaDoor Go.Proofs.YtjpifknencfipaaDoor.P
set_option maxRecDepth 100000 in
theorem lifted (os : Os) (started : os.Started) (H : Type) (enc : TypeId × Value → H) :
    ReturnsInHanded {} Tryd.checked os 20 .any (fun w args => (Rows.fillOneSpec.pre enc Tryd.prog Tryd.f20 [] false w args ∧ laidMetH Tryd.prog R.L1 w) ∧ sizedMet enc Tryd.prog Tryd.f20 (OpenSpec.ofChange Rows.fillOneSpec) false w args)
      (Rows.fillOneSpec.post enc Tryd.prog Tryd.f20 false true false false) := by
  refine returnsInHanded_of_change_and (C := Tryd.checked) (X := fun w _ => laidMetH Tryd.prog R.L1 w) (fun _ _ _ hh h => h.of_heap hh) R.own started (by kernel_rfl) Tryd.func20
    (ChangeSpec.witness_at (enc := enc) (C := Tryd.checked) (os := os) (X := fun w _ => laidMetH Tryd.prog R.L1 w) false (World.laidAll Tryd.prog os R.L1) #[.slice none 0 0] 8 rfl (by kernel_rfl) (by kernel_rfl) (by kernel_rfl) (by kernel_rfl) (by kernel_rfl) (R.met1 os _)) ?_
  intro W base args ds gs before hval0 hW _ _ hL _
  have hval : ∀ (j : Nat) t v, Tryd.f20.params[j]? = some t → args[j]? = some v → Value.okWide Tryd.prog W .any base t v := hval0
  have hW' := hW
  obtain ⟨p, q, hA0, hV, rfl, hfz, hnd⟩ := hW
  have hA : DataW.TrodAll enc Tryd.prog W 0 (fun _ => true) true Tryd.f20.params.toList args.toList ds p := hA0
  rw [Tryd.params20] at hA hval
  obtain ⟨v0, vs0, d0, ds0, p0, q0, hargs, rfl, rfl, h0, r0⟩ := trodAll_cons hA
  obtain ⟨rfl, rfl, rfl⟩ := trodAll_nil r0
  obtain rfl : args = #[v0] := by cases args; simp_all
  obtain ⟨rfl, rfl⟩ := trodVars_none hV
  obtain ⟨A0, len0, cap0, rfl⟩ := okWide_slice Tryd.underlying22 (hval 0 22 v0 rfl rfl)
  have k0 := h0
  have lt0 : ∀ x ∈ p0, x.block < W.heap.size := by obtain ⟨m, hm⟩ := k0; exact DataW.trod_lt m _ _ _ hm
  obtain ⟨l0, e0, c0, K0⟩ := R.atoms_in h0
  subst e0
  refine (gutterlaw14_FillOne.calls (1000) _ _ l0 true W K0 c0 (R.gl1 hL) (FillOne_true l0)).mono fun e W' ⟨he, bel⟩ => ?_
  subst he
  exact ⟨_, rfl, _, _, _, [], _, [], hW', trodAll_mk1 (shut_bool Tryd.underlying4 _), (trodAll_cons_mk (Below.trod R.laidOut (by kernel_rfl) (of_decide_eq_true (by kernel_rfl)) k0 bel lt0) trodAll_mk0), rfl, bel.frame _, fun h => by cases h⟩
set_option maxRecDepth 100000
theorem named : Tryd.prog.funcNamed Rows.fillOneRow.func = some 20 := by kernel_rfl
theorem inst : Tryd.f20.isInstance Tryd.prog Rows.fillOneRow.origin Rows.fillOneRow.targs := of_decide_eq_true (by kernel_rfl)
theorem wrap : Tryd.f20.isWrapper Tryd.prog Rows.fillOneRow.wrapper Rows.fillOneRow.mainSum := by unfold Func.isWrapper; first | (rw [if_pos (by decide +kernel)]; kernel_rfl) | (rw [if_neg (by decide +kernel)]; exact ⟨rfl, rfl⟩)
theorem goes : false = Rows.fillOneRow.goesBy Tryd.pinned.checked.prog := by kernel_rfl
theorem byText : Rows.fillOneRow.wfByText (OpenSpec.ofChange Rows.fillOneSpec) = true := by kernel_rfl
theorem over : Rows.FillOneSaid :=
  OpenClaim.holds_of_wide 20 Tryd.f20 rfl rfl rfl rfl rfl rfl rfl ⟨rfl, rfl, rfl, rfl, rfl⟩ rfl rfl rfl rfl rfl named Tryd.func20 closed inst wrap
    (fun os started H enc _ => lifted os started H enc)
theorem noStand : ∀ (j : Nat) (t : TypeId), Tryd.f20.params[j]? = some t → Tryd.prog.wantsStandIn t = false := by
  intro j t ht
  rw [Tryd.params20] at ht
  have h3 : t = 22 := by
    match j, ht with
    | 0, ht => cases ht; simp
    | j + 1, ht => simp at ht
  rcases h3 with rfl
  · exact R.stand22
end Go.Proofs.YtjpifknencfipaaDoor.FillOneRow
namespace Go.Proofs.YtjpifknencfipaaDoor
open Go
/-- The tied card. -/
theorem fillOne_card : Rows.FillOneCardSaid :=
  Claim7.holds_tied_plain_at .later [] [.sentinel] true (true, "b9d29a5a8ac8ffd65bd7abf0387edf791e422c0f8ec1e9ac251d4174caa9c425") true
    FillOneRow.over (fun _ h => by cases h) FillOneRow.byText (fun _ h => by cases h) fillOne_row_tie rfl ⟨rfl, rfl⟩ R.mainFact rfl
    (fun f fn hf hfn => by
      obtain rfl : f = 20 := (Option.some.inj (FillOneRow.named.symm.trans hf)).symm
      obtain rfl : fn = Tryd.f20 := (Option.some.inj (Tryd.func20.symm.trans hfn)).symm
      exact ⟨R.looksFact, FillOneRow.noStand⟩)
    FillOneRow.goes
#print axioms fillOne_card
end Go.Proofs.YtjpifknencfipaaDoor
