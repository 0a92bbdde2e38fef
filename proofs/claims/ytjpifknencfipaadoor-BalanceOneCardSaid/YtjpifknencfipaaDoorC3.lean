/- The law BalanceOne answers true, whatever comes in, and leaves what came in as it was: the row and the tied card. Conditions: none. -/
import Derived.Test.YtjpifknencfipaaDoorRows
import Derived.Test.YtjpifknencfipaaDoorTie
import Derived.Test.YtjpifknencfipaaDoorCards
import Derived.Test.YtjpifknencfipaaDoorRw
import Derived.Test.YtjpifknencfipaaDoorRd
import Derived.Test.YtjpifknencfipaaDoorLb
import Derived.Test.YtjpifknencfipaaDoorP3
import Derived.WalkKit
import Derived.ProofKit
import Derived.OpenShut
import Derived.ChangeOld
import Derived.Below
import Derived.SizedLaws
import Derived.JoinedOf
import Derived.ChangeVars
import Derived.SevenTiedAt
import Derived.Stop.Joined
set_option linter.unusedVariables false
set_option linter.unusedSimpArgs false
namespace Go.Proofs.YtjpifknencfipaaDoor.P
open Go.RowKit Go.Proofs.YtjpifknencfipaaDoorW.PrintWords Go.Proofs.YtjpifknencfipaaDoorW.PrintLast Go.Proofs.YtjpifknencfipaaDoorW.PrintMore

theorem one15_l0 (l : List S32) (hl : l.length ≤ 40) (hr : rightA l = true) (H C Pn : Int) (E : Bool) (hC : 0 < l.length → 1 ≤ C)
    (hE : (∀ j, 1 ≤ j → j < l.length → bkA l j ≠ 2) → E = true ∧ H = allA l ∧ C = ((min 1 l.length : Nat) : Int)) (d : Nat) :
    ∀ (k i : Nat), l.length - i = d → d + 50 < k → 1 ≤ i → (∀ j, 1 ≤ j → j < i → bkA l j ≠ 2) → gutterlaw15_BalanceOne.l0 k l true (i : Int) H C Pn E = some true := by
  induction d with
  | zero =>
    intro k i hd hk h1 hno
    obtain ⟨k, rfl⟩ : ∃ m, k = m + 1 := ⟨k - 1, by omega⟩
    obtain ⟨e1, e2, e3⟩ := hE fun j q1 q2 => hno j q1 (by omega)
    simp only [gutterlaw15_BalanceOne.l0]
    rw [if_neg (by omega), if_pos trivial, if_pos e1, high_right l hr (by omega), Option.bind_some, if_pos e2, e3]
    have hmn : mn 1 (l.length : Int) = ((min 1 l.length : Nat) : Int) := by unfold mn; omega
    rw [hmn]
    simp
  | succ d ih =>
    intro k i hd hk h1 hno
    obtain ⟨k, rfl⟩ : ∃ m, k = m + 1 := ⟨k - 1, by omega⟩
    simp only [gutterlaw15_BalanceOne.l0]
    rw [if_pos (by omega), if_pos (by omega), rd_32, w64 (x := (i : Int) + 1) (by omega), show ((i : Int) + 1) = ((i + 1 : Nat) : Int) by push_cast; rfl]
    by_cases hb : (atA l i).f4 = 2
    · rw [if_pos hb, if_pos trivial]
      have := hC (by omega)
      rw [decide_eq_true (show C ≥ 1 from this)]
    · rw [if_neg hb]
      refine ih k (i + 1) (by omega) (by omega) (by omega) fun j q1 q2 => ?_
      by_cases hj : j = i
      · subst hj
        exact hb
      · exact hno j q1 (by omega)

theorem BalanceOne_true (l0 : List S32) : gutterlaw15_BalanceOne.f 1000 l0 = some true := by
  unfold gutterlaw15_BalanceOne.f
  have hl := few40_len l0
  rw [shown15, Option.bind_some, few15_f, Option.bind_some]
  generalize few40 l0 = l at hl
  by_cases hr : rightA l = true
  · have ho := open_yes15 l 1 hr (by omega) (by omega) (by omega)
    rw [bal_yes l 1 0 1000 ho rfl (by omega) (by omega), Option.bind_some, if_pos rfl]
    obtain ⟨k, hk, he, hn, hno⟩ := least_exact hr hl 1 (by omega) (by omega) 1000 (by omega)
    have hup := search_up hr (by omega) 1 (by omega) (by omega) k hno
    have hbr := begin_range hr (by omega) 1 (by omega) (by omega)
    have hal := all_range l hr
    rw [he]
    have hlow : lowA (hgtA l (beginA l 1) k) 0 = hgtA l (beginA l 1) k := by unfold lowA; rw [if_neg (by omega)]
    simp only [hlow]
    have htl : tallA l ≤ beginA l 1 := by unfold beginA; omega
    have hf := fine_of l hr (hgtA l (beginA l 1) k) (by omega) (by omega)
    refine one15_l0 l hl hr _ _ _ _ (fun h0 => num_pos _ hf h0) (fun hm => ?_) (l.length - 1) 1000 1 rfl (by omega) (by omega) (fun j q1 q2 => by omega)
    have hz : mustA l 1 (l.length - 1) = 0 := must_none l _ 1 fun j q1 q2 => hm j q1 (by omega)
    have hcnt := fill_count l hr (allA l) hal.1 (Int.le_refl _)
    rw [hz] at hcnt
    have hfa := fine_of l hr (allA l) hal.1 (by omega)
    have hna : numA l (allA l) = ((min 1 l.length : Nat) : Int) := by
      unfold numA
      rw [if_pos hfa, hcnt]
      split <;> omega
    have ht : targetA l 1 = 1 := by unfold targetA; omega
    have hH := one_all hr (hgtA l (beginA l 1) k) (by omega) hup.2 (by omega)
    exact ⟨rfl, hH, by rw [hH]; exact hna⟩
  · have ho : openA l 1 ≠ true := fun e => hr (open_parts e).1
    unfold balance_Balance.f
    rw [if_neg (by simp [ho]), Option.bind_some, if_neg (by simp), if_pos rfl, ref_right l (by omega) (by omega), Option.bind_some]
    simp [hr]

end Go.Proofs.YtjpifknencfipaaDoor.P
namespace Go.Proofs.YtjpifknencfipaaDoor.BalanceOneRow
open Go
set_option maxRecDepth 100000
theorem h10 : (Rows.balanceOneRow.inPlace == Tryd.prog.inPlace 3) = true := by kernel_rfl
theorem h11 : (Rows.balanceOneRow.unfollowed == Tryd.prog.unfollowed 3) = true := by kernel_rfl
theorem h12 : (Rows.balanceOneRow.recurses == Tryd.prog.recurses 3) = true := by kernel_rfl
theorem h13 : (Rows.balanceOneRow.named == Tryd.prog.varsNamed 3) = true := by kernel_rfl
theorem g1 : (Rows.balanceOneRow.plainKeys == Tryd.prog.plainKeys) = true := Rd.g1
theorem g4 : (Rows.balanceOneRow.lifted == Tryd.prog.liftsFinal) = true := Rd.g4
theorem g5 : (Tryd.prog.make == some Rows.balanceOneRow.make) = true := Rd.g5
theorem closed : joinedFacts Tryd.prog 3 Tryd.f3 Rows.balanceOneSpec Rows.balanceOneRow = true := by
  unfold joinedFacts
  rw [Rd.f2, Rd.f3, Rd.f7, Rd.f9, h10, h11, h12, h13, g1, Rd.g2, Rd.g3, g4, g5]
  kernel_rfl
end Go.Proofs.YtjpifknencfipaaDoor.BalanceOneRow

namespace Go.Proofs.YtjpifknencfipaaDoor.BalanceOneRow
open Go.ChangeShapes Go.WideShapes Go.ChangeAt Go.RowKit Go.Proofs.YtjpifknencfipaaDoor Go.Proofs.YtjpifknencfipaaDoor.P
set_option maxRecDepth 100000 in
theorem lifted (os : Os) (started : os.Started) (H : Type) (enc : TypeId × Value → H) :
    ReturnsInHanded {} Tryd.checked os 3 .any (fun w args => (Rows.balanceOneSpec.pre enc Tryd.prog Tryd.f3 [] false w args ∧ laidMetH Tryd.prog R.L2 w) ∧ sizedMet enc Tryd.prog Tryd.f3 (OpenSpec.ofChange Rows.balanceOneSpec) false w args)
      (Rows.balanceOneSpec.post enc Tryd.prog Tryd.f3 false true false false) := by
  refine returnsInHanded_of_change_and (C := Tryd.checked) (X := fun w _ => laidMetH Tryd.prog R.L2 w) (fun _ _ _ hh h => h.of_heap hh) R.own started (by kernel_rfl) Tryd.func3
    (ChangeSpec.witness_at (enc := enc) (C := Tryd.checked) (os := os) (X := fun w _ => laidMetH Tryd.prog R.L2 w) false (World.laidAll Tryd.prog os R.L2) #[.slice none 0 0] 8 rfl (by kernel_rfl) (by kernel_rfl) (by kernel_rfl) (by kernel_rfl) (by kernel_rfl) (R.met2 os _)) ?_
  intro W base args ds gs before hval0 hW _ _ hL _
  have hval : ∀ (j : Nat) t v, Tryd.f3.params[j]? = some t → args[j]? = some v → Value.okWide Tryd.prog W .any base t v := hval0
  have hW' := hW
  obtain ⟨p, q, hA0, hV, rfl, hfz, hnd⟩ := hW
  have hA : DataW.TrodAll enc Tryd.prog W 0 (fun _ => true) true Tryd.f3.params.toList args.toList ds p := hA0
  rw [Tryd.params3] at hA hval
  obtain ⟨v0, vs0, d0, ds0, p0, q0, hargs, rfl, rfl, h0, r0⟩ := trodAll_cons hA
  obtain ⟨rfl, rfl, rfl⟩ := trodAll_nil r0
  obtain rfl : args = #[v0] := by cases args; simp_all
  obtain ⟨rfl, rfl⟩ := trodVars_none hV
  obtain ⟨A0, len0, cap0, rfl⟩ := okWide_slice Tryd.underlying22 (hval 0 22 v0 rfl rfl)
  have k0 := h0
  have lt0 : ∀ x ∈ p0, x.block < W.heap.size := by obtain ⟨m, hm⟩ := k0; exact DataW.trod_lt m _ _ _ hm
  obtain ⟨l0, e0, c0, K0⟩ := R.atoms_in h0
  subst e0
  refine (gutterlaw15_BalanceOne.calls (1000) _ _ l0 true W K0 c0 (R.gl2 hL) (BalanceOne_true l0)).mono fun e W' ⟨he, bel⟩ => ?_
  subst he
  exact ⟨_, rfl, _, _, _, [], _, [], hW', trodAll_mk1 (shut_bool Tryd.underlying4 _), (trodAll_cons_mk (Below.trod R.laidOut (by kernel_rfl) (of_decide_eq_true (by kernel_rfl)) k0 bel lt0) trodAll_mk0), rfl, bel.frame _, fun h => by cases h⟩
set_option maxRecDepth 100000
theorem named : Tryd.prog.funcNamed Rows.balanceOneRow.func = some 3 := by kernel_rfl
theorem inst : Tryd.f3.isInstance Tryd.prog Rows.balanceOneRow.origin Rows.balanceOneRow.targs := of_decide_eq_true (by kernel_rfl)
theorem wrap : Tryd.f3.isWrapper Tryd.prog Rows.balanceOneRow.wrapper Rows.balanceOneRow.mainSum := by unfold Func.isWrapper; first | (rw [if_pos (by decide +kernel)]; kernel_rfl) | (rw [if_neg (by decide +kernel)]; exact ⟨rfl, rfl⟩)
theorem goes : false = Rows.balanceOneRow.goesBy Tryd.pinned.checked.prog := by kernel_rfl
theorem byText : Rows.balanceOneRow.wfByText (OpenSpec.ofChange Rows.balanceOneSpec) = true := by kernel_rfl
theorem over : Rows.BalanceOneSaid :=
  OpenClaim.holds_of_wide 3 Tryd.f3 rfl rfl rfl rfl rfl rfl rfl ⟨rfl, rfl, rfl, rfl, rfl⟩ rfl rfl rfl rfl rfl named Tryd.func3 closed inst wrap
    (fun os started H enc _ => lifted os started H enc)
theorem noStand : ∀ (j : Nat) (t : TypeId), Tryd.f3.params[j]? = some t → Tryd.prog.wantsStandIn t = false := by
  intro j t ht
  rw [Tryd.params3] at ht
  have h3 : t = 22 := by
    match j, ht with
    | 0, ht => cases ht; simp
    | j + 1, ht => simp at ht
  rcases h3 with rfl
  · exact R.stand22
end Go.Proofs.YtjpifknencfipaaDoor.BalanceOneRow
namespace Go.Proofs.YtjpifknencfipaaDoor
open Go
/-- The tied card. -/
theorem balanceOne_card : Rows.BalanceOneCardSaid :=
  Claim7.holds_tied_plain_at .later [] [.sentinel, .sentinel] true (true, "b9d29a5a8ac8ffd65bd7abf0387edf791e422c0f8ec1e9ac251d4174caa9c425") true
    BalanceOneRow.over (fun _ h => by cases h) BalanceOneRow.byText (fun _ h => by cases h) balanceOne_row_tie rfl ⟨rfl, rfl⟩ R.mainFact rfl
    (fun f fn hf hfn => by
      obtain rfl : f = 3 := (Option.some.inj (BalanceOneRow.named.symm.trans hf)).symm
      obtain rfl : fn = Tryd.f3 := (Option.some.inj (Tryd.func3.symm.trans hfn)).symm
      exact ⟨R.looksFact, BalanceOneRow.noStand⟩)
    BalanceOneRow.goes
#print axioms balanceOne_card
end Go.Proofs.YtjpifknencfipaaDoor
