/- The law RowPlain answers true, whatever comes in, and leaves what came in as it was: the row and the tied card. Conditions: none. -/
import Derived.Test.YtjpifknencfipaaDoorRows
import Derived.Test.YtjpifknencfipaaDoorTie
import Derived.Test.YtjpifknencfipaaDoorCards
import Derived.Test.YtjpifknencfipaaDoorRw
import Derived.Test.YtjpifknencfipaaDoorRd
import Derived.Test.YtjpifknencfipaaDoorLh
import Derived.Test.YtjpifknencfipaaDoorLw
import Derived.Test.YtjpifknencfipaaDoorLc
import Derived.Test.YtjpifknencfipaaDoorP12
import Derived.WalkKit
import Derived.ProofKit
import Derived.OpenShut
import Derived.ChangeOld
import Derived.Below
import Derived.SizedLaws
import Derived.JoinedOf
import Derived.ChangeVars
import Derived.SevenTiedAt
import Derived.Stop.Joined
set_option linter.unusedVariables false
set_option linter.unusedSimpArgs false
namespace Go.Proofs.YtjpifknencfipaaDoor.P
open Go.RowKit Go.Proofs.YtjpifknencfipaaDoorW.PrintWords Go.Proofs.YtjpifknencfipaaDoorW.PrintLast Go.Proofs.YtjpifknencfipaaDoorW.PrintMore

theorem plain_l0 (l : List S32) (hr : rightA l = true) (hn : l.length ≤ 40) (w gap h : Int) (hE : (∀ j, 1 ≤ j → j < l.length → bkA l j ≠ 2) → h = allA l ∧ (fillA l h).length = min 1 l.length) (d : Nat) : ∀ (k i : Nat), l.length - i = d → 1 ≤ i → d + 50 < k → (∀ j, 1 ≤ j → j < i → bkA l j ≠ 2) →
    gutterlaw17_RowPlain.l0 k l true (i : Int) h ((fillA l h).length : Int) (rowA l w gap 0 (fillA l h)) = some true := by
  induction d with
  | zero =>
    intro k i hd h1 hk hno
    obtain ⟨k, rfl⟩ : ∃ m, k = m + 1 := ⟨k - 1, by omega⟩
    obtain ⟨e1, e2⟩ := hE fun j q1 q2 => hno j q1 (by omega)
    have hal := all_range l hr
    have hcol : ∀ i, i < l.length → begF l h i = 0 := by
      intro i
      induction i with
      | zero => intro hi; exact (rowF_zero l h hi).2
      | succ i ih2 =>
        intro hi
        have hin := rowF_in l h (i + 1) hi
        rcases rowF_next l h (i + 1) (by omega) hi with ⟨q1, q2⟩ | ⟨q1, q2⟩
        · rw [q2]
          exact ih2 (by omega)
        · omega
    have hreach : ∀ i, i < l.length → topF l h i + hhA l i = hiA l 0 (i + 1) := fun i hi => by
      unfold topF
      rw [hcol i hi]
      omega
    have hlow : lowF 0 (rowA l w gap 0 (fillA l h)) = h := by
      refine Int.le_antisymm (low_le h _ 0 (by omega) fun f hf => ?_) ?_
      · obtain ⟨i, hi, rfl⟩ := mem_row hf
        rw [reach_eq l w gap h hr i hi, hreach i hi, e1]
        exact hi_all l hr 0 (i + 1) (by omega) (by omega)
      · have hg := low_ge (rowA l w gap 0 (fillA l h)) 0
        by_cases hz : l.length = 0
        · have : allA l = 0 := by unfold allA; rw [if_pos hz]
          omega
        · have := hg.2 _ (row_mem (w := w) (gap := gap) (h := h) (l.length - 1) (by omega))
          rw [reach_eq l w gap h hr _ (by omega), hreach _ (by omega), show l.length - 1 + 1 = l.length by omega] at this
          have ha : allA l = hiA l 0 l.length := by unfold allA; rw [if_neg hz]
          omega
    simp only [gutterlaw17_RowPlain.l0]
    rw [if_neg (by omega), if_pos trivial, high_right l hr (by omega), Option.bind_some, if_pos e1, low_f _ (by rw [rowF_len]; omega) (by rw [rowF_len]; omega), Option.bind_some, if_pos hlow]
    have hmn : mn 1 (l.length : Int) = ((min 1 l.length : Nat) : Int) := by unfold mn; omega
    rw [e2, hmn, if_pos rfl]
    unfold row_Over.f
    rw [w64 (by omega), Option.bind_some]
    have : mx 0 (((min 1 l.length : Nat) : Int) - 1) = 0 := by unfold mx; split <;> omega
    rw [this]
    rfl
  | succ d ih =>
    intro k i hd h1 hk hno
    obtain ⟨k, rfl⟩ : ∃ m, k = m + 1 := ⟨k - 1, by omega⟩
    simp only [gutterlaw17_RowPlain.l0]
    rw [if_pos (by omega), if_pos (by omega), rd_32, w64 (x := (i : Int) + 1) (by omega), show ((i : Int) + 1) = ((i + 1 : Nat) : Int) by push_cast; rfl]
    by_cases hb : (atA l i).f4 = 2
    · rw [if_pos hb]
    · rw [if_neg hb]
      refine ih k (i + 1) (by omega) (by omega) (by omega) fun j q1 q2 => ?_
      by_cases hj : j = i
      · subst hj
        exact hb
      · exact hno j q1 (by omega)

theorem RowPlain_true (l0 : List S32) (a1 : Int) : gutterlaw17_RowPlain.f 1000 l0 a1 = some true := by
  unfold gutterlaw17_RowPlain.f
  have hf := fewR_len l0
  rw [shown17 (by omega), Option.bind_some, few17_f, Option.bind_some]
  generalize fewR l0 = l at hf
  by_cases ho : layOkA l 1 a1 0 0 = true
  · obtain ⟨hr, h0, h1, n1, n2, hop, _⟩ := lay_right ho
    rw [lay_ok false ho, Option.bind_some, if_pos rfl]
    simp only
    have hal := all_range l hr
    have hrow : rowHA l 1 0 false = (leastBA l 1 1000).1 := by
      unfold rowHA lowA
      rw [if_neg (by simp), if_neg (by omega)]
    rw [hrow]
    obtain ⟨k, hk, he, hn, hno⟩ := least_exact hr hf 1 (by omega) (by omega) 1000 (by omega)
    have hup := search_up hr (by omega) 1 (by omega) (by omega) k hno
    have hbr := begin_range hr (by omega) 1 (by omega) (by omega)
    rw [he]
    simp only
    have htl : tallA l ≤ beginA l 1 := by unfold beginA; omega
    refine plain_l0 l hr hf _ _ _ (fun hm => ?_) (l.length - 1) 1000 1 rfl (by omega) (by omega) (fun j q1 q2 => by omega)
    have hz : mustA l 1 (l.length - 1) = 0 := must_none l _ 1 fun j q1 q2 => hm j q1 (by omega)
    have hcnt := fill_count l hr (allA l) hal.1 (Int.le_refl _)
    rw [hz] at hcnt
    have hfa := fine_of l hr (allA l) hal.1 (by omega)
    have hna : numA l (allA l) = ((min 1 l.length : Nat) : Int) := by
      unfold numA
      rw [if_pos hfa, hcnt]
      split <;> omega
    have ht : targetA l 1 = 1 := by unfold targetA; omega
    have hH := one_all hr (hgtA l (beginA l 1) k) (by omega) hup.2 (by omega)
    refine ⟨hH, ?_⟩
    rw [hH, hcnt]
    split <;> omega
  · rw [lay_bad false ho, Option.bind_some, if_neg (by simp), if_pos rfl]
    by_cases q1 : a1 < 0
    · rw [if_pos q1]
    · rw [if_neg q1]
      by_cases q2 : a1 > 1048576
      · rw [if_pos q2]
      · rw [if_neg q2, ref_right l (by omega) (by omega), Option.bind_some]
        have : ¬ rightA l = true := fun hr => ho (by
          unfold layOkA openA sizeA
          rw [hr, decide_eq_true (show l.length ≤ 200 by omega), decide_eq_true (show 0 ≤ a1 by omega), decide_eq_true (show a1 ≤ 1048576 by omega)]
          rfl)
        simp [this]

end Go.Proofs.YtjpifknencfipaaDoor.P
namespace Go.Proofs.YtjpifknencfipaaDoor.RowPlainRow
open Go
set_option maxRecDepth 100000
theorem h10 : (Rows.rowPlainRow.inPlace == Tryd.prog.inPlace 12) = true := by kernel_rfl
theorem h11 : (Rows.rowPlainRow.unfollowed == Tryd.prog.unfollowed 12) = true := by kernel_rfl
theorem h12 : (Rows.rowPlainRow.recurses == Tryd.prog.recurses 12) = true := by kernel_rfl
theorem h13 : (Rows.rowPlainRow.named == Tryd.prog.varsNamed 12) = true := by kernel_rfl
theorem g1 : (Rows.rowPlainRow.plainKeys == Tryd.prog.plainKeys) = true := Rd.g1
theorem g4 : (Rows.rowPlainRow.lifted == Tryd.prog.liftsFinal) = true := Rd.g4
theorem g5 : (Tryd.prog.make == some Rows.rowPlainRow.make) = true := Rd.g5
theorem closed : joinedFacts Tryd.prog 12 Tryd.f12 Rows.rowPlainSpec Rows.rowPlainRow = true := by
  unfold joinedFacts
  rw [Rd.f2, Rd.f3, Rd.f7, Rd.f9, h10, h11, h12, h13, g1, Rd.g2, Rd.g3, g4, g5]
  kernel_rfl
end Go.Proofs.YtjpifknencfipaaDoor.RowPlainRow

namespace Go.Proofs.YtjpifknencfipaaDoor.RowPlainRow
open Go.ChangeShapes Go.WideShapes Go.ChangeAt Go.RowKit Go.Proofs.YtjpifknencfipaaDoor Go.Proofs.YtjpifknencfipaaDoor.P
set_option maxRecDepth 100000 in
theorem lifted (os : Os) (started : os.Started) (H : Type) (enc : TypeId × Value → H) :
    ReturnsInHanded {} Tryd.checked os 12 .any (fun w args => (Rows.rowPlainSpec.pre enc Tryd.prog Tryd.f12 [] false w args ∧ laidMetH Tryd.prog R.L3 w) ∧ sizedMet enc Tryd.prog Tryd.f12 (OpenSpec.ofChange Rows.rowPlainSpec) false w args)
      (Rows.rowPlainSpec.post enc Tryd.prog Tryd.f12 false true false false) := by
  refine returnsInHanded_of_change_and (C := Tryd.checked) (X := fun w _ => laidMetH Tryd.prog R.L3 w) (fun _ _ _ hh h => h.of_heap hh) R.own started (by kernel_rfl) Tryd.func12
    (ChangeSpec.witness_at (enc := enc) (C := Tryd.checked) (os := os) (X := fun w _ => laidMetH Tryd.prog R.L3 w) false (World.laidAll Tryd.prog os R.L3) #[.slice none 0 0, .int .i64 0] 8 rfl (by kernel_rfl) (by kernel_rfl) (by kernel_rfl) (by kernel_rfl) (by kernel_rfl) (R.met3 os _)) ?_
  intro W base args ds gs before hval0 hW _ _ hL _
  have hval : ∀ (j : Nat) t v, Tryd.f12.params[j]? = some t → args[j]? = some v → Value.okWide Tryd.prog W .any base t v := hval0
  have hW' := hW
  obtain ⟨p, q, hA0, hV, rfl, hfz, hnd⟩ := hW
  have hA : DataW.TrodAll enc Tryd.prog W 0 (fun _ => true) true Tryd.f12.params.toList args.toList ds p := hA0
  rw [Tryd.params12] at hA hval
  obtain ⟨v0, vs0, d0, ds0, p0, q0, hargs, rfl, rfl, h0, r0⟩ := trodAll_cons hA
  obtain ⟨v1, vs1, d1, ds1, p1, q1, rfl, rfl, rfl, h1, r1⟩ := trodAll_cons r0
  obtain ⟨rfl, rfl, rfl⟩ := trodAll_nil r1
  obtain rfl : args = #[v0, v1] := by cases args; simp_all
  obtain ⟨rfl, rfl⟩ := trodVars_none hV
  obtain ⟨A0, len0, cap0, rfl⟩ := okWide_slice Tryd.underlying22 (hval 0 22 v0 rfl rfl)
  have k0 := h0
  have lt0 : ∀ x ∈ p0, x.block < W.heap.size := by obtain ⟨m, hm⟩ := k0; exact DataW.trod_lt m _ _ _ hm
  obtain ⟨l0, e0, c0, K0⟩ := R.atoms_in h0
  subst e0
  obtain ⟨a1, rfl, rfl, rfl, w1⟩ := open_int Tryd.underlying2 (hval 1 2 v1 rfl rfl) h1
  refine (gutterlaw17_RowPlain.callsT (1000) _ _ l0 a1 true W K0 c0 (R.gl3 hL) (RowPlain_true l0 a1) rfl).mono fun e W' ⟨he, bel⟩ => ?_
  subst he
  exact ⟨_, rfl, _, _, _, [], _, [], hW', trodAll_mk1 (shut_bool Tryd.underlying4 _), (trodAll_cons_mk (Below.trod R.laidOut (by kernel_rfl) (of_decide_eq_true (by kernel_rfl)) k0 bel lt0) (trodAll_cons_mk (shut_int Tryd.underlying2 w1) trodAll_mk0)), rfl, bel.frame _, fun h => by cases h⟩
set_option maxRecDepth 100000
theorem named : Tryd.prog.funcNamed Rows.rowPlainRow.func = some 12 := by kernel_rfl
theorem inst : Tryd.f12.isInstance Tryd.prog Rows.rowPlainRow.origin Rows.rowPlainRow.targs := of_decide_eq_true (by kernel_rfl)
theorem wrap : Tryd.f12.isWrapper Tryd.prog Rows.rowPlainRow.wrapper Rows.rowPlainRow.mainSum := by unfold Func.isWrapper; first | (rw [if_pos (by decide +kernel)]; kernel_rfl) | (rw [if_neg (by decide +kernel)]; exact ⟨rfl, rfl⟩)
theorem goes : false = Rows.rowPlainRow.goesBy Tryd.pinned.checked.prog := by kernel_rfl
theorem byText : Rows.rowPlainRow.wfByText (OpenSpec.ofChange Rows.rowPlainSpec) = true := by kernel_rfl
theorem over : Rows.RowPlainSaid :=
  OpenClaim.holds_of_wide 12 Tryd.f12 rfl rfl rfl rfl rfl rfl rfl ⟨rfl, rfl, rfl, rfl, rfl⟩ rfl rfl rfl rfl rfl named Tryd.func12 closed inst wrap
    (fun os started H enc _ => lifted os started H enc)
theorem noStand : ∀ (j : Nat) (t : TypeId), Tryd.f12.params[j]? = some t → Tryd.prog.wantsStandIn t = false := by
  intro j t ht
  rw [Tryd.params12] at ht
  have h3 : t = 2 ∨ t = 22 := by
    match j, ht with
    | 0, ht => cases ht; simp
    | 1, ht => cases ht; simp
    | j + 2, ht => simp at ht
  rcases h3 with rfl | rfl
  · exact R.stand2
  · exact R.stand22
end Go.Proofs.YtjpifknencfipaaDoor.RowPlainRow
namespace Go.Proofs.YtjpifknencfipaaDoor
open Go
/-- The tied card. -/
theorem rowPlain_card : Rows.RowPlainCardSaid :=
  Claim7.holds_tied_plain_at .later [] [.sentinel, .sentinel, .sentinel] true (true, "b9d29a5a8ac8ffd65bd7abf0387edf791e422c0f8ec1e9ac251d4174caa9c425") true
    RowPlainRow.over (fun _ h => by cases h) RowPlainRow.byText (fun _ h => by cases h) rowPlain_row_tie rfl ⟨rfl, rfl⟩ R.mainFact rfl
    (fun f fn hf hfn => by
      obtain rfl : f = 12 := (Option.some.inj (RowPlainRow.named.symm.trans hf)).symm
      obtain rfl : fn = Tryd.f12 := (Option.some.inj (Tryd.func12.symm.trans hfn)).symm
      exact ⟨R.looksFact, RowPlainRow.noStand⟩)
    RowPlainRow.goes
#print axioms rowPlain_card
end Go.Proofs.YtjpifknencfipaaDoor
