/- The law RowWithin answers true, whatever comes in, and leaves what came in as it was: the row and the tied card. Conditions: none. -/
import Derived.Test.YtjpifknencfipaaDoorRows
import Derived.Test.YtjpifknencfipaaDoorTie
import Derived.Test.YtjpifknencfipaaDoorCards
import Derived.Test.YtjpifknencfipaaDoorRw
import Derived.Test.YtjpifknencfipaaDoorRd
import Derived.Test.YtjpifknencfipaaDoorLh
import Derived.Test.YtjpifknencfipaaDoorLc
import Derived.Test.YtjpifknencfipaaDoorP11
import Derived.WalkKit
import Derived.ProofKit
import Derived.OpenShut
import Derived.ChangeOld
import Derived.Below
import Derived.SizedLaws
import Derived.JoinedOf
import Derived.ChangeVars
import Derived.SevenTiedAt
import Derived.Stop.Joined
set_option linter.unusedVariables false
set_option linter.unusedSimpArgs false
namespace Go.Proofs.YtjpifknencfipaaDoor.P
open Go.RowKit Go.Proofs.YtjpifknencfipaaDoorW.PrintWords Go.Proofs.YtjpifknencfipaaDoorW.PrintLast Go.Proofs.YtjpifknencfipaaDoorW.PrintMore

theorem within_l0 (l : List S32) (hr : rightA l = true) (hn : l.length ≤ 40) (w gap av h : Int) (hh0 : 0 ≤ h) (hh1 : h ≤ 2199023255552) (ha : av = 0 ∨ h ≤ av) (hz : ¬ 0 < av → tallA l ≤ h) (d : Nat) : ∀ (k i : Nat), l.length - i = d → i ≤ l.length → d + 50 < k →
    gutterlaw17_RowWithin.l0 k l av true (i : Int) h ((fillA l h).length : Int) (rowA l w gap 0 (fillA l h)) = some true := by
  induction d with
  | zero =>
    intro k i hd hi hk
    obtain ⟨k, rfl⟩ : ∃ m, k = m + 1 := ⟨k - 1, by omega⟩
    have hf := fine_of l hr h hh0 hh1
    simp only [gutterlaw17_RowWithin.l0]
    rw [rowF_len, if_neg (by omega), cols_fine l h hf, Option.bind_some, if_pos trivial, if_pos rfl]
    simp only
    have hn' : numA l h = ((fillA l h).length : Int) := by unfold numA; rw [if_pos hf]
    rw [if_pos hn']
    have hlow : ¬ 0 < av → lowF 0 (rowA l w gap 0 (fillA l h)) ≤ h := fun q => by
      refine low_le h _ 0 hh0 fun f hf => ?_
      obtain ⟨i, hi, rfl⟩ := mem_row hf
      rw [reach_eq l w gap h hr i hi]
      rcases reach_le hr h i hi with e | e
      · have := (top_range hr h i hi).2.2.1 e
        have := (tall_ge l).2 i hi
        have := hz q
        omega
      · exact e
    have hfl : row_Low.f k (rowA l w gap 0 (fillA l h)) = some (lowF 0 (rowA l w gap 0 (fillA l h))) := low_f _ (by rw [rowF_len]; omega) (by rw [rowF_len]; omega)
    by_cases q : av = 0
    · rw [if_pos q, if_neg (by omega), hfl, Option.bind_some, decide_eq_true (hlow (by omega))]
    · rw [if_neg q, if_pos (by omega)]
      by_cases q2 : av > 0
      · rw [if_pos q2]
      · rw [if_neg q2, hfl, Option.bind_some, decide_eq_true (hlow (by omega))]
  | succ d ih =>
    intro k i hd hi hk
    obtain ⟨k, rfl⟩ : ∃ m, k = m + 1 := ⟨k - 1, by omega⟩
    have hlt : i < l.length := by omega
    have htr := top_range hr h i hlt
    have hh := hh_of hr i hlt
    have nx : gutterlaw17_RowWithin.l0 k l av true (wrap64 ((i : Int) + 1)) h ((fillA l h).length : Int) (rowA l w gap 0 (fillA l h)) = some true := by
      rw [w64 (x := (i : Int) + 1) (by omega), show ((i : Int) + 1) = ((i + 1 : Nat) : Int) by push_cast; rfl]
      exact ih k (i + 1) (by omega) (by omega) (by omega)
    have e : wrap64 (topF l h i + (atA l i).f2) = topF l h i + hhA l i := w64 (by show _ ∧ topF l h i + hhA l i ≤ _; unfold hhA at *; omega)
    simp only [gutterlaw17_RowWithin.l0]
    rw [piece l w gap h i hlt, rowF_len, if_pos (by omega), if_pos (by omega)]
    simp only
    rw [e]
    rcases reach_le hr h i hlt with q | q
    · have h0 := htr.2.2.1 q
      by_cases q2 : topF l h i + hhA l i > h
      · have e' : ¬ (atA l i).f2 ≤ h := by
          have e'' : (atA l i).f2 = hhA l i := rfl
          omega
        rw [if_pos q2, if_pos h0, if_neg e']
        exact nx
      · rw [if_neg q2]
        exact nx
    · rw [if_neg (by omega)]
      exact nx

theorem RowWithin_true (l0 : List S32) (a1 a2 : Int) (a3 : Bool) : gutterlaw17_RowWithin.f 1000 l0 a1 a2 a3 = some true := by
  unfold gutterlaw17_RowWithin.f
  have hf := fewR_len l0
  rw [shown17 (by omega), Option.bind_some, few17_f, Option.bind_some]
  generalize fewR l0 = l at hf
  by_cases ho : layOkA l a1 64 16 a2 = true
  · obtain ⟨hr, h0, h1, n1, n2, hop, _⟩ := lay_right ho
    rw [lay_ok a3 ho, Option.bind_some, if_pos rfl]
    simp only
    have hal := all_range l hr
    have htl := tall_le_all hr
    have hL : tallA l ≤ (leastBA l a1 1000).1 ∧ (leastBA l a1 1000).1 ≤ allA l := by
      rcases least_spec l a1 1000 (by omega) with ⟨k, hk, he, hn, hno⟩ | ⟨he, hno⟩
      · have hup := search_up hr (by omega) a1 n1 n2 k hno
        have : tallA l ≤ beginA l a1 := by unfold beginA; omega
        rw [he]
        exact ⟨by simp only; omega, hup.2⟩
      · rw [he]
        exact ⟨htl, Int.le_refl _⟩
    have htr := tall_range l hr
    have hrow : 0 ≤ rowHA l a1 a2 a3 ∧ rowHA l a1 a2 a3 ≤ 2199023255552 ∧ (a2 = 0 ∨ rowHA l a1 a2 a3 ≤ a2) ∧ (¬ 0 < a2 → tallA l ≤ rowHA l a1 a2 a3) := by
      unfold rowHA lowA
      split
      · omega
      · split <;> omega
    exact within_l0 l hr hf 64 16 a2 _ hrow.1 hrow.2.1 hrow.2.2.1 hrow.2.2.2 l.length 1000 0 (by omega) (by omega) (by omega)
  · rw [lay_bad a3 ho, Option.bind_some, if_neg (by simp)]

end Go.Proofs.YtjpifknencfipaaDoor.P
namespace Go.Proofs.YtjpifknencfipaaDoor.RowWithinRow
open Go
set_option maxRecDepth 100000
theorem h10 : (Rows.rowWithinRow.inPlace == Tryd.prog.inPlace 11) = true := by kernel_rfl
theorem h11 : (Rows.rowWithinRow.unfollowed == Tryd.prog.unfollowed 11) = true := by kernel_rfl
theorem h12 : (Rows.rowWithinRow.recurses == Tryd.prog.recurses 11) = true := by kernel_rfl
theorem h13 : (Rows.rowWithinRow.named == Tryd.prog.varsNamed 11) = true := by kernel_rfl
theorem g1 : (Rows.rowWithinRow.plainKeys == Tryd.prog.plainKeys) = true := Rd.g1
theorem g4 : (Rows.rowWithinRow.lifted == Tryd.prog.liftsFinal) = true := Rd.g4
theorem g5 : (Tryd.prog.make == some Rows.rowWithinRow.make) = true := Rd.g5
theorem closed : joinedFacts Tryd.prog 11 Tryd.f11 Rows.rowWithinSpec Rows.rowWithinRow = true := by
  unfold joinedFacts
  rw [Rd.f2, Rd.f3, Rd.f7, Rd.f9, h10, h11, h12, h13, g1, Rd.g2, Rd.g3, g4, g5]
  kernel_rfl
end Go.Proofs.YtjpifknencfipaaDoor.RowWithinRow

namespace Go.Proofs.YtjpifknencfipaaDoor.RowWithinRow
open Go.ChangeShapes Go.WideShapes Go.ChangeAt Go.RowKit Go.Proofs.YtjpifknencfipaaDoor Go.Proofs.YtjpifknencfipaaDoor.P
set_option maxRecDepth 100000 in
theorem lifted (os : Os) (started : os.Started) (H : Type) (enc : TypeId × Value → H) :
    ReturnsInHanded {} Tryd.checked os 11 .any (fun w args => (Rows.rowWithinSpec.pre enc Tryd.prog Tryd.f11 [] false w args ∧ laidMetH Tryd.prog R.L3 w) ∧ sizedMet enc Tryd.prog Tryd.f11 (OpenSpec.ofChange Rows.rowWithinSpec) false w args)
      (Rows.rowWithinSpec.post enc Tryd.prog Tryd.f11 false true false false) := by
  refine returnsInHanded_of_change_and (C := Tryd.checked) (X := fun w _ => laidMetH Tryd.prog R.L3 w) (fun _ _ _ hh h => h.of_heap hh) R.own started (by kernel_rfl) Tryd.func11
    (ChangeSpec.witness_at (enc := enc) (C := Tryd.checked) (os := os) (X := fun w _ => laidMetH Tryd.prog R.L3 w) false (World.laidAll Tryd.prog os R.L3) #[.slice none 0 0, .int .i64 0, .int .i64 0, .bool false] 8 rfl (by kernel_rfl) (by kernel_rfl) (by kernel_rfl) (by kernel_rfl) (by kernel_rfl) (R.met3 os _)) ?_
  intro W base args ds gs before hval0 hW _ _ hL _
  have hval : ∀ (j : Nat) t v, Tryd.f11.params[j]? = some t → args[j]? = some v → Value.okWide Tryd.prog W .any base t v := hval0
  have hW' := hW
  obtain ⟨p, q, hA0, hV, rfl, hfz, hnd⟩ := hW
  have hA : DataW.TrodAll enc Tryd.prog W 0 (fun _ => true) true Tryd.f11.params.toList args.toList ds p := hA0
  rw [Tryd.params11] at hA hval
  obtain ⟨v0, vs0, d0, ds0, p0, q0, hargs, rfl, rfl, h0, r0⟩ := trodAll_cons hA
  obtain ⟨v1, vs1, d1, ds1, p1, q1, rfl, rfl, rfl, h1, r1⟩ := trodAll_cons r0
  obtain ⟨v2, vs2, d2, ds2, p2, q2, rfl, rfl, rfl, h2, r2⟩ := trodAll_cons r1
  obtain ⟨v3, vs3, d3, ds3, p3, q3, rfl, rfl, rfl, h3, r3⟩ := trodAll_cons r2
  obtain ⟨rfl, rfl, rfl⟩ := trodAll_nil r3
  obtain rfl : args = #[v0, v1, v2, v3] := by cases args; simp_all
  obtain ⟨rfl, rfl⟩ := trodVars_none hV
  obtain ⟨A0, len0, cap0, rfl⟩ := okWide_slice Tryd.underlying22 (hval 0 22 v0 rfl rfl)
  have k0 := h0
  have lt0 : ∀ x ∈ p0, x.block < W.heap.size := by obtain ⟨m, hm⟩ := k0; exact DataW.trod_lt m _ _ _ hm
  obtain ⟨l0, e0, c0, K0⟩ := R.atoms_in h0
  subst e0
  obtain ⟨a1, rfl, rfl, rfl, w1⟩ := open_int Tryd.underlying3 (hval 1 3 v1 rfl rfl) h1
  obtain ⟨a2, rfl, rfl, rfl, w2⟩ := open_int Tryd.underlying2 (hval 2 2 v2 rfl rfl) h2
  obtain ⟨a3, rfl, rfl, rfl⟩ := open_bool Tryd.underlying4 (hval 3 4 v3 rfl rfl) h3
  refine (gutterlaw17_RowWithin.callsT (1000) _ _ l0 a1 a2 a3 true W K0 c0 (R.gl3 hL) (RowWithin_true l0 a1 a2 a3) rfl).mono fun e W' ⟨he, bel⟩ => ?_
  subst he
  exact ⟨_, rfl, _, _, _, [], _, [], hW', trodAll_mk1 (shut_bool Tryd.underlying4 _), (trodAll_cons_mk (Below.trod R.laidOut (by kernel_rfl) (of_decide_eq_true (by kernel_rfl)) k0 bel lt0) (trodAll_cons_mk (shut_int Tryd.underlying3 w1) (trodAll_cons_mk (shut_int Tryd.underlying2 w2) (trodAll_cons_mk (shut_bool Tryd.underlying4 _) trodAll_mk0)))), rfl, bel.frame _, fun h => by cases h⟩
set_option maxRecDepth 100000
theorem named : Tryd.prog.funcNamed Rows.rowWithinRow.func = some 11 := by kernel_rfl
theorem inst : Tryd.f11.isInstance Tryd.prog Rows.rowWithinRow.origin Rows.rowWithinRow.targs := of_decide_eq_true (by kernel_rfl)
theorem wrap : Tryd.f11.isWrapper Tryd.prog Rows.rowWithinRow.wrapper Rows.rowWithinRow.mainSum := by unfold Func.isWrapper; first | (rw [if_pos (by decide +kernel)]; kernel_rfl) | (rw [if_neg (by decide +kernel)]; exact ⟨rfl, rfl⟩)
theorem goes : false = Rows.rowWithinRow.goesBy Tryd.pinned.checked.prog := by kernel_rfl
theorem byText : Rows.rowWithinRow.wfByText (OpenSpec.ofChange Rows.rowWithinSpec) = true := by kernel_rfl
theorem over : Rows.RowWithinSaid :=
  OpenClaim.holds_of_wide 11 Tryd.f11 rfl rfl rfl rfl rfl rfl rfl ⟨rfl, rfl, rfl, rfl, rfl⟩ rfl rfl rfl rfl rfl named Tryd.func11 closed inst wrap
    (fun os started H enc _ => lifted os started H enc)
theorem noStand : ∀ (j : Nat) (t : TypeId), Tryd.f11.params[j]? = some t → Tryd.prog.wantsStandIn t = false := by
  intro j t ht
  rw [Tryd.params11] at ht
  have h3 : t = 2 ∨ t = 3 ∨ t = 4 ∨ t = 22 := by
    match j, ht with
    | 0, ht => cases ht; simp
    | 1, ht => cases ht; simp
    | 2, ht => cases ht; simp
    | 3, ht => cases ht; simp
    | j + 4, ht => simp at ht
  rcases h3 with rfl | rfl | rfl | rfl
  · exact R.stand2
  · exact R.stand3
  · exact R.stand4
  · exact R.stand22
end Go.Proofs.YtjpifknencfipaaDoor.RowWithinRow
namespace Go.Proofs.YtjpifknencfipaaDoor
open Go
/-- The tied card. -/
theorem rowWithin_card : Rows.RowWithinCardSaid :=
  Claim7.holds_tied_plain_at .later [] [.sentinel, .sentinel, .sentinel] true (true, "b9d29a5a8ac8ffd65bd7abf0387edf791e422c0f8ec1e9ac251d4174caa9c425") true
    RowWithinRow.over (fun _ h => by cases h) RowWithinRow.byText (fun _ h => by cases h) rowWithin_row_tie rfl ⟨rfl, rfl⟩ R.mainFact rfl
    (fun f fn hf hfn => by
      obtain rfl : f = 11 := (Option.some.inj (RowWithinRow.named.symm.trans hf)).symm
      obtain rfl : fn = Tryd.f11 := (Option.some.inj (Tryd.func11.symm.trans hfn)).symm
      exact ⟨R.looksFact, RowWithinRow.noStand⟩)
    RowWithinRow.goes
#print axioms rowWithin_card
end Go.Proofs.YtjpifknencfipaaDoor
