/- The law FillEnds answers true, whatever comes in, and leaves what came in as it was: the row and the tied card. Conditions: none. -/
import Derived.Test.YtjpifknencfipaaDoorRows
import Derived.Test.YtjpifknencfipaaDoorTie
import Derived.Test.YtjpifknencfipaaDoorCards
import Derived.Test.YtjpifknencfipaaDoorRw
import Derived.Test.YtjpifknencfipaaDoorRd
import Derived.Test.YtjpifknencfipaaDoorLw
import Derived.Test.YtjpifknencfipaaDoorP17
import Derived.WalkKit
import Derived.ProofKit
import Derived.OpenShut
import Derived.ChangeOld
import Derived.Below
import Derived.SizedLaws
import Derived.JoinedOf
import Derived.ChangeVars
import Derived.SevenTiedAt
import Derived.Stop.Joined
set_option linter.unusedVariables false
set_option linter.unusedSimpArgs false
namespace Go.Proofs.YtjpifknencfipaaDoor.P
open Go.RowKit Go.Proofs.YtjpifknencfipaaDoorW.PrintWords Go.Proofs.YtjpifknencfipaaDoorW.PrintLast Go.Proofs.YtjpifknencfipaaDoorW.PrintMore

theorem ends_l1 (l : List S32) (hn : l.length ≤ 2000) (h : Int) (i : Nat) (hi : i < (fillA l h).length) (hend : ∀ j, begA l h i < j → j ≤ begA l h (i + 1) → bkA l j ≠ 0) (m : Nat) (r : Bool)
    (hK : ∀ k, m ≤ k → gutterlaw14_FillEnds.l0 k l true (outA l h) ((i + 1 : Nat) : Int) = some r) (d : Nat) : ∀ (k j : Nat), begA l h i < j → begA l h (i + 1) - j = d → m + d + 1 ≤ k →
    gutterlaw14_FillEnds.l1 k l true (outA l h) (i : Int) (j : Int) = some r := by
  have hb := beg_lt l h i hi
  have hfl := fill_len l h
  induction d with
  | zero =>
    intro k j h0 hd hk
    obtain ⟨k, rfl⟩ : ∃ m, k = m + 1 := ⟨k - 1, by omega⟩
    simp only [gutterlaw14_FillEnds.l1]
    rw [rd_out l h i hi]
    simp only [out_len]
    rw [if_pos (by omega), if_pos (by omega), if_neg (by omega), wrap64_succ (n := (fillA l h).length) (by omega) (by omega) (by omega), show ((i : Int) + 1) = ((i + 1 : Nat) : Int) by push_cast; rfl]
    exact hK k (by omega)
  | succ d ih =>
    intro k j h0 hd hk
    obtain ⟨k, rfl⟩ : ∃ m, k = m + 1 := ⟨k - 1, by omega⟩
    simp only [gutterlaw14_FillEnds.l1]
    rw [rd_out l h i hi]
    simp only [out_len]
    have hne : ¬ (atA l j).f4 = 0 := hend j h0 (by omega)
    rw [if_pos (by omega), if_pos (by omega), if_pos (by omega), if_pos (by omega), if_pos (by omega), rd_32, if_neg hne, wrap64_succ (n := l.length) (by omega) (by omega) (by omega), show ((j : Int) + 1) = ((j + 1 : Nat) : Int) by push_cast; rfl]
    exact ih k (j + 1) (by omega) (by omega) (by omega)

theorem ends_l0 (l : List S32) (hn : l.length ≤ 2000) (h : Int) (d : Nat) : ∀ (k i : Nat), i ≤ (fillA l h).length → (fillA l h).length - i = d → d * (l.length + 3) + 1 ≤ k →
    gutterlaw14_FillEnds.l0 k l true (outA l h) (i : Int) = some true := by
  have hfl := fill_len l h
  induction d with
  | zero =>
    intro k i h0 hd hk
    obtain ⟨k, rfl⟩ : ∃ m, k = m + 1 := ⟨k - 1, by omega⟩
    simp only [gutterlaw14_FillEnds.l0]
    rw [w64 (by omega), if_neg (by rw [out_len]; omega)]
  | succ d ih =>
    intro k i h0 hd hk
    rw [Nat.succ_mul] at hk
    obtain ⟨k, rfl⟩ : ∃ m, k = m + 1 + 1 := ⟨k - 2, by omega⟩
    have hlt : i < (fillA l h).length := by omega
    simp only [gutterlaw14_FillEnds.l0]
    rw [w64 (by omega), rd_out l h i hlt]
    simp only [out_len]
    by_cases hlast : (i : Int) + 1 < ((fillA l h).length : Int)
    · have hb := beg_lt l h i hlt
      have hb2 := (fill_lt l h (i + 1)).1 (by omega)
      rw [if_pos hlast, if_pos (by omega), if_pos (by omega), if_neg (by omega)]
      have hdec : decide ((begA l h (i + 1) : Int) ≥ (l.length : Int)) = false := decide_eq_false (by omega)
      rw [hdec]
      simp only [gutterlaw14_FillEnds.j1]
      rw [rd_out l h i hlt]
      simp only [out_len]
      rw [if_neg (by simp), if_pos (by omega), if_pos (by omega), if_pos (by omega), if_pos (by omega), rd_32]
      by_cases h1 : (atA l (begA l h (i + 1))).f4 = 1
      · rw [if_pos h1, w64 (by omega), show ((begA l h i : Int) + 1) = ((begA l h i + 1 : Nat) : Int) by push_cast; rfl]
        have hs := (end_says l h (begA l h i) ((fill_lt l h i).1 hlt)).2.2
        rw [← beg_succ] at hs
        have hbk : bkA l (begA l h (i + 1)) = 1 := h1
        have hend : ∀ j, begA l h i < j → j ≤ begA l h (i + 1) → bkA l j ≠ 0 := by
          rcases hs with e | e | e | e
          · omega
          · omega
          · omega
          · exact e
        refine ends_l1 l hn h i hlt hend (d * (l.length + 3) + 1) true (fun k hk => ih k (i + 1) (by omega) (by omega) hk) _ k (begA l h i + 1) (by omega) rfl (by omega)
      · rw [if_neg h1, wrap64_succ (n := (fillA l h).length) (by omega) (by omega) (by omega), show ((i : Int) + 1) = ((i + 1 : Nat) : Int) by push_cast; rfl]
        exact ih k (i + 1) (by omega) (by omega) (by omega)
    · rw [if_neg hlast]

theorem FillEnds_true (l0 : List S32) (a1 : Int) : gutterlaw14_FillEnds.f 30000 l0 a1 = some true := by
  unfold gutterlaw14_FillEnds.f
  have hf := few_len l0
  rw [shown_f (by omega), Option.bind_some, few_f, Option.bind_some]
  unfold fill_Fill.f
  by_cases hfi : fineA (fewA l0) a1 = true
  · rw [if_pos hfi, Option.bind_some, if_pos rfl]
    have h2 := fill_len (fewA l0) a1
    have h3 : (fillA (fewA l0) a1).length * ((fewA l0).length + 3) ≤ 150 * 153 := Nat.mul_le_mul (by omega) (by omega)
    exact ends_l0 (fewA l0) (by omega) a1 _ 30000 0 (by omega) rfl (by simpa using (by omega : (fillA (fewA l0) a1).length * ((fewA l0).length + 3) + 1 ≤ 30000))
  · rw [if_neg hfi, Option.bind_some, if_neg (by simp)]

end Go.Proofs.YtjpifknencfipaaDoor.P
namespace Go.Proofs.YtjpifknencfipaaDoor.FillEndsRow
open Go
set_option maxRecDepth 100000
theorem h10 : (Rows.fillEndsRow.inPlace == Tryd.prog.inPlace 17) = true := by kernel_rfl
theorem h11 : (Rows.fillEndsRow.unfollowed == Tryd.prog.unfollowed 17) = true := by kernel_rfl
theorem h12 : (Rows.fillEndsRow.recurses == Tryd.prog.recurses 17) = true := by kernel_rfl
theorem h13 : (Rows.fillEndsRow.named == Tryd.prog.varsNamed 17) = true := by kernel_rfl
theorem g1 : (Rows.fillEndsRow.plainKeys == Tryd.prog.plainKeys) = true := Rd.g1
theorem g4 : (Rows.fillEndsRow.lifted == Tryd.prog.liftsFinal) = true := Rd.g4
theorem g5 : (Tryd.prog.make == some Rows.fillEndsRow.make) = true := Rd.g5
theorem closed : joinedFacts Tryd.prog 17 Tryd.f17 Rows.fillEndsSpec Rows.fillEndsRow = true := by
  unfold joinedFacts
  rw [Rd.f2, Rd.f3, Rd.f7, Rd.f9, h10, h11, h12, h13, g1, Rd.g2, Rd.g3, g4, g5]
  kernel_rfl
end Go.Proofs.YtjpifknencfipaaDoor.FillEndsRow

namespace Go.Proofs.YtjpifknencfipaaDoor.FillEndsRow
open Go.ChangeShapes Go.WideShapes Go.ChangeAt Go.RowKit Go.Proofs.YtjpifknencfipaaDoor Go.Proofs.YtjpifknencfipaaDoor.P
set_option maxRecDepth 100000 in
theorem lifted (os : Os) (started : os.Started) (H : Type) (enc : TypeId × Value → H) :
    ReturnsInHanded {} Tryd.checked os 17 .any (fun w args => (Rows.fillEndsSpec.pre enc Tryd.prog Tryd.f17 [] false w args ∧ laidMetH Tryd.prog R.L1 w) ∧ sizedMet enc Tryd.prog Tryd.f17 (OpenSpec.ofChange Rows.fillEndsSpec) false w args)
      (Rows.fillEndsSpec.post enc Tryd.prog Tryd.f17 false true false false) := by
  refine returnsInHanded_of_change_and (C := Tryd.checked) (X := fun w _ => laidMetH Tryd.prog R.L1 w) (fun _ _ _ hh h => h.of_heap hh) R.own started (by kernel_rfl) Tryd.func17
    (ChangeSpec.witness_at (enc := enc) (C := Tryd.checked) (os := os) (X := fun w _ => laidMetH Tryd.prog R.L1 w) false (World.laidAll Tryd.prog os R.L1) #[.slice none 0 0, .int .i64 0] 8 rfl (by kernel_rfl) (by kernel_rfl) (by kernel_rfl) (by kernel_rfl) (by kernel_rfl) (R.met1 os _)) ?_
  intro W base args ds gs before hval0 hW _ _ hL _
  have hval : ∀ (j : Nat) t v, Tryd.f17.params[j]? = some t → args[j]? = some v → Value.okWide Tryd.prog W .any base t v := hval0
  have hW' := hW
  obtain ⟨p, q, hA0, hV, rfl, hfz, hnd⟩ := hW
  have hA : DataW.TrodAll enc Tryd.prog W 0 (fun _ => true) true Tryd.f17.params.toList args.toList ds p := hA0
  rw [Tryd.params17] at hA hval
  obtain ⟨v0, vs0, d0, ds0, p0, q0, hargs, rfl, rfl, h0, r0⟩ := trodAll_cons hA
  obtain ⟨v1, vs1, d1, ds1, p1, q1, rfl, rfl, rfl, h1, r1⟩ := trodAll_cons r0
  obtain ⟨rfl, rfl, rfl⟩ := trodAll_nil r1
  obtain rfl : args = #[v0, v1] := by cases args; simp_all
  obtain ⟨rfl, rfl⟩ := trodVars_none hV
  obtain ⟨A0, len0, cap0, rfl⟩ := okWide_slice Tryd.underlying22 (hval 0 22 v0 rfl rfl)
  have k0 := h0
  have lt0 : ∀ x ∈ p0, x.block < W.heap.size := by obtain ⟨m, hm⟩ := k0; exact DataW.trod_lt m _ _ _ hm
  obtain ⟨l0, e0, c0, K0⟩ := R.atoms_in h0
  subst e0
  obtain ⟨a1, rfl, rfl, rfl, w1⟩ := open_int Tryd.underlying2 (hval 1 2 v1 rfl rfl) h1
  refine (gutterlaw14_FillEnds.calls (30000) _ _ l0 a1 true W K0 c0 (R.gl1 hL) (FillEnds_true l0 a1)).mono fun e W' ⟨he, bel⟩ => ?_
  subst he
  exact ⟨_, rfl, _, _, _, [], _, [], hW', trodAll_mk1 (shut_bool Tryd.underlying4 _), (trodAll_cons_mk (Below.trod R.laidOut (by kernel_rfl) (of_decide_eq_true (by kernel_rfl)) k0 bel lt0) (trodAll_cons_mk (shut_int Tryd.underlying2 w1) trodAll_mk0)), rfl, bel.frame _, fun h => by cases h⟩
set_option maxRecDepth 100000
theorem named : Tryd.prog.funcNamed Rows.fillEndsRow.func = some 17 := by kernel_rfl
theorem inst : Tryd.f17.isInstance Tryd.prog Rows.fillEndsRow.origin Rows.fillEndsRow.targs := of_decide_eq_true (by kernel_rfl)
theorem wrap : Tryd.f17.isWrapper Tryd.prog Rows.fillEndsRow.wrapper Rows.fillEndsRow.mainSum := by unfold Func.isWrapper; first | (rw [if_pos (by decide +kernel)]; kernel_rfl) | (rw [if_neg (by decide +kernel)]; exact ⟨rfl, rfl⟩)
theorem goes : false = Rows.fillEndsRow.goesBy Tryd.pinned.checked.prog := by kernel_rfl
theorem byText : Rows.fillEndsRow.wfByText (OpenSpec.ofChange Rows.fillEndsSpec) = true := by kernel_rfl
theorem over : Rows.FillEndsSaid :=
  OpenClaim.holds_of_wide 17 Tryd.f17 rfl rfl rfl rfl rfl rfl rfl ⟨rfl, rfl, rfl, rfl, rfl⟩ rfl rfl rfl rfl rfl named Tryd.func17 closed inst wrap
    (fun os started H enc _ => lifted os started H enc)
theorem noStand : ∀ (j : Nat) (t : TypeId), Tryd.f17.params[j]? = some t → Tryd.prog.wantsStandIn t = false := by
  intro j t ht
  rw [Tryd.params17] at ht
  have h3 : t = 2 ∨ t = 22 := by
    match j, ht with
    | 0, ht => cases ht; simp
    | 1, ht => cases ht; simp
    | j + 2, ht => simp at ht
  rcases h3 with rfl | rfl
  · exact R.stand2
  · exact R.stand22
end Go.Proofs.YtjpifknencfipaaDoor.FillEndsRow
namespace Go.Proofs.YtjpifknencfipaaDoor
open Go
/-- The tied card. -/
theorem fillEnds_card : Rows.FillEndsCardSaid :=
  Claim7.holds_tied_plain_at .later [] [.sentinel] true (true, "b9d29a5a8ac8ffd65bd7abf0387edf791e422c0f8ec1e9ac251d4174caa9c425") true
    FillEndsRow.over (fun _ h => by cases h) FillEndsRow.byText (fun _ h => by cases h) fillEnds_row_tie rfl ⟨rfl, rfl⟩ R.mainFact rfl
    (fun f fn hf hfn => by
      obtain rfl : f = 17 := (Option.some.inj (FillEndsRow.named.symm.trans hf)).symm
      obtain rfl : fn = Tryd.f17 := (Option.some.inj (Tryd.func17.symm.trans hfn)).symm
      exact ⟨R.looksFact, FillEndsRow.noStand⟩)
    FillEndsRow.goes
#print axioms fillEnds_card
end Go.Proofs.YtjpifknencfipaaDoor
