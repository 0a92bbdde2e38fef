/- The law RowAll answers true, whatever comes in, and leaves what came in as it was: the row and the tied card. Conditions: none. -/
import Derived.Test.YtjpifknencfipaaDoorRows
import Derived.Test.YtjpifknencfipaaDoorTie
import Derived.Test.YtjpifknencfipaaDoorCards
import Derived.Test.YtjpifknencfipaaDoorRw
import Derived.Test.YtjpifknencfipaaDoorRd
import Derived.Test.YtjpifknencfipaaDoorLh
import Derived.Test.YtjpifknencfipaaDoorP10
import Derived.WalkKit
import Derived.ProofKit
import Derived.OpenShut
import Derived.ChangeOld
import Derived.Below
import Derived.SizedLaws
import Derived.JoinedOf
import Derived.ChangeVars
import Derived.SevenTiedAt
import Derived.Stop.Joined
set_option linter.unusedVariables false
set_option linter.unusedSimpArgs false
namespace Go.Proofs.YtjpifknencfipaaDoor.P
open Go.RowKit Go.Proofs.YtjpifknencfipaaDoorW.PrintWords Go.Proofs.YtjpifknencfipaaDoorW.PrintLast Go.Proofs.YtjpifknencfipaaDoorW.PrintMore

theorem all17_l0 (l : List S32) (hr : rightA l = true) (hn : l.length ≤ 40) (w gap h : Int) (hw : 0 ≤ w ∧ w ≤ 1048576) (hg : 0 ≤ gap ∧ gap ≤ 1048576) (rh : Int) (d : Nat) : ∀ (k i : Nat), l.length - i = d → i ≤ l.length → 3 * d < k →
    gutterlaw17_RowAll.l0 k l w gap true (i : Int) rh ((fillA l h).length : Int) (rowA l w gap 0 (fillA l h)) = some true := by
  induction d with
  | zero =>
    intro k i hd hi hk
    obtain ⟨k, rfl⟩ : ∃ m, k = m + 1 := ⟨k - 1, by omega⟩
    simp only [gutterlaw17_RowAll.l0]
    rw [if_neg (by omega), if_pos trivial, fill_none l h]
    simp
  | succ d ih =>
    intro k i hd hi hk
    obtain ⟨k, rfl⟩ : ∃ m, k = m + 3 := ⟨k - 3, by omega⟩
    have hlt : i < l.length := by omega
    have hin := rowF_in l h i hlt
    have hfl := fill_len l h
    have htr := top_range hr h i hlt
    have hh := hh_of hr i hlt
    have hmul : (0 : Int) ≤ (colF l h i : Int) * (w + gap) ∧ (colF l h i : Int) * (w + gap) ≤ 200 * 2097152 := by
      have h1 : (0 : Int) ≤ (colF l h i : Int) := by omega
      have h2 : (0 : Int) ≤ w + gap := by omega
      exact ⟨Int.mul_nonneg h1 h2, Int.mul_le_mul (by omega) (by omega) h2 (by omega)⟩
    have nx : gutterlaw17_RowAll.l0 k l w gap true (wrap64 ((i : Int) + 1)) rh ((fillA l h).length : Int) (rowA l w gap 0 (fillA l h)) = some true := by
      rw [w64 (x := (i : Int) + 1) (by omega), show ((i : Int) + 1) = ((i + 1 : Nat) : Int) by push_cast; rfl]
      exact ih k (i + 1) (by omega) (by omega) (by omega)
    simp only [gutterlaw17_RowAll.l0]
    rw [piece l w gap h i hlt, rd_32, rowF_len, if_pos (by omega), if_pos (by omega), if_pos (by omega), if_pos rfl, if_pos rfl, if_pos rfl, if_pos rfl, w64 (x := w + gap) (by omega), w64 (by simp only; omega), if_pos rfl, if_neg (by simp only; omega)]
    simp only
    rw [decide_eq_false (show ¬ topF l h i < 0 by omega)]
    simp only [gutterlaw17_RowAll.j1]
    rw [if_neg (by simp)]
    have hj2 : ∀ e : Bool, e = false → gutterlaw17_RowAll.j2 (k + 1) l w gap true (i : Int) e rh ((fillA l h).length : Int) (rowA l w gap 0 (fillA l h)) (atA l i).f0 (atA l i).f1 (colF l h i : Int) ((colF l h i : Int) * (w + gap)) (topF l h i) w (atA l i).f2 = some true := by
      rintro e rfl
      simp only [gutterlaw17_RowAll.j2]
      rw [if_neg (by simp)]
      by_cases h0 : 0 < i
      · rw [if_pos (by omega), w64 (x := (i : Int) - 1) (by omega), if_pos (by omega), rowF_len, if_pos (by omega), show ((i : Int) - 1) = ((i - 1 : Nat) : Int) by omega, piece l w gap h (i - 1) (by omega), rd_32]
        simp only
        rcases rowF_next l h i h0 hlt with ⟨e1, e2⟩ | ⟨e1, e2⟩
        · have hin' := rowF_in l h (i - 1) (by omega)
          have hne : begF l h i ≠ i := by omega
          have ht := htr.2.2.2 hne
          have hru := hi_range hr (begF l h i) i (by omega) (by omega)
          have hp : topF l h (i - 1) + hhA l (i - 1) = hiA l (begF l h i) i := by
            unfold topF
            rw [← e2, show i - 1 + 1 = i by omega]
            omega
          have hp' : topF l h (i - 1) + (atA l (i - 1)).f2 = hiA l (begF l h i) i := hp
          have hs' : spA l i = (atA l i).f3 := rfl
          rw [if_pos (by omega), if_pos (by omega), if_pos (by omega), hp', w64 (x := hiA l (begF l h i) i) (by omega), ← hs', w64 (by omega), if_pos ht]
          exact nx
        · rw [if_neg (by omega)]
          exact nx
      · rw [if_neg (by omega)]
        exact nx
    by_cases h0 : 0 < i
    · rw [if_neg (by omega), if_pos (by omega), w64 (x := (i : Int) - 1) (by omega), if_pos (by omega), rowF_len, if_pos (by omega), show ((i : Int) - 1) = ((i - 1 : Nat) : Int) by omega, piece l w gap h (i - 1) (by omega)]
      simp only
      rcases rowF_next l h i h0 hlt with ⟨e1, e2⟩ | ⟨e1, e2⟩
      · rw [if_pos (by omega)]
        exact hj2 _ rfl
      · have hin' := rowF_in l h (i - 1) (by omega)
        rw [if_neg (by omega), w64 (by omega), if_pos (by omega)]
        exact hj2 _ (by rw [htr.2.2.1 e2]; rfl)
    · have hz := rowF_zero l h (by omega)
      obtain rfl : i = 0 := by omega
      rw [if_pos (by omega), if_pos (by rw [hz.1]; rfl), if_neg (by omega)]
      exact hj2 _ rfl

theorem RowAll_true (l0 : List S32) (a1 a2 a3 a4 : Int) (a5 : Bool) : gutterlaw17_RowAll.f 1000 l0 a1 a2 a3 a4 a5 = some true := by
  unfold gutterlaw17_RowAll.f
  have hf := fewR_len l0
  rw [shown17 (by omega), Option.bind_some, few17_f, Option.bind_some]
  generalize fewR l0 = l at hf
  by_cases ho : layOkA l a1 a2 a3 a4 = true
  · obtain ⟨hr, h0, h1, _, _, _, w0, w1, g0, g1⟩ := lay_right ho
    rw [lay_ok a5 ho, Option.bind_some, if_pos rfl]
    simp only
    rw [if_pos (by rw [rowF_len])]
    exact all17_l0 l hr hf a2 a3 _ ⟨w0, w1⟩ ⟨g0, g1⟩ _ l.length 1000 0 (by omega) (by omega) (by omega)
  · rw [lay_bad a5 ho, Option.bind_some, if_neg (by simp), if_pos rfl]
    rfl

end Go.Proofs.YtjpifknencfipaaDoor.P
namespace Go.Proofs.YtjpifknencfipaaDoor.RowAllRow
open Go
set_option maxRecDepth 100000
theorem h10 : (Rows.rowAllRow.inPlace == Tryd.prog.inPlace 10) = true := by kernel_rfl
theorem h11 : (Rows.rowAllRow.unfollowed == Tryd.prog.unfollowed 10) = true := by kernel_rfl
theorem h12 : (Rows.rowAllRow.recurses == Tryd.prog.recurses 10) = true := by kernel_rfl
theorem h13 : (Rows.rowAllRow.named == Tryd.prog.varsNamed 10) = true := by kernel_rfl
theorem g1 : (Rows.rowAllRow.plainKeys == Tryd.prog.plainKeys) = true := Rd.g1
theorem g4 : (Rows.rowAllRow.lifted == Tryd.prog.liftsFinal) = true := Rd.g4
theorem g5 : (Tryd.prog.make == some Rows.rowAllRow.make) = true := Rd.g5
theorem closed : joinedFacts Tryd.prog 10 Tryd.f10 Rows.rowAllSpec Rows.rowAllRow = true := by
  unfold joinedFacts
  rw [Rd.f2, Rd.f3, Rd.f7, Rd.f9, h10, h11, h12, h13, g1, Rd.g2, Rd.g3, g4, g5]
  kernel_rfl
end Go.Proofs.YtjpifknencfipaaDoor.RowAllRow

namespace Go.Proofs.YtjpifknencfipaaDoor.RowAllRow
open Go.ChangeShapes Go.WideShapes Go.ChangeAt Go.RowKit Go.Proofs.YtjpifknencfipaaDoor Go.Proofs.YtjpifknencfipaaDoor.P
set_option maxRecDepth 100000 in
theorem lifted (os : Os) (started : os.Started) (H : Type) (enc : TypeId × Value → H) :
    ReturnsInHanded {} Tryd.checked os 10 .any (fun w args => (Rows.rowAllSpec.pre enc Tryd.prog Tryd.f10 [] false w args ∧ laidMetH Tryd.prog R.L3 w) ∧ sizedMet enc Tryd.prog Tryd.f10 (OpenSpec.ofChange Rows.rowAllSpec) false w args)
      (Rows.rowAllSpec.post enc Tryd.prog Tryd.f10 false true false false) := by
  refine returnsInHanded_of_change_and (C := Tryd.checked) (X := fun w _ => laidMetH Tryd.prog R.L3 w) (fun _ _ _ hh h => h.of_heap hh) R.own started (by kernel_rfl) Tryd.func10
    (ChangeSpec.witness_at (enc := enc) (C := Tryd.checked) (os := os) (X := fun w _ => laidMetH Tryd.prog R.L3 w) false (World.laidAll Tryd.prog os R.L3) #[.slice none 0 0, .int .i64 0, .int .i64 0, .int .i64 0, .int .i64 0, .bool false] 8 rfl (by kernel_rfl) (by kernel_rfl) (by kernel_rfl) (by kernel_rfl) (by kernel_rfl) (R.met3 os _)) ?_
  intro W base args ds gs before hval0 hW _ _ hL _
  have hval : ∀ (j : Nat) t v, Tryd.f10.params[j]? = some t → args[j]? = some v → Value.okWide Tryd.prog W .any base t v := hval0
  have hW' := hW
  obtain ⟨p, q, hA0, hV, rfl, hfz, hnd⟩ := hW
  have hA : DataW.TrodAll enc Tryd.prog W 0 (fun _ => true) true Tryd.f10.params.toList args.toList ds p := hA0
  rw [Tryd.params10] at hA hval
  obtain ⟨v0, vs0, d0, ds0, p0, q0, hargs, rfl, rfl, h0, r0⟩ := trodAll_cons hA
  obtain ⟨v1, vs1, d1, ds1, p1, q1, rfl, rfl, rfl, h1, r1⟩ := trodAll_cons r0
  obtain ⟨v2, vs2, d2, ds2, p2, q2, rfl, rfl, rfl, h2, r2⟩ := trodAll_cons r1
  obtain ⟨v3, vs3, d3, ds3, p3, q3, rfl, rfl, rfl, h3, r3⟩ := trodAll_cons r2
  obtain ⟨v4, vs4, d4, ds4, p4, q4, rfl, rfl, rfl, h4, r4⟩ := trodAll_cons r3
  obtain ⟨v5, vs5, d5, ds5, p5, q5, rfl, rfl, rfl, h5, r5⟩ := trodAll_cons r4
  obtain ⟨rfl, rfl, rfl⟩ := trodAll_nil r5
  obtain rfl : args = #[v0, v1, v2, v3, v4, v5] := by cases args; simp_all
  obtain ⟨rfl, rfl⟩ := trodVars_none hV
  obtain ⟨A0, len0, cap0, rfl⟩ := okWide_slice Tryd.underlying22 (hval 0 22 v0 rfl rfl)
  have k0 := h0
  have lt0 : ∀ x ∈ p0, x.block < W.heap.size := by obtain ⟨m, hm⟩ := k0; exact DataW.trod_lt m _ _ _ hm
  obtain ⟨l0, e0, c0, K0⟩ := R.atoms_in h0
  subst e0
  obtain ⟨a1, rfl, rfl, rfl, w1⟩ := open_int Tryd.underlying3 (hval 1 3 v1 rfl rfl) h1
  obtain ⟨a2, rfl, rfl, rfl, w2⟩ := open_int Tryd.underlying2 (hval 2 2 v2 rfl rfl) h2
  obtain ⟨a3, rfl, rfl, rfl, w3⟩ := open_int Tryd.underlying2 (hval 3 2 v3 rfl rfl) h3
  obtain ⟨a4, rfl, rfl, rfl, w4⟩ := open_int Tryd.underlying2 (hval 4 2 v4 rfl rfl) h4
  obtain ⟨a5, rfl, rfl, rfl⟩ := open_bool Tryd.underlying4 (hval 5 4 v5 rfl rfl) h5
  refine (gutterlaw17_RowAll.callsT (1000) _ _ l0 a1 a2 a3 a4 a5 true W K0 c0 (R.gl3 hL) (RowAll_true l0 a1 a2 a3 a4 a5) rfl).mono fun e W' ⟨he, bel⟩ => ?_
  subst he
  exact ⟨_, rfl, _, _, _, [], _, [], hW', trodAll_mk1 (shut_bool Tryd.underlying4 _), (trodAll_cons_mk (Below.trod R.laidOut (by kernel_rfl) (of_decide_eq_true (by kernel_rfl)) k0 bel lt0) (trodAll_cons_mk (shut_int Tryd.underlying3 w1) (trodAll_cons_mk (shut_int Tryd.underlying2 w2) (trodAll_cons_mk (shut_int Tryd.underlying2 w3) (trodAll_cons_mk (shut_int Tryd.underlying2 w4) (trodAll_cons_mk (shut_bool Tryd.underlying4 _) trodAll_mk0)))))), rfl, bel.frame _, fun h => by cases h⟩
set_option maxRecDepth 100000
theorem named : Tryd.prog.funcNamed Rows.rowAllRow.func = some 10 := by kernel_rfl
theorem inst : Tryd.f10.isInstance Tryd.prog Rows.rowAllRow.origin Rows.rowAllRow.targs := of_decide_eq_true (by kernel_rfl)
theorem wrap : Tryd.f10.isWrapper Tryd.prog Rows.rowAllRow.wrapper Rows.rowAllRow.mainSum := by unfold Func.isWrapper; first | (rw [if_pos (by decide +kernel)]; kernel_rfl) | (rw [if_neg (by decide +kernel)]; exact ⟨rfl, rfl⟩)
theorem goes : false = Rows.rowAllRow.goesBy Tryd.pinned.checked.prog := by kernel_rfl
theorem byText : Rows.rowAllRow.wfByText (OpenSpec.ofChange Rows.rowAllSpec) = true := by kernel_rfl
theorem over : Rows.RowAllSaid :=
  OpenClaim.holds_of_wide 10 Tryd.f10 rfl rfl rfl rfl rfl rfl rfl ⟨rfl, rfl, rfl, rfl, rfl⟩ rfl rfl rfl rfl rfl named Tryd.func10 closed inst wrap
    (fun os started H enc _ => lifted os started H enc)
theorem noStand : ∀ (j : Nat) (t : TypeId), Tryd.f10.params[j]? = some t → Tryd.prog.wantsStandIn t = false := by
  intro j t ht
  rw [Tryd.params10] at ht
  have h3 : t = 2 ∨ t = 3 ∨ t = 4 ∨ t = 22 := by
    match j, ht with
    | 0, ht => cases ht; simp
    | 1, ht => cases ht; simp
    | 2, ht => cases ht; simp
    | 3, ht => cases ht; simp
    | 4, ht => cases ht; simp
    | 5, ht => cases ht; simp
    | j + 6, ht => simp at ht
  rcases h3 with rfl | rfl | rfl | rfl
  · exact R.stand2
  · exact R.stand3
  · exact R.stand4
  · exact R.stand22
end Go.Proofs.YtjpifknencfipaaDoor.RowAllRow
namespace Go.Proofs.YtjpifknencfipaaDoor
open Go
/-- The tied card. -/
theorem rowAll_card : Rows.RowAllCardSaid :=
  Claim7.holds_tied_plain_at .later [] [.sentinel, .sentinel, .sentinel] true (true, "b9d29a5a8ac8ffd65bd7abf0387edf791e422c0f8ec1e9ac251d4174caa9c425") true
    RowAllRow.over (fun _ h => by cases h) RowAllRow.byText (fun _ h => by cases h) rowAll_row_tie rfl ⟨rfl, rfl⟩ R.mainFact rfl
    (fun f fn hf hfn => by
      obtain rfl : f = 10 := (Option.some.inj (RowAllRow.named.symm.trans hf)).symm
      obtain rfl : fn = Tryd.f10 := (Option.some.inj (Tryd.func10.symm.trans hfn)).symm
      exact ⟨R.looksFact, RowAllRow.noStand⟩)
    RowAllRow.goes
#print axioms rowAll_card
end Go.Proofs.YtjpifknencfipaaDoor
