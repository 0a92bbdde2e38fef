/- The law BandTells answers true, whatever comes in, and leaves what came in as it was: the row and the tied card. Conditions: none. -/
import Derived.Test.YtomgpbhkoellpaaDoorRows
import Derived.Test.YtomgpbhkoellpaaDoorTie
import Derived.Test.YtomgpbhkoellpaaDoorCards
import Derived.Test.YtomgpbhkoellpaaDoorRw
import Derived.Test.YtomgpbhkoellpaaDoorRd
import Derived.Test.YtomgpbhkoellpaaDoorLa
import Derived.Test.YtomgpbhkoellpaaDoorP24
import Derived.Test.YtomgpbhkoellpaaDoorP26
import Derived.Test.YtomgpbhkoellpaaDoorP5
import Derived.WalkKit
import Derived.ProofKit
import Derived.OpenShut
import Derived.ChangeOld
import Derived.Below
import Derived.SizedLaws
import Derived.JoinedOf
import Derived.ChangeVars
import Derived.SevenTiedAt
import Derived.Stop.Joined
set_option linter.unusedVariables false
set_option linter.unusedSimpArgs false
namespace Go.Proofs.YtomgpbhkoellpaaDoor.P
open Go.RowKit Go.Proofs.YtomgpbhkoellpaaDoorW.PrintWords Go.Proofs.YtomgpbhkoellpaaDoorW.PrintLast Go.Proofs.YtomgpbhkoellpaaDoorW.PrintMore

theorem rfirst_none (l : List S24) (need : Int) (h : ¬ (0 ≤ need ∧ rightD l = true)) (hn : l.length ≤ 1000) {k : Nat} (hk : l.length + 3 < k) : gutterref03_First.f k l need = some (0, false) := by
  obtain ⟨k, rfl⟩ : ∃ m, k = m + 2 := ⟨k - 2, by omega⟩
  unfold gutterref03_First.f
  simp only [gutterref03_First.l0, gutterref03_First.j1]
  split
  · split
    · next h1 => rw [rright_f l (by omega) (by omega), Option.bind_some, if_neg (fun e => h ⟨by omega, e⟩)]
    · rw [if_neg (by simp)]
  · rw [if_neg (by simp)]
theorem rfirst_l0 (l : List S24) (need : Int) (h0 : 0 ≤ need) (hr : rightD l = true) (hn : l.length ≤ 1000) (d : Nat) : ∀ (k i : Nat), l.length - i = d → l.length + 2 * d + 4 < k → i ≤ l.length →
    gutterref03_First.l0 k l need (i : Int) = some (match (l.drop i).find? (fun x => decide (need ≤ x.f1 - x.f0)) with | some x => (x.f0, true) | none => (0, false)) := by
  have hs := right_mem ((rightD_iff l).1 hr)
  induction d with
  | zero =>
    intro k i hd hk hi
    obtain ⟨k, rfl⟩ : ∃ m, k = m + 2 := ⟨k - 2, by omega⟩
    simp only [gutterref03_First.l0, gutterref03_First.j1]
    rw [if_neg (by omega), List.drop_eq_nil_of_le (by omega), if_neg (by simp)]
    rfl
  | succ d ih =>
    intro k i hd hk hi
    obtain ⟨k, rfl⟩ : ∃ m, k = m + 2 := ⟨k - 2, by omega⟩
    simp only [gutterref03_First.l0, gutterref03_First.j1]
    have hx : spanB (l.getD i z24) := hs _ (by
      rw [List.getD_eq_getElem?_getD, List.getElem?_eq_getElem (by omega)]
      exact List.getElem_mem (by omega))
    unfold spanB at hx
    rw [if_pos (by omega), if_pos h0, rright_f l (by omega) (by omega), Option.bind_some, if_pos hr, if_pos (by omega), if_pos (by omega), rd_24, w64 (by omega), w64 (by omega), show ((i : Int) + 1) = ((i + 1 : Nat) : Int) by push_cast; rfl, ih k (i + 1) (by omega) (by omega) (by omega), drop_24 l i (by omega)]
    by_cases q : need ≤ (l.getD i z24).f1 - (l.getD i z24).f0
    · rw [if_pos q, List.find?_cons_of_pos (by simpa using q)]
    · rw [if_neg q, List.find?_cons_of_neg (by simpa using q)]
theorem rfirst_f (l : List S24) (need : Int) (hn : l.length ≤ 1000) {k : Nat} (hk : 3 * l.length + 4 < k) : gutterref03_First.f k l need = some (firstB l need) := by
  unfold firstB
  by_cases h : 0 ≤ need ∧ rightD l = true
  · rw [if_pos h]
    exact rfirst_l0 l need h.1 h.2 hn l.length k 0 (by omega) (by omega) (Nat.zero_le _)
  · rw [if_neg h]
    exact rfirst_none l need h hn (by omega)
theorem rtotal_l0 (l : List S24) (hr : rightD l = true) (hn : l.length ≤ 1000) (d : Nat) : ∀ (k i : Nat) (n : Int), l.length - i = d → l.length + d + 2 < k → i ≤ l.length → 0 ≤ n → n ≤ 2147483648 * (i : Int) →
    gutterref03_Total.l0 k l n (i : Int) = some (n + lenB (l.drop i)) := by
  have hs := right_mem ((rightD_iff l).1 hr)
  induction d with
  | zero =>
    intro k i n hd hk hi h0 h1
    obtain ⟨k, rfl⟩ : ∃ m, k = m + 1 := ⟨k - 1, by omega⟩
    simp only [gutterref03_Total.l0]
    rw [if_neg (by omega), List.drop_eq_nil_of_le (by omega)]
    simp [lenB]
  | succ d ih =>
    intro k i n hd hk hi h0 h1
    obtain ⟨k, rfl⟩ : ∃ m, k = m + 1 := ⟨k - 1, by omega⟩
    simp only [gutterref03_Total.l0]
    have hx : spanB (l.getD i z24) := hs _ (by
      rw [List.getD_eq_getElem?_getD, List.getElem?_eq_getElem (by omega)]
      exact List.getElem_mem (by omega))
    unfold spanB at hx
    rw [if_pos (by omega), rright_f l (by omega) (by omega), Option.bind_some, if_pos hr, if_pos (by omega), rd_24, w64 (x := n + _) (by omega), w64 (by omega), w64 (by omega), show ((i : Int) + 1) = ((i + 1 : Nat) : Int) by push_cast; rfl, ih k (i + 1) _ (by omega) (by omega) (by omega) (by omega) (by omega), drop_24 l i (by omega), lenB_cons]
    congr 1
    omega
theorem rtotal_f (l : List S24) (hn : l.length ≤ 1000) {k : Nat} (hk : 2 * l.length + 2 < k) : gutterref03_Total.f k l = some (if rightD l = true then lenB l else 0) := by
  by_cases h : rightD l = true
  · rw [if_pos h]
    have := rtotal_l0 l h hn l.length k 0 0 (by omega) (by omega) (Nat.zero_le _) (by omega) (by omega)
    rw [List.drop_zero, Int.zero_add] at this
    exact this
  · rw [if_neg h]
    obtain ⟨k, rfl⟩ : ∃ m, k = m + 1 := ⟨k - 1, by omega⟩
    unfold gutterref03_Total.f
    simp only [gutterref03_Total.l0]
    rw [rright_f l (by omega) (by omega), Option.bind_some, if_neg h]
    split <;> rfl

theorem BandTells_true (l0 l1 : List S24) (a2 : Int) : gutterlaw03_BandTells.f 4000 l0 l1 a2 = some true := by
  unfold gutterlaw03_BandTells.f
  have hn := few3_len l0
  have hn' := few3_len l1
  rw [shown3 (by omega), Option.bind_some, few3_f, Option.bind_some, few3_f, Option.bind_some]
  generalize few3 l0 = l at hn
  generalize few3 l1 = m at hn'
  have e1 : band_First.f l a2 = some (firstB l a2) := by
    unfold band_First.f
    rw [if_pos (by omega)]
  have e2 : band_Total.f l = some (if rightD l = true then lenB l else 0) := by
    unfold band_Total.f
    rw [if_pos (by omega)]
  rw [e1, Option.bind_some, rfirst_f l a2 (by omega) (by omega), Option.bind_some, if_pos rfl, right_f l (by omega) (by omega), Option.bind_some, rright_f l (by omega) (by omega), Option.bind_some, if_pos (by simp), e2, Option.bind_some, rtotal_f l (by omega) (by omega), Option.bind_some, if_pos rfl, if_pos rfl, if_pos (by simp),
    bsame_f l m (by omega) (by omega), Option.bind_some, rsame_f l m (by omega) (by omega), Option.bind_some, if_pos (by simp), bsame_f l l (by omega) (by omega), Option.bind_some]
  simp

end Go.Proofs.YtomgpbhkoellpaaDoor.P
namespace Go.Proofs.YtomgpbhkoellpaaDoor.BandTellsRow
open Go
set_option maxRecDepth 100000
theorem h10 : (Rows.bandTellsRow.inPlace == Tryd.prog.inPlace 5) = true := by kernel_rfl
theorem h11 : (Rows.bandTellsRow.unfollowed == Tryd.prog.unfollowed 5) = true := by kernel_rfl
theorem h12 : (Rows.bandTellsRow.recurses == Tryd.prog.recurses 5) = true := by kernel_rfl
theorem h13 : (Rows.bandTellsRow.named == Tryd.prog.varsNamed 5) = true := by kernel_rfl
theorem g1 : (Rows.bandTellsRow.plainKeys == Tryd.prog.plainKeys) = true := Rd.g1
theorem g4 : (Rows.bandTellsRow.lifted == Tryd.prog.liftsFinal) = true := Rd.g4
theorem g5 : (Tryd.prog.make == some Rows.bandTellsRow.make) = true := Rd.g5
theorem closed : joinedFacts Tryd.prog 5 Tryd.f5 Rows.bandTellsSpec Rows.bandTellsRow = true := by
  unfold joinedFacts
  rw [Rd.f2, Rd.f3, Rd.f7, Rd.f9, h10, h11, h12, h13, g1, Rd.g2, Rd.g3, g4, g5]
  kernel_rfl
end Go.Proofs.YtomgpbhkoellpaaDoor.BandTellsRow

namespace Go.Proofs.YtomgpbhkoellpaaDoor.BandTellsRow
open Go.ChangeShapes Go.WideShapes Go.ChangeAt Go.RowKit Go.Proofs.YtomgpbhkoellpaaDoor Go.Proofs.YtomgpbhkoellpaaDoor.P
set_option maxRecDepth 100000 in
theorem lifted (os : Os) (started : os.Started) (H : Type) (enc : TypeId × Value → H) :
    ReturnsInHanded {} Tryd.checked os 5 .any (fun w args => (Rows.bandTellsSpec.pre enc Tryd.prog Tryd.f5 [] false w args ∧ laidMetH Tryd.prog R.L1 w) ∧ sizedMet enc Tryd.prog Tryd.f5 (OpenSpec.ofChange Rows.bandTellsSpec) false w args)
      (Rows.bandTellsSpec.post enc Tryd.prog Tryd.f5 false true false false) := by
  refine returnsInHanded_of_change_and (C := Tryd.checked) (X := fun w _ => laidMetH Tryd.prog R.L1 w) (fun _ _ _ hh h => h.of_heap hh) R.own started (by kernel_rfl) Tryd.func5
    (ChangeSpec.witness_at (enc := enc) (C := Tryd.checked) (os := os) (X := fun w _ => laidMetH Tryd.prog R.L1 w) false (World.laidAll Tryd.prog os R.L1) #[.slice none 0 0, .slice none 0 0, .int .i64 0] 8 rfl (by kernel_rfl) (by kernel_rfl) (by kernel_rfl) (by kernel_rfl) (by kernel_rfl) (R.met1 os _)) ?_
  intro W base args ds gs before hval0 hW _ _ hL _
  have hval : ∀ (j : Nat) t v, Tryd.f5.params[j]? = some t → args[j]? = some v → Value.okWide Tryd.prog W .any base t v := hval0
  have hW' := hW
  obtain ⟨p, q, hA0, hV, rfl, hfz, hnd⟩ := hW
  have hA : DataW.TrodAll enc Tryd.prog W 0 (fun _ => true) true Tryd.f5.params.toList args.toList ds p := hA0
  rw [Tryd.params5] at hA hval
  obtain ⟨v0, vs0, d0, ds0, p0, q0, hargs, rfl, rfl, h0, r0⟩ := trodAll_cons hA
  obtain ⟨v1, vs1, d1, ds1, p1, q1, rfl, rfl, rfl, h1, r1⟩ := trodAll_cons r0
  obtain ⟨v2, vs2, d2, ds2, p2, q2, rfl, rfl, rfl, h2, r2⟩ := trodAll_cons r1
  obtain ⟨rfl, rfl, rfl⟩ := trodAll_nil r2
  obtain rfl : args = #[v0, v1, v2] := by cases args; simp_all
  obtain ⟨rfl, rfl⟩ := trodVars_none hV
  obtain ⟨A0, len0, cap0, rfl⟩ := okWide_slice Tryd.underlying22 (hval 0 22 v0 rfl rfl)
  have k0 := h0
  have lt0 : ∀ x ∈ p0, x.block < W.heap.size := by obtain ⟨m, hm⟩ := k0; exact DataW.trod_lt m _ _ _ hm
  obtain ⟨l0, e0, c0, K0⟩ := R.spans_in h0
  subst e0
  obtain ⟨A1, len1, cap1, rfl⟩ := okWide_slice Tryd.underlying22 (hval 1 22 v1 rfl rfl)
  have k1 := h1
  have lt1 : ∀ x ∈ p1, x.block < W.heap.size := by obtain ⟨m, hm⟩ := k1; exact DataW.trod_lt m _ _ _ hm
  obtain ⟨l1, e1, c1, K1⟩ := R.spans_in h1
  subst e1
  obtain ⟨a2, rfl, rfl, rfl, w2⟩ := open_int Tryd.underlying2 (hval 2 2 v2 rfl rfl) h2
  refine (gutterlaw03_BandTells.calls (4000) _ _ l0 _ _ l1 a2 true W K0 c0 K1 c1 (R.gl1 hL) (BandTells_true l0 l1 a2)).mono fun e W' ⟨he, bel⟩ => ?_
  subst he
  exact ⟨_, rfl, _, _, _, [], _, [], hW', trodAll_mk1 (shut_bool Tryd.underlying4 _), (trodAll_cons_mk (Below.trod R.laidOut (by kernel_rfl) (of_decide_eq_true (by kernel_rfl)) k0 bel lt0) (trodAll_cons_mk (Below.trod R.laidOut (by kernel_rfl) (of_decide_eq_true (by kernel_rfl)) k1 bel lt1) (trodAll_cons_mk (shut_int Tryd.underlying2 w2) trodAll_mk0))), rfl, bel.frame _, fun h => by cases h⟩
set_option maxRecDepth 100000
theorem named : Tryd.prog.funcNamed Rows.bandTellsRow.func = some 5 := by kernel_rfl
theorem inst : Tryd.f5.isInstance Tryd.prog Rows.bandTellsRow.origin Rows.bandTellsRow.targs := of_decide_eq_true (by kernel_rfl)
theorem wrap : Tryd.f5.isWrapper Tryd.prog Rows.bandTellsRow.wrapper Rows.bandTellsRow.mainSum := by unfold Func.isWrapper; first | (rw [if_pos (by decide +kernel)]; kernel_rfl) | (rw [if_neg (by decide +kernel)]; exact ⟨rfl, rfl⟩)
theorem goes : false = Rows.bandTellsRow.goesBy Tryd.pinned.checked.prog := by kernel_rfl
theorem byText : Rows.bandTellsRow.wfByText (OpenSpec.ofChange Rows.bandTellsSpec) = true := by kernel_rfl
theorem over : Rows.BandTellsSaid :=
  OpenClaim.holds_of_wide 5 Tryd.f5 rfl rfl rfl rfl rfl rfl rfl ⟨rfl, rfl, rfl, rfl, rfl⟩ rfl rfl rfl rfl rfl named Tryd.func5 closed inst wrap
    (fun os started H enc _ => lifted os started H enc)
theorem noStand : ∀ (j : Nat) (t : TypeId), Tryd.f5.params[j]? = some t → Tryd.prog.wantsStandIn t = false := by
  intro j t ht
  rw [Tryd.params5] at ht
  have h3 : t = 2 ∨ t = 22 := by
    match j, ht with
    | 0, ht => cases ht; simp
    | 1, ht => cases ht; simp
    | 2, ht => cases ht; simp
    | j + 3, ht => simp at ht
  rcases h3 with rfl | rfl
  · exact R.stand2
  · exact R.stand22
end Go.Proofs.YtomgpbhkoellpaaDoor.BandTellsRow
namespace Go.Proofs.YtomgpbhkoellpaaDoor
open Go
/-- The tied card. -/
theorem bandTells_card : Rows.BandTellsCardSaid :=
  Claim7.holds_tied_plain_at .later [] [.sentinel] true (true, "ac9d298ba8180d8e28314710ac8d3f43303b32e2ef07f873131167b130a3c7d2") true
    BandTellsRow.over (fun _ h => by cases h) BandTellsRow.byText (fun _ h => by cases h) bandTells_row_tie rfl ⟨rfl, rfl⟩ R.mainFact rfl
    (fun f fn hf hfn => by
      obtain rfl : f = 5 := (Option.some.inj (BandTellsRow.named.symm.trans hf)).symm
      obtain rfl : fn = Tryd.f5 := (Option.some.inj (Tryd.func5.symm.trans hfn)).symm
      exact ⟨R.looksFact, BandTellsRow.noStand⟩)
    BandTellsRow.goes
#print axioms bandTells_card
end Go.Proofs.YtomgpbhkoellpaaDoor
