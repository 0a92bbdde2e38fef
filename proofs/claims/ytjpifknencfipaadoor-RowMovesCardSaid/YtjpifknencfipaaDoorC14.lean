/- The law RowMoves answers true, whatever comes in, and leaves what came in as it was: the row and the tied card. Conditions: none. -/
import Derived.Test.YtjpifknencfipaaDoorRows
import Derived.Test.YtjpifknencfipaaDoorTie
import Derived.Test.YtjpifknencfipaaDoorCards
import Derived.Test.YtjpifknencfipaaDoorRw
import Derived.Test.YtjpifknencfipaaDoorRd
import Derived.Test.YtjpifknencfipaaDoorLf
import Derived.Test.YtjpifknencfipaaDoorP14
import Derived.WalkKit
import Derived.ProofKit
import Derived.OpenShut
import Derived.ChangeOld
import Derived.Below
import Derived.SizedLaws
import Derived.JoinedOf
import Derived.ChangeVars
import Derived.SevenTiedAt
import Derived.Stop.Joined
set_option linter.unusedVariables false
set_option linter.unusedSimpArgs false
namespace Go.Proofs.YtjpifknencfipaaDoor.P
open Go.RowKit Go.Proofs.YtjpifknencfipaaDoorW.PrintWords Go.Proofs.YtjpifknencfipaaDoorW.PrintLast Go.Proofs.YtjpifknencfipaaDoorW.PrintMore

theorem rlow_l0 (l : List S58) (hn : l.length ≤ 100000) (d : Nat) : ∀ (k i : Nat) (n : Int), l.length - i = d → d < k → i ≤ l.length → gutterref17_Low.l0 k l n (i : Int) = some (lowF n (l.drop i)) := by
  induction d with
  | zero =>
    intro k i n hd hk hi
    obtain ⟨k, rfl⟩ : ∃ m, k = m + 1 := ⟨k - 1, by omega⟩
    simp only [gutterref17_Low.l0]
    rw [if_neg (by omega), List.drop_eq_nil_of_le (by omega)]
    rfl
  | succ d ih =>
    intro k i n hd hk hi
    obtain ⟨k, rfl⟩ : ∃ m, k = m + 1 := ⟨k - 1, by omega⟩
    simp only [gutterref17_Low.l0]
    rw [if_pos (by omega), if_pos (by omega), rd_58, w64 (x := (i : Int) + 1) (by omega), show ((i : Int) + 1) = ((i + 1 : Nat) : Int) by push_cast; rfl, ih k (i + 1) _ (by omega) (by omega) (by omega), drop_58 l i (by omega)]
    rfl
theorem rlow_f (l : List S58) (hn : l.length ≤ 100000) {k : Nat} (hk : l.length < k) : gutterref17_Low.f k l = some (lowF 0 l) := rlow_l0 l hn l.length k 0 0 (by omega) hk (Nat.zero_le _)
theorem rmove_f (l : List S58) (x y : Int) (hl : l.length ≤ 1000) : gutterref17_Move.f l x y = some (l.map (moveA x y)) := if_pos hl
theorem over_eq (a b : Int) (l : List S58) : row_Over.f 0 (mn (mx a (-1000)) 1000) l (mn (mx b (-1000)) 1000) = gutterref17_Over.f 0 (mn (mx a (-1000)) 1000) l (mn (mx b (-1000)) 1000) := by
  have h : ∀ x : Int, -1000 ≤ mn (mx x (-1000)) 1000 ∧ mn (mx x (-1000)) 1000 ≤ 1000 := fun x => by
    unfold mn mx
    split <;> split <;> omega
  have ha := h a
  have hb := h b
  generalize mn (mx a (-1000)) 1000 = x at ha
  generalize mn (mx b (-1000)) 1000 = y at hb
  unfold row_Over.f gutterref17_Over.f
  rw [w64 (x := x - y) (by omega)]
  unfold mx
  by_cases q : x ≤ y
  · rw [if_pos q, if_neg (by omega)]
  · rw [if_neg q, if_pos (by omega)]

theorem RowMoves_true (l0 l1 : List S58) (a2 a3 a4 a5 : Int) : gutterlaw17_RowMoves.f 1000 l0 l1 a2 a3 a4 a5 = some true := by
  unfold gutterlaw17_RowMoves.f
  have hl := pcsF_len l0
  have hm := pcsF_len l1
  rw [shown17 (by omega), Option.bind_some, pcs_f l0 (by omega), Option.bind_some, pcs_f l1 (by omega), Option.bind_some, if_pos rfl]
  generalize pcsF l0 = l at hl
  generalize pcsF l1 = m at hm
  simp only [near_f, Option.bind_some]
  generalize nearZ a2 = x
  generalize nearZ a3 = y
  rw [move_f l x y (by omega), Option.bind_some, rmove_f l x y (by omega), Option.bind_some, rsame_f _ _ (by rw [List.length_map]; omega) (by rw [List.length_map]; omega), Option.bind_some, sameF_self, decide_eq_true rfl, Bool.and_self, if_pos rfl,
    low_f l (by omega) (by omega), Option.bind_some, rlow_f l (by omega) (by omega), Option.bind_some, if_pos rfl, fsame_f l m (by omega) (by omega), Option.bind_some, rsame_f l m (by omega) (by omega), Option.bind_some, if_pos (by simp),
    fsame_self l (by omega) (by omega), Option.bind_some, if_pos rfl, over_eq]
  unfold gutterref17_Over.f
  split
  · simp
  · simp

end Go.Proofs.YtjpifknencfipaaDoor.P
namespace Go.Proofs.YtjpifknencfipaaDoor.RowMovesRow
open Go
set_option maxRecDepth 100000
theorem h10 : (Rows.rowMovesRow.inPlace == Tryd.prog.inPlace 14) = true := by kernel_rfl
theorem h11 : (Rows.rowMovesRow.unfollowed == Tryd.prog.unfollowed 14) = true := by kernel_rfl
theorem h12 : (Rows.rowMovesRow.recurses == Tryd.prog.recurses 14) = true := by kernel_rfl
theorem h13 : (Rows.rowMovesRow.named == Tryd.prog.varsNamed 14) = true := by kernel_rfl
theorem g1 : (Rows.rowMovesRow.plainKeys == Tryd.prog.plainKeys) = true := Rd.g1
theorem g4 : (Rows.rowMovesRow.lifted == Tryd.prog.liftsFinal) = true := Rd.g4
theorem g5 : (Tryd.prog.make == some Rows.rowMovesRow.make) = true := Rd.g5
theorem closed : joinedFacts Tryd.prog 14 Tryd.f14 Rows.rowMovesSpec Rows.rowMovesRow = true := by
  unfold joinedFacts
  rw [Rd.f2, Rd.f3, Rd.f7, Rd.f9, h10, h11, h12, h13, g1, Rd.g2, Rd.g3, g4, g5]
  kernel_rfl
end Go.Proofs.YtjpifknencfipaaDoor.RowMovesRow

namespace Go.Proofs.YtjpifknencfipaaDoor.RowMovesRow
open Go.ChangeShapes Go.WideShapes Go.ChangeAt Go.RowKit Go.Proofs.YtjpifknencfipaaDoor Go.Proofs.YtjpifknencfipaaDoor.P
set_option maxRecDepth 100000 in
theorem lifted (os : Os) (started : os.Started) (H : Type) (enc : TypeId × Value → H) :
    ReturnsInHanded {} Tryd.checked os 14 .any (fun w args => (Rows.rowMovesSpec.pre enc Tryd.prog Tryd.f14 [] false w args ∧ laidMetH Tryd.prog R.L3 w) ∧ sizedMet enc Tryd.prog Tryd.f14 (OpenSpec.ofChange Rows.rowMovesSpec) false w args)
      (Rows.rowMovesSpec.post enc Tryd.prog Tryd.f14 false true false false) := by
  refine returnsInHanded_of_change_and (C := Tryd.checked) (X := fun w _ => laidMetH Tryd.prog R.L3 w) (fun _ _ _ hh h => h.of_heap hh) R.own started (by kernel_rfl) Tryd.func14
    (ChangeSpec.witness_at (enc := enc) (C := Tryd.checked) (os := os) (X := fun w _ => laidMetH Tryd.prog R.L3 w) false (World.laidAll Tryd.prog os R.L3) #[.slice none 0 0, .slice none 0 0, .int .i64 0, .int .i64 0, .int .i64 0, .int .i64 0] 8 rfl (by kernel_rfl) (by kernel_rfl) (by kernel_rfl) (by kernel_rfl) (by kernel_rfl) (R.met3 os _)) ?_
  intro W base args ds gs before hval0 hW _ _ hL _
  have hval : ∀ (j : Nat) t v, Tryd.f14.params[j]? = some t → args[j]? = some v → Value.okWide Tryd.prog W .any base t v := hval0
  have hW' := hW
  obtain ⟨p, q, hA0, hV, rfl, hfz, hnd⟩ := hW
  have hA : DataW.TrodAll enc Tryd.prog W 0 (fun _ => true) true Tryd.f14.params.toList args.toList ds p := hA0
  rw [Tryd.params14] at hA hval
  obtain ⟨v0, vs0, d0, ds0, p0, q0, hargs, rfl, rfl, h0, r0⟩ := trodAll_cons hA
  obtain ⟨v1, vs1, d1, ds1, p1, q1, rfl, rfl, rfl, h1, r1⟩ := trodAll_cons r0
  obtain ⟨v2, vs2, d2, ds2, p2, q2, rfl, rfl, rfl, h2, r2⟩ := trodAll_cons r1
  obtain ⟨v3, vs3, d3, ds3, p3, q3, rfl, rfl, rfl, h3, r3⟩ := trodAll_cons r2
  obtain ⟨v4, vs4, d4, ds4, p4, q4, rfl, rfl, rfl, h4, r4⟩ := trodAll_cons r3
  obtain ⟨v5, vs5, d5, ds5, p5, q5, rfl, rfl, rfl, h5, r5⟩ := trodAll_cons r4
  obtain ⟨rfl, rfl, rfl⟩ := trodAll_nil r5
  obtain rfl : args = #[v0, v1, v2, v3, v4, v5] := by cases args; simp_all
  obtain ⟨rfl, rfl⟩ := trodVars_none hV
  obtain ⟨A0, len0, cap0, rfl⟩ := okWide_slice Tryd.underlying48 (hval 0 48 v0 rfl rfl)
  have k0 := h0
  have lt0 : ∀ x ∈ p0, x.block < W.heap.size := by obtain ⟨m, hm⟩ := k0; exact DataW.trod_lt m _ _ _ hm
  obtain ⟨l0, e0, c0, K0⟩ := R.frags_in h0
  subst e0
  obtain ⟨A1, len1, cap1, rfl⟩ := okWide_slice Tryd.underlying48 (hval 1 48 v1 rfl rfl)
  have k1 := h1
  have lt1 : ∀ x ∈ p1, x.block < W.heap.size := by obtain ⟨m, hm⟩ := k1; exact DataW.trod_lt m _ _ _ hm
  obtain ⟨l1, e1, c1, K1⟩ := R.frags_in h1
  subst e1
  obtain ⟨a2, rfl, rfl, rfl, w2⟩ := open_int Tryd.underlying2 (hval 2 2 v2 rfl rfl) h2
  obtain ⟨a3, rfl, rfl, rfl, w3⟩ := open_int Tryd.underlying2 (hval 3 2 v3 rfl rfl) h3
  obtain ⟨a4, rfl, rfl, rfl, w4⟩ := open_int Tryd.underlying3 (hval 4 3 v4 rfl rfl) h4
  obtain ⟨a5, rfl, rfl, rfl, w5⟩ := open_int Tryd.underlying3 (hval 5 3 v5 rfl rfl) h5
  refine (gutterlaw17_RowMoves.callsT (1000) _ _ l0 _ _ l1 a2 a3 a4 a5 true W K0 c0 K1 c1 (R.gl3 hL) (RowMoves_true l0 l1 a2 a3 a4 a5) rfl).mono fun e W' ⟨he, bel⟩ => ?_
  subst he
  exact ⟨_, rfl, _, _, _, [], _, [], hW', trodAll_mk1 (shut_bool Tryd.underlying4 _), (trodAll_cons_mk (Below.trod R.laidOut (by kernel_rfl) (of_decide_eq_true (by kernel_rfl)) k0 bel lt0) (trodAll_cons_mk (Below.trod R.laidOut (by kernel_rfl) (of_decide_eq_true (by kernel_rfl)) k1 bel lt1) (trodAll_cons_mk (shut_int Tryd.underlying2 w2) (trodAll_cons_mk (shut_int Tryd.underlying2 w3) (trodAll_cons_mk (shut_int Tryd.underlying3 w4) (trodAll_cons_mk (shut_int Tryd.underlying3 w5) trodAll_mk0)))))), rfl, bel.frame _, fun h => by cases h⟩
set_option maxRecDepth 100000
theorem named : Tryd.prog.funcNamed Rows.rowMovesRow.func = some 14 := by kernel_rfl
theorem inst : Tryd.f14.isInstance Tryd.prog Rows.rowMovesRow.origin Rows.rowMovesRow.targs := of_decide_eq_true (by kernel_rfl)
theorem wrap : Tryd.f14.isWrapper Tryd.prog Rows.rowMovesRow.wrapper Rows.rowMovesRow.mainSum := by unfold Func.isWrapper; first | (rw [if_pos (by decide +kernel)]; kernel_rfl) | (rw [if_neg (by decide +kernel)]; exact ⟨rfl, rfl⟩)
theorem goes : false = Rows.rowMovesRow.goesBy Tryd.pinned.checked.prog := by kernel_rfl
theorem byText : Rows.rowMovesRow.wfByText (OpenSpec.ofChange Rows.rowMovesSpec) = true := by kernel_rfl
theorem over : Rows.RowMovesSaid :=
  OpenClaim.holds_of_wide 14 Tryd.f14 rfl rfl rfl rfl rfl rfl rfl ⟨rfl, rfl, rfl, rfl, rfl⟩ rfl rfl rfl rfl rfl named Tryd.func14 closed inst wrap
    (fun os started H enc _ => lifted os started H enc)
theorem noStand : ∀ (j : Nat) (t : TypeId), Tryd.f14.params[j]? = some t → Tryd.prog.wantsStandIn t = false := by
  intro j t ht
  rw [Tryd.params14] at ht
  have h3 : t = 2 ∨ t = 3 ∨ t = 48 := by
    match j, ht with
    | 0, ht => cases ht; simp
    | 1, ht => cases ht; simp
    | 2, ht => cases ht; simp
    | 3, ht => cases ht; simp
    | 4, ht => cases ht; simp
    | 5, ht => cases ht; simp
    | j + 6, ht => simp at ht
  rcases h3 with rfl | rfl | rfl
  · exact R.stand2
  · exact R.stand3
  · exact R.stand48
end Go.Proofs.YtjpifknencfipaaDoor.RowMovesRow
namespace Go.Proofs.YtjpifknencfipaaDoor
open Go
/-- The tied card. -/
theorem rowMoves_card : Rows.RowMovesCardSaid :=
  Claim7.holds_tied_plain_at .later [] [.sentinel, .sentinel, .sentinel] true (true, "b9d29a5a8ac8ffd65bd7abf0387edf791e422c0f8ec1e9ac251d4174caa9c425") true
    RowMovesRow.over (fun _ h => by cases h) RowMovesRow.byText (fun _ h => by cases h) rowMoves_row_tie rfl ⟨rfl, rfl⟩ R.mainFact rfl
    (fun f fn hf hfn => by
      obtain rfl : f = 14 := (Option.some.inj (RowMovesRow.named.symm.trans hf)).symm
      obtain rfl : fn = Tryd.f14 := (Option.some.inj (Tryd.func14.symm.trans hfn)).symm
      exact ⟨R.looksFact, RowMovesRow.noStand⟩)
    RowMovesRow.goes
#print axioms rowMoves_card
end Go.Proofs.YtjpifknencfipaaDoor
