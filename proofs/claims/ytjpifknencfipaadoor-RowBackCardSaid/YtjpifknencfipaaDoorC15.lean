/- The law RowBack answers true, whatever comes in, and leaves what came in as it was: the row and the tied card. Conditions: none. -/
import Derived.Test.YtjpifknencfipaaDoorRows
import Derived.Test.YtjpifknencfipaaDoorTie
import Derived.Test.YtjpifknencfipaaDoorCards
import Derived.Test.YtjpifknencfipaaDoorRw
import Derived.Test.YtjpifknencfipaaDoorRd
import Derived.Test.YtjpifknencfipaaDoorLf
import Derived.Test.YtjpifknencfipaaDoorP15
import Derived.WalkKit
import Derived.ProofKit
import Derived.OpenShut
import Derived.ChangeOld
import Derived.Below
import Derived.SizedLaws
import Derived.JoinedOf
import Derived.ChangeVars
import Derived.SevenTiedAt
import Derived.Stop.Joined
set_option linter.unusedVariables false
set_option linter.unusedSimpArgs false
namespace Go.Proofs.YtjpifknencfipaaDoor.P
open Go.RowKit Go.Proofs.YtjpifknencfipaaDoorW.PrintWords Go.Proofs.YtjpifknencfipaaDoorW.PrintLast Go.Proofs.YtjpifknencfipaaDoorW.PrintMore

theorem wrap_range (x : Int) : -9223372036854775808 ≤ wrap64 x ∧ wrap64 x ≤ 9223372036854775807 := by unfold wrap64; omega
theorem back_one (a x : Int) (ha : -1099511627776 ≤ a ∧ a ≤ 1099511627776) (hx : -1099511627776 ≤ x ∧ x ≤ 1099511627776) : wrap64 (wrap64 (a + x) + wrap64 (-x)) = a := by
  rw [w64 (x := a + x) (by omega), w64 (x := -x) (by omega), w64 (by omega)]
  omega
theorem back_all (x y : Int) (hx : -1099511627776 ≤ x ∧ x ≤ 1099511627776) (hy : -1099511627776 ≤ y ∧ y ≤ 1099511627776) : ∀ l : List S58, (∀ f, f ∈ l → InF f) → (l.map (moveA x y)).map (moveA (wrap64 (-x)) (wrap64 (-y))) = l
  | [], _ => rfl
  | f :: fs, h => by
    rw [List.map_cons, List.map_cons, back_all x y hx hy fs (fun g hg => h g (List.mem_cons_of_mem _ hg))]
    obtain ⟨h0, h1, h2, h3⟩ := h f (by simp)
    congr 1
    show (⟨f.f0, f.f1, f.f2, ⟨wrap64 (wrap64 (f.f3.f0 + x) + wrap64 (-x)), wrap64 (wrap64 (f.f3.f1 + y) + wrap64 (-y)), f.f3.f2, f.f3.f3⟩⟩ : S58) = f
    rw [back_one _ _ h0 hx, back_one _ _ h1 hy]
theorem low_move (x : Int) : ∀ (l : List S58) (n : Int), (∀ f, f ∈ l → InF f) → lowF n (l.map (moveA x 0)) = lowF n l
  | [], _, _ => rfl
  | f :: fs, n, h => by
    show lowF (mx n (reachF (moveA x 0 f))) (fs.map (moveA x 0)) = lowF (mx n (reachF f)) fs
    rw [low_move x fs _ (fun g hg => h g (List.mem_cons_of_mem _ hg))]
    obtain ⟨h0, h1, h2, h3⟩ := h f (by simp)
    have : reachF (moveA x 0 f) = reachF f := by
      show wrap64 (wrap64 (f.f3.f1 + 0) + f.f3.f3) = wrap64 (f.f3.f1 + f.f3.f3)
      rw [w64 (x := f.f3.f1 + 0) (by omega), Int.add_zero]
    rw [this]

theorem RowBack_true (l0 : List S58) (a1 a2 : Int) : gutterlaw17_RowBack.f 1000 l0 a1 a2 = some true := by
  unfold gutterlaw17_RowBack.f
  have hl := pcsF_len l0
  have hin := pcsF_in l0
  rw [shown17 (by omega), Option.bind_some, pcs_f l0 (by omega), Option.bind_some]
  generalize pcsF l0 = l at hl hin
  simp only [near_f, Option.bind_some]
  have hx := nearZ_range a1
  have hy := nearZ_range a2
  generalize nearZ a1 = x at hx
  generalize nearZ a2 = y at hy
  rw [move_f l x y (by omega), Option.bind_some, move_f _ _ _ (by rw [List.length_map]; omega), Option.bind_some, back_all x y hx hy l hin, if_pos trivial, fsame_self l (by omega) (by omega), Option.bind_some, if_pos rfl, List.length_map, if_pos rfl,
    move_f l x 0 (by omega), Option.bind_some, low_f _ (by rw [List.length_map]; omega) (by rw [List.length_map]; omega), Option.bind_some, low_f l (by omega) (by omega), Option.bind_some, low_move x l 0 hin]
  simp

end Go.Proofs.YtjpifknencfipaaDoor.P
namespace Go.Proofs.YtjpifknencfipaaDoor.RowBackRow
open Go
set_option maxRecDepth 100000
theorem h10 : (Rows.rowBackRow.inPlace == Tryd.prog.inPlace 15) = true := by kernel_rfl
theorem h11 : (Rows.rowBackRow.unfollowed == Tryd.prog.unfollowed 15) = true := by kernel_rfl
theorem h12 : (Rows.rowBackRow.recurses == Tryd.prog.recurses 15) = true := by kernel_rfl
theorem h13 : (Rows.rowBackRow.named == Tryd.prog.varsNamed 15) = true := by kernel_rfl
theorem g1 : (Rows.rowBackRow.plainKeys == Tryd.prog.plainKeys) = true := Rd.g1
theorem g4 : (Rows.rowBackRow.lifted == Tryd.prog.liftsFinal) = true := Rd.g4
theorem g5 : (Tryd.prog.make == some Rows.rowBackRow.make) = true := Rd.g5
theorem closed : joinedFacts Tryd.prog 15 Tryd.f15 Rows.rowBackSpec Rows.rowBackRow = true := by
  unfold joinedFacts
  rw [Rd.f2, Rd.f3, Rd.f7, Rd.f9, h10, h11, h12, h13, g1, Rd.g2, Rd.g3, g4, g5]
  kernel_rfl
end Go.Proofs.YtjpifknencfipaaDoor.RowBackRow

namespace Go.Proofs.YtjpifknencfipaaDoor.RowBackRow
open Go.ChangeShapes Go.WideShapes Go.ChangeAt Go.RowKit Go.Proofs.YtjpifknencfipaaDoor Go.Proofs.YtjpifknencfipaaDoor.P
set_option maxRecDepth 100000 in
theorem lifted (os : Os) (started : os.Started) (H : Type) (enc : TypeId × Value → H) :
    ReturnsInHanded {} Tryd.checked os 15 .any (fun w args => (Rows.rowBackSpec.pre enc Tryd.prog Tryd.f15 [] false w args ∧ laidMetH Tryd.prog R.L3 w) ∧ sizedMet enc Tryd.prog Tryd.f15 (OpenSpec.ofChange Rows.rowBackSpec) false w args)
      (Rows.rowBackSpec.post enc Tryd.prog Tryd.f15 false true false false) := by
  refine returnsInHanded_of_change_and (C := Tryd.checked) (X := fun w _ => laidMetH Tryd.prog R.L3 w) (fun _ _ _ hh h => h.of_heap hh) R.own started (by kernel_rfl) Tryd.func15
    (ChangeSpec.witness_at (enc := enc) (C := Tryd.checked) (os := os) (X := fun w _ => laidMetH Tryd.prog R.L3 w) false (World.laidAll Tryd.prog os R.L3) #[.slice none 0 0, .int .i64 0, .int .i64 0] 8 rfl (by kernel_rfl) (by kernel_rfl) (by kernel_rfl) (by kernel_rfl) (by kernel_rfl) (R.met3 os _)) ?_
  intro W base args ds gs before hval0 hW _ _ hL _
  have hval : ∀ (j : Nat) t v, Tryd.f15.params[j]? = some t → args[j]? = some v → Value.okWide Tryd.prog W .any base t v := hval0
  have hW' := hW
  obtain ⟨p, q, hA0, hV, rfl, hfz, hnd⟩ := hW
  have hA : DataW.TrodAll enc Tryd.prog W 0 (fun _ => true) true Tryd.f15.params.toList args.toList ds p := hA0
  rw [Tryd.params15] at hA hval
  obtain ⟨v0, vs0, d0, ds0, p0, q0, hargs, rfl, rfl, h0, r0⟩ := trodAll_cons hA
  obtain ⟨v1, vs1, d1, ds1, p1, q1, rfl, rfl, rfl, h1, r1⟩ := trodAll_cons r0
  obtain ⟨v2, vs2, d2, ds2, p2, q2, rfl, rfl, rfl, h2, r2⟩ := trodAll_cons r1
  obtain ⟨rfl, rfl, rfl⟩ := trodAll_nil r2
  obtain rfl : args = #[v0, v1, v2] := by cases args; simp_all
  obtain ⟨rfl, rfl⟩ := trodVars_none hV
  obtain ⟨A0, len0, cap0, rfl⟩ := okWide_slice Tryd.underlying48 (hval 0 48 v0 rfl rfl)
  have k0 := h0
  have lt0 : ∀ x ∈ p0, x.block < W.heap.size := by obtain ⟨m, hm⟩ := k0; exact DataW.trod_lt m _ _ _ hm
  obtain ⟨l0, e0, c0, K0⟩ := R.frags_in h0
  subst e0
  obtain ⟨a1, rfl, rfl, rfl, w1⟩ := open_int Tryd.underlying2 (hval 1 2 v1 rfl rfl) h1
  obtain ⟨a2, rfl, rfl, rfl, w2⟩ := open_int Tryd.underlying2 (hval 2 2 v2 rfl rfl) h2
  refine (gutterlaw17_RowBack.callsT (1000) _ _ l0 a1 a2 true W K0 c0 (R.gl3 hL) (RowBack_true l0 a1 a2) rfl).mono fun e W' ⟨he, bel⟩ => ?_
  subst he
  exact ⟨_, rfl, _, _, _, [], _, [], hW', trodAll_mk1 (shut_bool Tryd.underlying4 _), (trodAll_cons_mk (Below.trod R.laidOut (by kernel_rfl) (of_decide_eq_true (by kernel_rfl)) k0 bel lt0) (trodAll_cons_mk (shut_int Tryd.underlying2 w1) (trodAll_cons_mk (shut_int Tryd.underlying2 w2) trodAll_mk0))), rfl, bel.frame _, fun h => by cases h⟩
set_option maxRecDepth 100000
theorem named : Tryd.prog.funcNamed Rows.rowBackRow.func = some 15 := by kernel_rfl
theorem inst : Tryd.f15.isInstance Tryd.prog Rows.rowBackRow.origin Rows.rowBackRow.targs := of_decide_eq_true (by kernel_rfl)
theorem wrap : Tryd.f15.isWrapper Tryd.prog Rows.rowBackRow.wrapper Rows.rowBackRow.mainSum := by unfold Func.isWrapper; first | (rw [if_pos (by decide +kernel)]; kernel_rfl) | (rw [if_neg (by decide +kernel)]; exact ⟨rfl, rfl⟩)
theorem goes : false = Rows.rowBackRow.goesBy Tryd.pinned.checked.prog := by kernel_rfl
theorem byText : Rows.rowBackRow.wfByText (OpenSpec.ofChange Rows.rowBackSpec) = true := by kernel_rfl
theorem over : Rows.RowBackSaid :=
  OpenClaim.holds_of_wide 15 Tryd.f15 rfl rfl rfl rfl rfl rfl rfl ⟨rfl, rfl, rfl, rfl, rfl⟩ rfl rfl rfl rfl rfl named Tryd.func15 closed inst wrap
    (fun os started H enc _ => lifted os started H enc)
theorem noStand : ∀ (j : Nat) (t : TypeId), Tryd.f15.params[j]? = some t → Tryd.prog.wantsStandIn t = false := by
  intro j t ht
  rw [Tryd.params15] at ht
  have h3 : t = 2 ∨ t = 48 := by
    match j, ht with
    | 0, ht => cases ht; simp
    | 1, ht => cases ht; simp
    | 2, ht => cases ht; simp
    | j + 3, ht => simp at ht
  rcases h3 with rfl | rfl
  · exact R.stand2
  · exact R.stand48
end Go.Proofs.YtjpifknencfipaaDoor.RowBackRow
namespace Go.Proofs.YtjpifknencfipaaDoor
open Go
/-- The tied card. -/
theorem rowBack_card : Rows.RowBackCardSaid :=
  Claim7.holds_tied_plain_at .later [] [.sentinel, .sentinel, .sentinel] true (true, "b9d29a5a8ac8ffd65bd7abf0387edf791e422c0f8ec1e9ac251d4174caa9c425") true
    RowBackRow.over (fun _ h => by cases h) RowBackRow.byText (fun _ h => by cases h) rowBack_row_tie rfl ⟨rfl, rfl⟩ R.mainFact rfl
    (fun f fn hf hfn => by
      obtain rfl : f = 15 := (Option.some.inj (RowBackRow.named.symm.trans hf)).symm
      obtain rfl : fn = Tryd.f15 := (Option.some.inj (Tryd.func15.symm.trans hfn)).symm
      exact ⟨R.looksFact, RowBackRow.noStand⟩)
    RowBackRow.goes
#print axioms rowBack_card
end Go.Proofs.YtjpifknencfipaaDoor
