/- The law FillHeights answers true, whatever comes in, and leaves what came in as it was: the row and the tied card. Conditions: none. -/
import Derived.Test.YtjpifknencfipaaDoorRows
import Derived.Test.YtjpifknencfipaaDoorTie
import Derived.Test.YtjpifknencfipaaDoorCards
import Derived.Test.YtjpifknencfipaaDoorRw
import Derived.Test.YtjpifknencfipaaDoorRd
import Derived.Test.YtjpifknencfipaaDoorLs
import Derived.Test.YtjpifknencfipaaDoorLt
import Derived.Test.YtjpifknencfipaaDoorP21
import Derived.WalkKit
import Derived.ProofKit
import Derived.OpenShut
import Derived.ChangeOld
import Derived.Below
import Derived.SizedLaws
import Derived.JoinedOf
import Derived.ChangeVars
import Derived.SevenTiedAt
import Derived.Stop.Joined
set_option linter.unusedVariables false
set_option linter.unusedSimpArgs false
namespace Go.Proofs.YtjpifknencfipaaDoor.P
open Go.RowKit Go.Proofs.YtjpifknencfipaaDoorW.PrintWords Go.Proofs.YtjpifknencfipaaDoorW.PrintLast Go.Proofs.YtjpifknencfipaaDoorW.PrintMore

theorem few14_f (l : List S32) : gutterlaw14_few.f l = some ((fewA l).take 40) := by
  unfold gutterlaw14_few.f
  rw [few_f, Option.bind_some]
  have hmn : mn ((fewA l).length : Int) 40 = ((min (fewA l).length 40 : Nat) : Int) := by unfold mn; omega
  rw [hmn, if_pos (by omega), if_pos (by omega), Int.toNat_natCast]
  congr 1
  rw [List.take_eq_take_iff]
  omega
theorem cols14_f (l : List S73) : gutterlaw14_cols.f l = some (l.take 60) := by
  unfold gutterlaw14_cols.f
  have hmn : mn (l.length : Int) 60 = ((min l.length 60 : Nat) : Int) := by unfold mn; omega
  rw [hmn, if_pos (by omega), if_pos (by omega), Int.toNat_natCast]
  congr 1
  rw [List.take_eq_take_iff]
  omega
theorem nums_l0 (a : List Int) (hn : a.length ≤ 9223372036854775807) (d : Nat) : ∀ (k i : Nat), i ≤ a.length → a.length - i = d → d < k → gutterref10_Nums.l0 k a a (i : Int) = some true := by
  induction d with
  | zero =>
    intro k i h0 hd hk
    obtain ⟨k, rfl⟩ : ∃ m, k = m + 1 := ⟨k - 1, by omega⟩
    simp only [gutterref10_Nums.l0]
    rw [if_neg (by omega)]
  | succ d ih =>
    intro k i h0 hd hk
    obtain ⟨k, rfl⟩ : ∃ m, k = m + 1 := ⟨k - 1, by omega⟩
    simp only [gutterref10_Nums.l0]
    rw [if_pos (by omega), if_pos (by omega), if_pos (by omega), if_pos trivial, wrap64_succ (n := a.length) (by omega) (by omega) hn, show ((i : Int) + 1) = ((i + 1 : Nat) : Int) by push_cast; rfl]
    exact ih k (i + 1) (by omega) (by omega) (by omega)
theorem nums_yes (a : List Int) (hn : a.length ≤ 9223372036854775807) {k : Nat} (hk : a.length < k) : gutterref10_Nums.f k a a = some true := by
  unfold gutterref10_Nums.f
  rw [if_pos rfl]
  exact nums_l0 a hn a.length k 0 (by omega) (by omega) hk
theorem rsame_l0 (a b : List S73) (hab : a.length = b.length) (hn : a.length ≤ 9223372036854775807) (d : Nat) : ∀ (k i : Nat), i ≤ a.length → a.length - i = d → d < k →
    ∃ r, gutterref14_Same.l0 k a b (i : Int) = some r ∧ (r = true ↔ a.drop i = b.drop i) := by
  induction d with
  | zero =>
    intro k i h0 hd hk
    obtain ⟨k, rfl⟩ : ∃ m, k = m + 1 := ⟨k - 1, by omega⟩
    simp only [gutterref14_Same.l0]
    rw [if_neg (by omega)]
    refine ⟨true, rfl, ?_⟩
    rw [List.drop_eq_nil_of_le (by omega), List.drop_eq_nil_of_le (by omega)]
    simp
  | succ d ih =>
    intro k i h0 hd hk
    obtain ⟨k, rfl⟩ : ∃ m, k = m + 1 := ⟨k - 1, by omega⟩
    have hlt : i < a.length := by omega
    simp only [gutterref14_Same.l0]
    rw [if_pos (by omega), if_pos (by omega), if_pos (by omega), wrap64_succ (n := a.length) (by omega) (by omega) hn, rd73_eq hlt, rd73_eq (show i < b.length by omega)]
    rw [ext_drop hlt (by omega)]
    obtain ⟨r, h1, h2⟩ := ih k (i + 1) (by omega) (by omega) (by omega)
    rw [Int.natCast_add, Int.natCast_one] at h1
    by_cases hne : a[i] = b[i]
    · rw [if_neg (fun e => (neq73 _ _).1 e hne)]
      exact ⟨r, h1, by rw [h2]; simp [hne]⟩
    · rw [if_pos ((neq73 _ _).2 hne)]
      exact ⟨false, rfl, by simp [hne]⟩
theorem rsame_f (a b : List S73) (hn : a.length ≤ 9223372036854775807) {k : Nat} (hk : a.length < k) : ∃ r, gutterref14_Same.f k a b = some r ∧ (r = true ↔ a = b) := by
  unfold gutterref14_Same.f
  by_cases hab : a.length = b.length
  · rw [if_pos (by omega)]
    obtain ⟨r, h1, h2⟩ := rsame_l0 a b hab hn a.length k 0 (by omega) (by omega) hk
    exact ⟨r, h1, by simpa using h2⟩
  · rw [if_neg (by omega)]
    exact ⟨false, rfl, by simp; exact fun e => hab (by rw [e])⟩
theorem insA_len (x : Int) : ∀ t : List Int, (insA x t).length ≤ t.length + 1
  | [] => by simp [insA]
  | y :: ys => by
    unfold insA
    split
    · simp
    · split
      · simp
      · have := insA_len x ys
        simp
        exact this
theorem fold_len : ∀ (xs t : List Int), (xs.foldl (fun t x => insA x t) t).length ≤ t.length + xs.length
  | [], t => by simp
  | x :: xs, t => by
    have h1 := fold_len xs (insA x t)
    have h2 := insA_len x t
    rw [List.foldl_cons, List.length_cons]
    omega
theorem heights_len (l : List S32) (hl : l.length ≤ 40) : (heightsA l).length ≤ 821 := by
  have h1 := fold_len (pairsA l l.length) [0]
  have h2 := pairs_820 l hl
  unfold heightsA
  simp at h1
  omega

theorem FillHeights_true (l0 : List S32) (l1 l2 : List S73) : gutterlaw14_FillHeights.f 1000 l0 l1 l2 = some true := by
  unfold gutterlaw14_FillHeights.f
  rw [shown_f (by omega), Option.bind_some, few14_f, Option.bind_some, cols14_f, Option.bind_some, cols14_f, Option.bind_some]
  have hl : ((fewA l0).take 40).length ≤ 40 := by simp; omega
  have h1 : (l1.take 60).length ≤ 60 := by simp; omega
  generalize (fewA l0).take 40 = l at hl
  generalize l1.take 60 = a at h1
  generalize l2.take 60 = b
  have hh := heights_len l hl
  obtain ⟨x, y, hx, hxl⟩ : ∃ x y, fill_Heights.f l = some (x, y) ∧ x.length ≤ 821 := by
    unfold fill_Heights.f
    split
    · exact ⟨_, _, rfl, hh⟩
    · exact ⟨_, _, rfl, by simp⟩
  have hy : gutterref14_Heights.f l = some (x, y) := hx
  rw [hx, Option.bind_some, hy, Option.bind_some, if_pos rfl, nums_yes x (by omega) (by omega), Option.bind_some, if_pos rfl, if_pos rfl, tall_k l (by omega) (by omega), Option.bind_some, rtall_k l (by omega) (by omega), Option.bind_some, if_pos rfl]
  obtain ⟨r, e1, e2⟩ := same_f a b (by omega) (k := 1000) (by omega)
  obtain ⟨s, e3, e4⟩ := rsame_f a b (by omega) (k := 1000) (by omega)
  have hrs : r = s := by
    cases r <;> cases s <;> simp_all
  rw [e1, Option.bind_some, e3, Option.bind_some, hrs, if_pos (by simp), same_yes a (by omega) (by omega), Option.bind_some]

end Go.Proofs.YtjpifknencfipaaDoor.P
namespace Go.Proofs.YtjpifknencfipaaDoor.FillHeightsRow
open Go
set_option maxRecDepth 100000
theorem h10 : (Rows.fillHeightsRow.inPlace == Tryd.prog.inPlace 21) = true := by kernel_rfl
theorem h11 : (Rows.fillHeightsRow.unfollowed == Tryd.prog.unfollowed 21) = true := by kernel_rfl
theorem h12 : (Rows.fillHeightsRow.recurses == Tryd.prog.recurses 21) = true := by kernel_rfl
theorem h13 : (Rows.fillHeightsRow.named == Tryd.prog.varsNamed 21) = true := by kernel_rfl
theorem g1 : (Rows.fillHeightsRow.plainKeys == Tryd.prog.plainKeys) = true := Rd.g1
theorem g4 : (Rows.fillHeightsRow.lifted == Tryd.prog.liftsFinal) = true := Rd.g4
theorem g5 : (Tryd.prog.make == some Rows.fillHeightsRow.make) = true := Rd.g5
theorem closed : joinedFacts Tryd.prog 21 Tryd.f21 Rows.fillHeightsSpec Rows.fillHeightsRow = true := by
  unfold joinedFacts
  rw [Rd.f2, Rd.f3, Rd.f7, Rd.f9, h10, h11, h12, h13, g1, Rd.g2, Rd.g3, g4, g5]
  kernel_rfl
end Go.Proofs.YtjpifknencfipaaDoor.FillHeightsRow

namespace Go.Proofs.YtjpifknencfipaaDoor.FillHeightsRow
open Go.ChangeShapes Go.WideShapes Go.ChangeAt Go.RowKit Go.Proofs.YtjpifknencfipaaDoor Go.Proofs.YtjpifknencfipaaDoor.P
set_option maxRecDepth 100000 in
theorem lifted (os : Os) (started : os.Started) (H : Type) (enc : TypeId × Value → H) :
    ReturnsInHanded {} Tryd.checked os 21 .any (fun w args => (Rows.fillHeightsSpec.pre enc Tryd.prog Tryd.f21 [] false w args ∧ laidMetH Tryd.prog R.L1 w) ∧ sizedMet enc Tryd.prog Tryd.f21 (OpenSpec.ofChange Rows.fillHeightsSpec) false w args)
      (Rows.fillHeightsSpec.post enc Tryd.prog Tryd.f21 false true false false) := by
  refine returnsInHanded_of_change_and (C := Tryd.checked) (X := fun w _ => laidMetH Tryd.prog R.L1 w) (fun _ _ _ hh h => h.of_heap hh) R.own started (by kernel_rfl) Tryd.func21
    (ChangeSpec.witness_at (enc := enc) (C := Tryd.checked) (os := os) (X := fun w _ => laidMetH Tryd.prog R.L1 w) false (World.laidAll Tryd.prog os R.L1) #[.slice none 0 0, .slice none 0 0, .slice none 0 0] 8 rfl (by kernel_rfl) (by kernel_rfl) (by kernel_rfl) (by kernel_rfl) (by kernel_rfl) (R.met1 os _)) ?_
  intro W base args ds gs before hval0 hW _ _ hL _
  have hval : ∀ (j : Nat) t v, Tryd.f21.params[j]? = some t → args[j]? = some v → Value.okWide Tryd.prog W .any base t v := hval0
  have hW' := hW
  obtain ⟨p, q, hA0, hV, rfl, hfz, hnd⟩ := hW
  have hA : DataW.TrodAll enc Tryd.prog W 0 (fun _ => true) true Tryd.f21.params.toList args.toList ds p := hA0
  rw [Tryd.params21] at hA hval
  obtain ⟨v0, vs0, d0, ds0, p0, q0, hargs, rfl, rfl, h0, r0⟩ := trodAll_cons hA
  obtain ⟨v1, vs1, d1, ds1, p1, q1, rfl, rfl, rfl, h1, r1⟩ := trodAll_cons r0
  obtain ⟨v2, vs2, d2, ds2, p2, q2, rfl, rfl, rfl, h2, r2⟩ := trodAll_cons r1
  obtain ⟨rfl, rfl, rfl⟩ := trodAll_nil r2
  obtain rfl : args = #[v0, v1, v2] := by cases args; simp_all
  obtain ⟨rfl, rfl⟩ := trodVars_none hV
  obtain ⟨A0, len0, cap0, rfl⟩ := okWide_slice Tryd.underlying22 (hval 0 22 v0 rfl rfl)
  have k0 := h0
  have lt0 : ∀ x ∈ p0, x.block < W.heap.size := by obtain ⟨m, hm⟩ := k0; exact DataW.trod_lt m _ _ _ hm
  obtain ⟨l0, e0, c0, K0⟩ := R.atoms_in h0
  subst e0
  obtain ⟨A1, len1, cap1, rfl⟩ := okWide_slice Tryd.underlying69 (hval 1 69 v1 rfl rfl)
  have k1 := h1
  have lt1 : ∀ x ∈ p1, x.block < W.heap.size := by obtain ⟨m, hm⟩ := k1; exact DataW.trod_lt m _ _ _ hm
  obtain ⟨l1, e1, c1, K1⟩ := R.cols_in h1
  subst e1
  obtain ⟨A2, len2, cap2, rfl⟩ := okWide_slice Tryd.underlying69 (hval 2 69 v2 rfl rfl)
  have k2 := h2
  have lt2 : ∀ x ∈ p2, x.block < W.heap.size := by obtain ⟨m, hm⟩ := k2; exact DataW.trod_lt m _ _ _ hm
  obtain ⟨l2, e2, c2, K2⟩ := R.cols_in h2
  subst e2
  refine (gutterlaw14_FillHeights.calls (1000) _ _ l0 _ _ l1 _ _ l2 true W K0 c0 K1 c1 K2 c2 (R.gl1 hL) (FillHeights_true l0 l1 l2)).mono fun e W' ⟨he, bel⟩ => ?_
  subst he
  exact ⟨_, rfl, _, _, _, [], _, [], hW', trodAll_mk1 (shut_bool Tryd.underlying4 _), (trodAll_cons_mk (Below.trod R.laidOut (by kernel_rfl) (of_decide_eq_true (by kernel_rfl)) k0 bel lt0) (trodAll_cons_mk (Below.trod R.laidOut (by kernel_rfl) (of_decide_eq_true (by kernel_rfl)) k1 bel lt1) (trodAll_cons_mk (Below.trod R.laidOut (by kernel_rfl) (of_decide_eq_true (by kernel_rfl)) k2 bel lt2) trodAll_mk0))), rfl, bel.frame _, fun h => by cases h⟩
set_option maxRecDepth 100000
theorem named : Tryd.prog.funcNamed Rows.fillHeightsRow.func = some 21 := by kernel_rfl
theorem inst : Tryd.f21.isInstance Tryd.prog Rows.fillHeightsRow.origin Rows.fillHeightsRow.targs := of_decide_eq_true (by kernel_rfl)
theorem wrap : Tryd.f21.isWrapper Tryd.prog Rows.fillHeightsRow.wrapper Rows.fillHeightsRow.mainSum := by unfold Func.isWrapper; first | (rw [if_pos (by decide +kernel)]; kernel_rfl) | (rw [if_neg (by decide +kernel)]; exact ⟨rfl, rfl⟩)
theorem goes : false = Rows.fillHeightsRow.goesBy Tryd.pinned.checked.prog := by kernel_rfl
theorem byText : Rows.fillHeightsRow.wfByText (OpenSpec.ofChange Rows.fillHeightsSpec) = true := by kernel_rfl
theorem over : Rows.FillHeightsSaid :=
  OpenClaim.holds_of_wide 21 Tryd.f21 rfl rfl rfl rfl rfl rfl rfl ⟨rfl, rfl, rfl, rfl, rfl⟩ rfl rfl rfl rfl rfl named Tryd.func21 closed inst wrap
    (fun os started H enc _ => lifted os started H enc)
theorem noStand : ∀ (j : Nat) (t : TypeId), Tryd.f21.params[j]? = some t → Tryd.prog.wantsStandIn t = false := by
  intro j t ht
  rw [Tryd.params21] at ht
  have h3 : t = 22 ∨ t = 69 := by
    match j, ht with
    | 0, ht => cases ht; simp
    | 1, ht => cases ht; simp
    | 2, ht => cases ht; simp
    | j + 3, ht => simp at ht
  rcases h3 with rfl | rfl
  · exact R.stand22
  · exact R.stand69
end Go.Proofs.YtjpifknencfipaaDoor.FillHeightsRow
namespace Go.Proofs.YtjpifknencfipaaDoor
open Go
/-- The tied card. -/
theorem fillHeights_card : Rows.FillHeightsCardSaid :=
  Claim7.holds_tied_plain_at .later [] [.sentinel] true (true, "b9d29a5a8ac8ffd65bd7abf0387edf791e422c0f8ec1e9ac251d4174caa9c425") true
    FillHeightsRow.over (fun _ h => by cases h) FillHeightsRow.byText (fun _ h => by cases h) fillHeights_row_tie rfl ⟨rfl, rfl⟩ R.mainFact rfl
    (fun f fn hf hfn => by
      obtain rfl : f = 21 := (Option.some.inj (FillHeightsRow.named.symm.trans hf)).symm
      obtain rfl : fn = Tryd.f21 := (Option.some.inj (Tryd.func21.symm.trans hfn)).symm
      exact ⟨R.looksFact, FillHeightsRow.noStand⟩)
    FillHeightsRow.goes
#print axioms fillHeights_card
end Go.Proofs.YtjpifknencfipaaDoor
