/- The law BalanceLeast answers true, whatever comes in, and leaves what came in as it was: the row and the tied card. Conditions: none. -/
import Derived.Test.YtjpifknencfipaaDoorRows
import Derived.Test.YtjpifknencfipaaDoorTie
import Derived.Test.YtjpifknencfipaaDoorCards
import Derived.Test.YtjpifknencfipaaDoorRw
import Derived.Test.YtjpifknencfipaaDoorRd
import Derived.Test.YtjpifknencfipaaDoorLb
import Derived.Test.YtjpifknencfipaaDoorLt
import Derived.Test.YtjpifknencfipaaDoorP4
import Derived.WalkKit
import Derived.ProofKit
import Derived.OpenShut
import Derived.ChangeOld
import Derived.Below
import Derived.SizedLaws
import Derived.JoinedOf
import Derived.ChangeVars
import Derived.SevenTiedAt
import Derived.Stop.Joined
set_option linter.unusedVariables false
set_option linter.unusedSimpArgs false
namespace Go.Proofs.YtjpifknencfipaaDoor.P
open Go.RowKit Go.Proofs.YtjpifknencfipaaDoorW.PrintWords Go.Proofs.YtjpifknencfipaaDoorW.PrintLast Go.Proofs.YtjpifknencfipaaDoorW.PrintMore

theorem runs_is (l : List S32) (a : Nat) (y : Int) : ∀ n, y ∈ runsA l a n → ∃ d, d < n ∧ y = hiA l a (a + d + 1)
  | 0, h => by simp [runsA] at h
  | n + 1, h => by
    rw [runsA, List.mem_append] at h
    rcases h with h | h
    · obtain ⟨d, h1, h2⟩ := runs_is l a y n h
      exact ⟨d, by omega, h2⟩
    · exact ⟨n, by omega, by simpa using h⟩
theorem pairs_is (l : List S32) (y : Int) : ∀ n, n ≤ l.length → y ∈ pairsA l n → ∃ a b, a < b ∧ b ≤ l.length ∧ y = hiA l a b
  | 0, _, h => by simp [pairsA] at h
  | n + 1, hn, h => by
    rw [pairsA, List.mem_append] at h
    rcases h with h | h
    · exact pairs_is l y n (by omega) h
    · obtain ⟨d, h1, h2⟩ := runs_is l n y _ h
      exact ⟨n, n + d + 1, by omega, by omega, h2⟩
theorem insA_len (x : Int) : ∀ t : List Int, (insA x t).length ≤ t.length + 1
  | [] => by simp [insA]
  | y :: ys => by
    unfold insA
    split
    · simp
    · split
      · simp
      · have := insA_len x ys
        simp
        exact this
theorem fold_len : ∀ (xs t : List Int), (xs.foldl (fun t x => insA x t) t).length ≤ t.length + xs.length
  | [], t => by simp
  | x :: xs, t => by
    have h1 := fold_len xs (insA x t)
    have h2 := insA_len x t
    rw [List.foldl_cons, List.length_cons]
    omega
theorem heights_len (l : List S32) (hl : l.length ≤ 40) : (heightsA l).length ≤ 821 := by
  have h1 := fold_len (pairsA l l.length) [0]
  have h2 := pairs_820 l hl
  unfold heightsA
  simp at h1
  omega

theorem least_l0 (l : List S32) (h : Int) (t low : Int) (all : List Int) (hn : all.length ≤ 900) (hf : fineA l h = true) (hk : numA l h ≤ t) (hlow : low ≤ h)
    (hall : ∀ x ∈ all, fineA l x = true ∧ (low ≤ x → x < h → t < numA l x)) (d : Nat) : ∀ (k i : Nat), i ≤ all.length → all.length - i = d → d < k → gutterlaw15_BalanceLeast.l0 k l true h t 0 all 0 low (i : Int) = some true := by
  induction d with
  | zero =>
    intro k i h0 hd hk1
    obtain ⟨k, rfl⟩ : ∃ m, k = m + 1 := ⟨k - 1, by omega⟩
    simp only [gutterlaw15_BalanceLeast.l0]
    rw [if_neg (by omega), cols_fine l h hf, Option.bind_some, if_pos trivial, if_pos trivial, if_pos trivial, if_pos rfl]
    simp only
    rw [if_pos hk, decide_eq_true (show h ≥ low from hlow)]
  | succ d ih =>
    intro k i h0 hd hk1
    obtain ⟨k, rfl⟩ : ∃ m, k = m + 1 := ⟨k - 1, by omega⟩
    have hlt : i < all.length := by omega
    have hrd : rd all (i : Int) = all[i] := by simp [rd, List.getD_eq_getElem?_getD, List.getElem?_eq_getElem hlt]
    obtain ⟨q1, q2⟩ := hall all[i] (List.getElem_mem hlt)
    have hi := ih k (i + 1) (by omega) (by omega) (by omega)
    simp only [gutterlaw15_BalanceLeast.l0]
    rw [if_pos (by omega), if_pos (by omega), hrd, cols_fine l _ q1, Option.bind_some, if_pos rfl, w64 (x := (i : Int) + 1) (by omega), show ((i : Int) + 1) = ((i + 1 : Nat) : Int) by push_cast; rfl, hi]
    by_cases c1 : all[i] ≥ low
    · rw [if_pos c1]
      by_cases c2 : all[i] < h
      · have := q2 c1 c2
        rw [if_pos c2]
        simp only
        rw [if_neg (by omega)]
      · rw [if_neg c2]
    · rw [if_neg c1]

theorem BalanceLeast_true (l0 : List S32) (a1 a2 : Int) : gutterlaw15_BalanceLeast.f 1000 l0 a1 a2 = some true := by
  unfold gutterlaw15_BalanceLeast.f
  have hl := few40_len l0
  rw [shown15, Option.bind_some, few15_f, Option.bind_some]
  generalize few40 l0 = l at hl
  unfold balance_Least.f
  by_cases hob : (openA l a1 && budA a2) = true
  · rw [if_pos hob, Option.bind_some, if_pos rfl]
    simp only [Bool.and_eq_true] at hob
    obtain ⟨ho, hb⟩ := hob
    unfold budA at hb
    simp only [Bool.and_eq_true, decide_eq_true_eq] at hb
    obtain ⟨hr, hl2, p1, p2⟩ := open_parts ho
    have hal := all_range l hr
    rcases least_spec l a1 a2 hb.1 with ⟨k, hk, he, hn, hno⟩ | ⟨he, hno⟩
    · rw [he]
      have hup := search_up hr hl2 a1 p1 p2 k hno
      have hbr := begin_range hr hl2 a1 p1 p2
      have htl : tallA l ≤ beginA l a1 := by unfold beginA; omega
      have htr := tall_range l hr
      have hle := search_least hr hl2 a1 p1 p2
      have hhl := heights_len l hl
      have hT : balance_Target.f l a1 = some (targetA l a1, 0) := by unfold balance_Target.f; rw [if_pos ho]
      have hH : gutterref14_Heights.f l = some (heightsA l, 0) := by unfold gutterref14_Heights.f; rw [if_pos ⟨hr, hl2⟩]
      simp only [gutterlaw15_BalanceLeast.j0]
      rw [if_neg (by simp), hT, Option.bind_some, hH, Option.bind_some, rtall_k l (by omega) (by omega), Option.bind_some, if_pos (by simp only; omega)]
      refine least_l0 l _ _ _ (heightsA l ++ [tallA l]) (by simp; omega) (fine_of l hr _ (by omega) (by omega)) hn (by omega) (fun x hx => ?_) ((heightsA l ++ [tallA l]).length) 999 0 (by omega) (by omega) (by simp; omega)
      refine ⟨?_, fun c1 c2 => hle x c1 k hno c2⟩
      rcases List.mem_append.1 hx with hx | hx
      · rcases (mem_heights l x).1 hx with rfl | hx
        · exact fine_of l hr 0 (by omega) (by omega)
        · obtain ⟨a, b, q1, q2, q3⟩ := pairs_is l x l.length (Nat.le_refl _) hx
          have := hi_range hr a b q1 q2
          exact fine_of l hr x (by omega) (by omega)
      · rw [List.mem_singleton.1 hx]
        exact fine_of l hr _ (by omega) (by omega)
    · rw [he]
      simp only [gutterlaw15_BalanceLeast.j0]
      rw [if_pos (by simp), if_pos trivial, if_pos trivial, high_right l hr (by omega), Option.bind_some]
      simp
  · rw [if_neg hob, Option.bind_some, if_neg (by simp)]
    simp only [gutterlaw15_BalanceLeast.j0]
    rw [if_pos trivial, if_pos trivial, if_neg (by simp)]

end Go.Proofs.YtjpifknencfipaaDoor.P
namespace Go.Proofs.YtjpifknencfipaaDoor.BalanceLeastRow
open Go
set_option maxRecDepth 100000
theorem h10 : (Rows.balanceLeastRow.inPlace == Tryd.prog.inPlace 4) = true := by kernel_rfl
theorem h11 : (Rows.balanceLeastRow.unfollowed == Tryd.prog.unfollowed 4) = true := by kernel_rfl
theorem h12 : (Rows.balanceLeastRow.recurses == Tryd.prog.recurses 4) = true := by kernel_rfl
theorem h13 : (Rows.balanceLeastRow.named == Tryd.prog.varsNamed 4) = true := by kernel_rfl
theorem g1 : (Rows.balanceLeastRow.plainKeys == Tryd.prog.plainKeys) = true := Rd.g1
theorem g4 : (Rows.balanceLeastRow.lifted == Tryd.prog.liftsFinal) = true := Rd.g4
theorem g5 : (Tryd.prog.make == some Rows.balanceLeastRow.make) = true := Rd.g5
theorem closed : joinedFacts Tryd.prog 4 Tryd.f4 Rows.balanceLeastSpec Rows.balanceLeastRow = true := by
  unfold joinedFacts
  rw [Rd.f2, Rd.f3, Rd.f7, Rd.f9, h10, h11, h12, h13, g1, Rd.g2, Rd.g3, g4, g5]
  kernel_rfl
end Go.Proofs.YtjpifknencfipaaDoor.BalanceLeastRow

namespace Go.Proofs.YtjpifknencfipaaDoor.BalanceLeastRow
open Go.ChangeShapes Go.WideShapes Go.ChangeAt Go.RowKit Go.Proofs.YtjpifknencfipaaDoor Go.Proofs.YtjpifknencfipaaDoor.P
set_option maxRecDepth 100000 in
theorem lifted (os : Os) (started : os.Started) (H : Type) (enc : TypeId × Value → H) :
    ReturnsInHanded {} Tryd.checked os 4 .any (fun w args => (Rows.balanceLeastSpec.pre enc Tryd.prog Tryd.f4 [] false w args ∧ laidMetH Tryd.prog R.L2 w) ∧ sizedMet enc Tryd.prog Tryd.f4 (OpenSpec.ofChange Rows.balanceLeastSpec) false w args)
      (Rows.balanceLeastSpec.post enc Tryd.prog Tryd.f4 false true false false) := by
  refine returnsInHanded_of_change_and (C := Tryd.checked) (X := fun w _ => laidMetH Tryd.prog R.L2 w) (fun _ _ _ hh h => h.of_heap hh) R.own started (by kernel_rfl) Tryd.func4
    (ChangeSpec.witness_at (enc := enc) (C := Tryd.checked) (os := os) (X := fun w _ => laidMetH Tryd.prog R.L2 w) false (World.laidAll Tryd.prog os R.L2) #[.slice none 0 0, .int .i64 0, .int .i64 0] 8 rfl (by kernel_rfl) (by kernel_rfl) (by kernel_rfl) (by kernel_rfl) (by kernel_rfl) (R.met2 os _)) ?_
  intro W base args ds gs before hval0 hW _ _ hL _
  have hval : ∀ (j : Nat) t v, Tryd.f4.params[j]? = some t → args[j]? = some v → Value.okWide Tryd.prog W .any base t v := hval0
  have hW' := hW
  obtain ⟨p, q, hA0, hV, rfl, hfz, hnd⟩ := hW
  have hA : DataW.TrodAll enc Tryd.prog W 0 (fun _ => true) true Tryd.f4.params.toList args.toList ds p := hA0
  rw [Tryd.params4] at hA hval
  obtain ⟨v0, vs0, d0, ds0, p0, q0, hargs, rfl, rfl, h0, r0⟩ := trodAll_cons hA
  obtain ⟨v1, vs1, d1, ds1, p1, q1, rfl, rfl, rfl, h1, r1⟩ := trodAll_cons r0
  obtain ⟨v2, vs2, d2, ds2, p2, q2, rfl, rfl, rfl, h2, r2⟩ := trodAll_cons r1
  obtain ⟨rfl, rfl, rfl⟩ := trodAll_nil r2
  obtain rfl : args = #[v0, v1, v2] := by cases args; simp_all
  obtain ⟨rfl, rfl⟩ := trodVars_none hV
  obtain ⟨A0, len0, cap0, rfl⟩ := okWide_slice Tryd.underlying22 (hval 0 22 v0 rfl rfl)
  have k0 := h0
  have lt0 : ∀ x ∈ p0, x.block < W.heap.size := by obtain ⟨m, hm⟩ := k0; exact DataW.trod_lt m _ _ _ hm
  obtain ⟨l0, e0, c0, K0⟩ := R.atoms_in h0
  subst e0
  obtain ⟨a1, rfl, rfl, rfl, w1⟩ := open_int Tryd.underlying3 (hval 1 3 v1 rfl rfl) h1
  obtain ⟨a2, rfl, rfl, rfl, w2⟩ := open_int Tryd.underlying3 (hval 2 3 v2 rfl rfl) h2
  refine (gutterlaw15_BalanceLeast.calls (1000) _ _ l0 a1 a2 true W K0 c0 (R.gl2 hL) (BalanceLeast_true l0 a1 a2)).mono fun e W' ⟨he, bel⟩ => ?_
  subst he
  exact ⟨_, rfl, _, _, _, [], _, [], hW', trodAll_mk1 (shut_bool Tryd.underlying4 _), (trodAll_cons_mk (Below.trod R.laidOut (by kernel_rfl) (of_decide_eq_true (by kernel_rfl)) k0 bel lt0) (trodAll_cons_mk (shut_int Tryd.underlying3 w1) (trodAll_cons_mk (shut_int Tryd.underlying3 w2) trodAll_mk0))), rfl, bel.frame _, fun h => by cases h⟩
set_option maxRecDepth 100000
theorem named : Tryd.prog.funcNamed Rows.balanceLeastRow.func = some 4 := by kernel_rfl
theorem inst : Tryd.f4.isInstance Tryd.prog Rows.balanceLeastRow.origin Rows.balanceLeastRow.targs := of_decide_eq_true (by kernel_rfl)
theorem wrap : Tryd.f4.isWrapper Tryd.prog Rows.balanceLeastRow.wrapper Rows.balanceLeastRow.mainSum := by unfold Func.isWrapper; first | (rw [if_pos (by decide +kernel)]; kernel_rfl) | (rw [if_neg (by decide +kernel)]; exact ⟨rfl, rfl⟩)
theorem goes : false = Rows.balanceLeastRow.goesBy Tryd.pinned.checked.prog := by kernel_rfl
theorem byText : Rows.balanceLeastRow.wfByText (OpenSpec.ofChange Rows.balanceLeastSpec) = true := by kernel_rfl
theorem over : Rows.BalanceLeastSaid :=
  OpenClaim.holds_of_wide 4 Tryd.f4 rfl rfl rfl rfl rfl rfl rfl ⟨rfl, rfl, rfl, rfl, rfl⟩ rfl rfl rfl rfl rfl named Tryd.func4 closed inst wrap
    (fun os started H enc _ => lifted os started H enc)
theorem noStand : ∀ (j : Nat) (t : TypeId), Tryd.f4.params[j]? = some t → Tryd.prog.wantsStandIn t = false := by
  intro j t ht
  rw [Tryd.params4] at ht
  have h3 : t = 3 ∨ t = 22 := by
    match j, ht with
    | 0, ht => cases ht; simp
    | 1, ht => cases ht; simp
    | 2, ht => cases ht; simp
    | j + 3, ht => simp at ht
  rcases h3 with rfl | rfl
  · exact R.stand3
  · exact R.stand22
end Go.Proofs.YtjpifknencfipaaDoor.BalanceLeastRow
namespace Go.Proofs.YtjpifknencfipaaDoor
open Go
/-- The tied card. -/
theorem balanceLeast_card : Rows.BalanceLeastCardSaid :=
  Claim7.holds_tied_plain_at .later [] [.sentinel, .sentinel] true (true, "b9d29a5a8ac8ffd65bd7abf0387edf791e422c0f8ec1e9ac251d4174caa9c425") true
    BalanceLeastRow.over (fun _ h => by cases h) BalanceLeastRow.byText (fun _ h => by cases h) balanceLeast_row_tie rfl ⟨rfl, rfl⟩ R.mainFact rfl
    (fun f fn hf hfn => by
      obtain rfl : f = 4 := (Option.some.inj (BalanceLeastRow.named.symm.trans hf)).symm
      obtain rfl : fn = Tryd.f4 := (Option.some.inj (Tryd.func4.symm.trans hfn)).symm
      exact ⟨R.looksFact, BalanceLeastRow.noStand⟩)
    BalanceLeastRow.goes
#print axioms balanceLeast_card
end Go.Proofs.YtjpifknencfipaaDoor
