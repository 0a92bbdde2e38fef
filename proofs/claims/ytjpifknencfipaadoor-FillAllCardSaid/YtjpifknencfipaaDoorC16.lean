/- The law FillAll answers true, whatever comes in, and leaves what came in as it was: the row and the tied card. Conditions: none. -/
import Derived.Test.YtjpifknencfipaaDoorRows
import Derived.Test.YtjpifknencfipaaDoorTie
import Derived.Test.YtjpifknencfipaaDoorCards
import Derived.Test.YtjpifknencfipaaDoorRw
import Derived.Test.YtjpifknencfipaaDoorRd
import Derived.Test.YtjpifknencfipaaDoorLs
import Derived.Test.YtjpifknencfipaaDoorP16
import Derived.WalkKit
import Derived.ProofKit
import Derived.OpenShut
import Derived.ChangeOld
import Derived.Below
import Derived.SizedLaws
import Derived.JoinedOf
import Derived.ChangeVars
import Derived.SevenTiedAt
import Derived.Stop.Joined
set_option linter.unusedVariables false
set_option linter.unusedSimpArgs false
namespace Go.Proofs.YtjpifknencfipaaDoor.P
open Go.RowKit Go.Proofs.YtjpifknencfipaaDoorW.PrintWords Go.Proofs.YtjpifknencfipaaDoorW.PrintLast Go.Proofs.YtjpifknencfipaaDoorW.PrintMore

theorem sub_at (l : List S32) (a b i : Nat) (hi : i < b - a) (hb : b ≤ l.length) : atA ((l.take b).drop a) i = atA l (a + i) := by
  unfold atA
  rw [List.getD_eq_getElem?_getD, List.getD_eq_getElem?_getD, List.getElem?_drop, List.getElem?_take_of_lt (by omega)]
theorem sub_pre (l : List S32) (a b : Nat) (hb : b ≤ l.length) : ∀ i, i ≤ b - a → preA ((l.take b).drop a) i = preA l (a + i) - preA l a
  | 0, _ => by simp [preA]
  | i + 1, hi => by
    have e := sub_at l a b i (by omega) hb
    show preA ((l.take b).drop a) i + stA ((l.take b).drop a) i = preA l (a + i) + stA l (a + i) - preA l a
    rw [sub_pre l a b hb i (by omega)]
    unfold stA spA hhA
    rw [e]
    omega
theorem sub_right (l : List S32) (hr : rightA l = true) (a b : Nat) : rightA ((l.take b).drop a) = true := by
  unfold rightA at hr ⊢
  simp only [Bool.and_eq_true, decide_eq_true_eq] at hr ⊢
  refine ⟨fun x hx => hr.1 x (List.mem_of_mem_take (List.mem_of_mem_drop hx)), ?_⟩
  rw [List.length_drop, List.length_take]
  omega
theorem sub_all (l : List S32) (a b : Nat) (hab : a < b) (hb : b ≤ l.length) : allA ((l.take b).drop a) = hiA l a b := by
  have hlen : ((l.take b).drop a).length = b - a := by rw [List.length_drop, List.length_take]; omega
  unfold allA
  rw [hlen, if_neg (by omega)]
  have h1 := sub_pre l a b hb (b - a) (Nat.le_refl _)
  have h2 := sub_at l a b 0 (by omega) hb
  unfold hiA
  rw [h1, show a + (b - a) = b by omega]
  have h3 : spA ((l.take b).drop a) 0 = spA l a := by unfold spA; rw [h2]; rfl
  rw [h3]
  simp [preA]

theorem all_l1 (l : List S32) (hn : l.length ≤ 150) (h : Int) (i : Nat) (hi : i < (fillA l h).length) (e : Nat) (r : Option Bool)
    (hnx : ∀ k, e ≤ k → gutterlaw14_FillAll.l0 k l h true (outA l h) (begA l h (i + 1) : Int) ((i : Int) + 1) = r) :
    ∀ (d j k : Nat), begA l h (i + 1) - j = d → begA l h i < j → j ≤ begA l h (i + 1) → e + d + 1 ≤ k → gutterlaw14_FillAll.l1 k l h true (outA l h) (i : Int) (j : Int) = r := by
  have hb := beg_lt l h i hi
  have hm := fill_len l h
  have hsay := end_says l h (begA l h i) ((fill_lt l h i).1 hi)
  rw [← beg_succ] at hsay
  intro d
  induction d with
  | zero =>
    intro j k hd h1 h2 hk
    obtain ⟨k, rfl⟩ : ∃ m, k = m + 1 := ⟨k - 1, by omega⟩
    simp only [gutterlaw14_FillAll.l1]
    rw [rd_out l h i hi, out_len, if_pos (by omega), if_pos (by omega), if_neg (by simp only; omega), w64 (by omega)]
    exact hnx k (by omega)
  | succ d ih =>
    intro j k hd h1 h2 hk
    obtain ⟨k, rfl⟩ : ∃ m, k = m + 1 := ⟨k - 1, by omega⟩
    simp only [gutterlaw14_FillAll.l1]
    rw [rd_out l h i hi, out_len, if_pos (by omega), if_pos (by omega), if_pos (by simp only; omega), if_pos (by omega), if_pos (by omega), rd_32, if_neg (show ¬ (atA l j).f4 = 2 from hsay.1 j h1 (by omega)), w64 (by omega), show ((j : Int) + 1) = ((j + 1 : Nat) : Int) by push_cast; rfl]
    exact ih (j + 1) k (by omega) (by omega) (by omega) (by omega)

theorem all_l0 (l : List S32) (hr : rightA l = true) (hn : l.length ≤ 150) (h : Int) : ∀ (n i k : Nat), (fillA l h).length - i = n → i ≤ (fillA l h).length → 160 + 4 * (l.length - begA l h i) ≤ k →
    gutterlaw14_FillAll.l0 k l h true (outA l h) (begA l h i : Int) (i : Int) = some true := by
  intro n
  induction n with
  | zero =>
    intro i k hi h1 hk
    obtain ⟨k, rfl⟩ : ∃ m, k = m + 1 := ⟨k - 1, by omega⟩
    obtain rfl : i = (fillA l h).length := by omega
    simp only [gutterlaw14_FillAll.l0]
    rw [out_len, if_neg (by omega), if_pos trivial, beg_end]
    simp
  | succ n ih =>
    intro i k hi h1 hk
    have hlt : i < (fillA l h).length := by omega
    have hb := beg_lt l h i hlt
    have hm := fill_len l h
    have hsay := end_says l h (begA l h i) ((fill_lt l h i).1 hlt)
    rw [← beg_succ] at hsay
    obtain ⟨k, rfl⟩ : ∃ m, k = m + 2 := ⟨k - 2, by omega⟩
    have hlen : ((l.take (begA l h (i + 1))).drop (begA l h i)).length = begA l h (i + 1) - begA l h i := by rw [List.length_drop, List.length_take]; omega
    have hH : gutterref13_High.f (k + 1) ((l.take (begA l h (i + 1))).drop (begA l h i)) = some (hiA l (begA l h i) (begA l h (i + 1))) := by
      rw [high_right _ (sub_right l hr _ _) (by rw [hlen]; omega), sub_all l _ _ hb.1 hb.2]
    have hl1 : gutterlaw14_FillAll.l1 k l h true (outA l h) (i : Int) ((begA l h i + 1 : Nat) : Int) = some true := by
      refine all_l1 l hn h i hlt (160 + 4 * (l.length - begA l h (i + 1))) (some true) (fun k2 hk2 => ?_) (begA l h (i + 1) - (begA l h i + 1)) (begA l h i + 1) k rfl (by omega) (by omega) (by omega)
      rw [show ((i : Int) + 1) = ((i + 1 : Nat) : Int) by push_cast; rfl]
      exact ih (i + 1) k2 (by omega) (by omega) hk2
    have hj : gutterlaw14_FillAll.j1 (k + 1) l h true (outA l h) (begA l h i : Int) (i : Int) false = some true := by
      simp only [gutterlaw14_FillAll.j1]
      rw [if_neg (by simp), w64 (by omega), show ((begA l h i : Int) + 1) = ((begA l h i + 1 : Nat) : Int) by push_cast; rfl]
      exact hl1
    simp only [gutterlaw14_FillAll.l0]
    rw [rd_out l h i hlt, out_len, if_pos (by omega), if_pos (by omega), if_pos rfl, if_neg (by simp only; omega), if_neg (by simp only; omega), if_pos (by omega), if_pos (by simp only; omega), if_pos (by simp only; omega)]
    simp only [Int.toNat_natCast]
    rw [hH, Option.bind_some, if_pos rfl]
    by_cases hc : hiA l (begA l h i) (begA l h (i + 1)) > h
    · have hb1 : begA l h (i + 1) = begA l h i + 1 := by
        rcases hsay.2.1 with e | e
        · omega
        · exact e
      rw [if_pos hc, w64 (by omega), show (((begA l h (i + 1) : Nat) : Int) != ((begA l h i : Nat) : Int) + 1) = false by rw [hb1]; simp]
      exact hj
    · rw [if_neg hc]
      exact hj

theorem FillAll_true (l0 : List S32) (a1 : Int) : gutterlaw14_FillAll.f 1000 l0 a1 = some true := by
  unfold gutterlaw14_FillAll.f
  have hf := few_len l0
  rw [shown_f (by omega), Option.bind_some, few_f, Option.bind_some]
  generalize fewA l0 = l at hf
  by_cases h1 : fineA l a1 = true
  · have hfv : fill_Fill.f l a1 = some (outA l a1, 0) := by unfold fill_Fill.f; rw [if_pos h1]; rfl
    rw [hfv, Option.bind_some, if_pos rfl]
    have hr : rightA l = true := by
      unfold fineA at h1
      simp only [Bool.and_eq_true] at h1
      exact h1.1.1
    exact all_l0 l hr hf a1 (fillA l a1).length 0 1000 (by omega) (by omega) (by omega)
  · have hfv : fill_Fill.f l a1 = some ([], 130) := by unfold fill_Fill.f; rw [if_neg h1]
    rw [hfv, Option.bind_some, if_neg (by simp), if_pos rfl]
    rfl

end Go.Proofs.YtjpifknencfipaaDoor.P
namespace Go.Proofs.YtjpifknencfipaaDoor.FillAllRow
open Go
set_option maxRecDepth 100000
theorem h10 : (Rows.fillAllRow.inPlace == Tryd.prog.inPlace 16) = true := by kernel_rfl
theorem h11 : (Rows.fillAllRow.unfollowed == Tryd.prog.unfollowed 16) = true := by kernel_rfl
theorem h12 : (Rows.fillAllRow.recurses == Tryd.prog.recurses 16) = true := by kernel_rfl
theorem h13 : (Rows.fillAllRow.named == Tryd.prog.varsNamed 16) = true := by kernel_rfl
theorem g1 : (Rows.fillAllRow.plainKeys == Tryd.prog.plainKeys) = true := Rd.g1
theorem g4 : (Rows.fillAllRow.lifted == Tryd.prog.liftsFinal) = true := Rd.g4
theorem g5 : (Tryd.prog.make == some Rows.fillAllRow.make) = true := Rd.g5
theorem closed : joinedFacts Tryd.prog 16 Tryd.f16 Rows.fillAllSpec Rows.fillAllRow = true := by
  unfold joinedFacts
  rw [Rd.f2, Rd.f3, Rd.f7, Rd.f9, h10, h11, h12, h13, g1, Rd.g2, Rd.g3, g4, g5]
  kernel_rfl
end Go.Proofs.YtjpifknencfipaaDoor.FillAllRow

namespace Go.Proofs.YtjpifknencfipaaDoor.FillAllRow
open Go.ChangeShapes Go.WideShapes Go.ChangeAt Go.RowKit Go.Proofs.YtjpifknencfipaaDoor Go.Proofs.YtjpifknencfipaaDoor.P
set_option maxRecDepth 100000 in
theorem lifted (os : Os) (started : os.Started) (H : Type) (enc : TypeId × Value → H) :
    ReturnsInHanded {} Tryd.checked os 16 .any (fun w args => (Rows.fillAllSpec.pre enc Tryd.prog Tryd.f16 [] false w args ∧ laidMetH Tryd.prog R.L1 w) ∧ sizedMet enc Tryd.prog Tryd.f16 (OpenSpec.ofChange Rows.fillAllSpec) false w args)
      (Rows.fillAllSpec.post enc Tryd.prog Tryd.f16 false true false false) := by
  refine returnsInHanded_of_change_and (C := Tryd.checked) (X := fun w _ => laidMetH Tryd.prog R.L1 w) (fun _ _ _ hh h => h.of_heap hh) R.own started (by kernel_rfl) Tryd.func16
    (ChangeSpec.witness_at (enc := enc) (C := Tryd.checked) (os := os) (X := fun w _ => laidMetH Tryd.prog R.L1 w) false (World.laidAll Tryd.prog os R.L1) #[.slice none 0 0, .int .i64 0] 8 rfl (by kernel_rfl) (by kernel_rfl) (by kernel_rfl) (by kernel_rfl) (by kernel_rfl) (R.met1 os _)) ?_
  intro W base args ds gs before hval0 hW _ _ hL _
  have hval : ∀ (j : Nat) t v, Tryd.f16.params[j]? = some t → args[j]? = some v → Value.okWide Tryd.prog W .any base t v := hval0
  have hW' := hW
  obtain ⟨p, q, hA0, hV, rfl, hfz, hnd⟩ := hW
  have hA : DataW.TrodAll enc Tryd.prog W 0 (fun _ => true) true Tryd.f16.params.toList args.toList ds p := hA0
  rw [Tryd.params16] at hA hval
  obtain ⟨v0, vs0, d0, ds0, p0, q0, hargs, rfl, rfl, h0, r0⟩ := trodAll_cons hA
  obtain ⟨v1, vs1, d1, ds1, p1, q1, rfl, rfl, rfl, h1, r1⟩ := trodAll_cons r0
  obtain ⟨rfl, rfl, rfl⟩ := trodAll_nil r1
  obtain rfl : args = #[v0, v1] := by cases args; simp_all
  obtain ⟨rfl, rfl⟩ := trodVars_none hV
  obtain ⟨A0, len0, cap0, rfl⟩ := okWide_slice Tryd.underlying22 (hval 0 22 v0 rfl rfl)
  have k0 := h0
  have lt0 : ∀ x ∈ p0, x.block < W.heap.size := by obtain ⟨m, hm⟩ := k0; exact DataW.trod_lt m _ _ _ hm
  obtain ⟨l0, e0, c0, K0⟩ := R.atoms_in h0
  subst e0
  obtain ⟨a1, rfl, rfl, rfl, w1⟩ := open_int Tryd.underlying2 (hval 1 2 v1 rfl rfl) h1
  refine (gutterlaw14_FillAll.calls (1000) _ _ l0 a1 true W K0 c0 (R.gl1 hL) (FillAll_true l0 a1)).mono fun e W' ⟨he, bel⟩ => ?_
  subst he
  exact ⟨_, rfl, _, _, _, [], _, [], hW', trodAll_mk1 (shut_bool Tryd.underlying4 _), (trodAll_cons_mk (Below.trod R.laidOut (by kernel_rfl) (of_decide_eq_true (by kernel_rfl)) k0 bel lt0) (trodAll_cons_mk (shut_int Tryd.underlying2 w1) trodAll_mk0)), rfl, bel.frame _, fun h => by cases h⟩
set_option maxRecDepth 100000
theorem named : Tryd.prog.funcNamed Rows.fillAllRow.func = some 16 := by kernel_rfl
theorem inst : Tryd.f16.isInstance Tryd.prog Rows.fillAllRow.origin Rows.fillAllRow.targs := of_decide_eq_true (by kernel_rfl)
theorem wrap : Tryd.f16.isWrapper Tryd.prog Rows.fillAllRow.wrapper Rows.fillAllRow.mainSum := by unfold Func.isWrapper; first | (rw [if_pos (by decide +kernel)]; kernel_rfl) | (rw [if_neg (by decide +kernel)]; exact ⟨rfl, rfl⟩)
theorem goes : false = Rows.fillAllRow.goesBy Tryd.pinned.checked.prog := by kernel_rfl
theorem byText : Rows.fillAllRow.wfByText (OpenSpec.ofChange Rows.fillAllSpec) = true := by kernel_rfl
theorem over : Rows.FillAllSaid :=
  OpenClaim.holds_of_wide 16 Tryd.f16 rfl rfl rfl rfl rfl rfl rfl ⟨rfl, rfl, rfl, rfl, rfl⟩ rfl rfl rfl rfl rfl named Tryd.func16 closed inst wrap
    (fun os started H enc _ => lifted os started H enc)
theorem noStand : ∀ (j : Nat) (t : TypeId), Tryd.f16.params[j]? = some t → Tryd.prog.wantsStandIn t = false := by
  intro j t ht
  rw [Tryd.params16] at ht
  have h3 : t = 2 ∨ t = 22 := by
    match j, ht with
    | 0, ht => cases ht; simp
    | 1, ht => cases ht; simp
    | j + 2, ht => simp at ht
  rcases h3 with rfl | rfl
  · exact R.stand2
  · exact R.stand22
end Go.Proofs.YtjpifknencfipaaDoor.FillAllRow
namespace Go.Proofs.YtjpifknencfipaaDoor
open Go
/-- The tied card. -/
theorem fillAll_card : Rows.FillAllCardSaid :=
  Claim7.holds_tied_plain_at .later [] [.sentinel] true (true, "b9d29a5a8ac8ffd65bd7abf0387edf791e422c0f8ec1e9ac251d4174caa9c425") true
    FillAllRow.over (fun _ h => by cases h) FillAllRow.byText (fun _ h => by cases h) fillAll_row_tie rfl ⟨rfl, rfl⟩ R.mainFact rfl
    (fun f fn hf hfn => by
      obtain rfl : f = 16 := (Option.some.inj (FillAllRow.named.symm.trans hf)).symm
      obtain rfl : fn = Tryd.f16 := (Option.some.inj (Tryd.func16.symm.trans hfn)).symm
      exact ⟨R.looksFact, FillAllRow.noStand⟩)
    FillAllRow.goes
#print axioms fillAll_card
end Go.Proofs.YtjpifknencfipaaDoor
