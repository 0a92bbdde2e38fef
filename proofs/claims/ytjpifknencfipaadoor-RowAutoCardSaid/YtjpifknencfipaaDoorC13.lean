/- The law RowAuto answers true, whatever comes in, and leaves what came in as it was: the row and the tied card. Conditions: none. -/
import Derived.Test.YtjpifknencfipaaDoorRows
import Derived.Test.YtjpifknencfipaaDoorTie
import Derived.Test.YtjpifknencfipaaDoorCards
import Derived.Test.YtjpifknencfipaaDoorRw
import Derived.Test.YtjpifknencfipaaDoorRd
import Derived.Test.YtjpifknencfipaaDoorLr
import Derived.Test.YtjpifknencfipaaDoorP40
import Derived.Test.YtjpifknencfipaaDoorP13
import Derived.WalkKit
import Derived.ProofKit
import Derived.OpenShut
import Derived.ChangeOld
import Derived.Below
import Derived.SizedLaws
import Derived.JoinedOf
import Derived.ChangeVars
import Derived.SevenTiedAt
import Derived.Stop.Joined
set_option linter.unusedVariables false
set_option linter.unusedSimpArgs false
namespace Go.Proofs.YtjpifknencfipaaDoor.P
open Go.RowKit Go.Proofs.YtjpifknencfipaaDoorW.PrintWords Go.Proofs.YtjpifknencfipaaDoorW.PrintLast Go.Proofs.YtjpifknencfipaaDoorW.PrintMore

def fewR (l : List S32) : List S32 := (fewA l).take 40
theorem fewR_len (l : List S32) : (fewR l).length ≤ 40 := by simp [fewR]; omega
theorem few17_f (l : List S32) : gutterlaw17_few.f l = some (fewR l) := by
  unfold gutterlaw17_few.f
  rw [few_f, Option.bind_some]
  have hmn : mn ((fewA l).length : Int) 40 = ((min (fewA l).length 40 : Nat) : Int) := by unfold mn; omega
  rw [hmn, if_pos (by omega), if_pos (by omega), Int.toNat_natCast]
  congr 1
  unfold fewR
  rw [List.take_eq_take_iff]
  omega

theorem auto_l0 (l : List S32) (hn : l.length ≤ 150) (av rc : Int) (fs : List S58) (d : Nat) : ∀ (k i m : Nat), l.length - i = d → d < k → m ≤ i →
    gutterlaw17_RowAuto.l0 k l true av (m : Int) (i : Int) av rc fs = some (rc == ((m + mustA l i d : Nat) : Int)) := by
  induction d with
  | zero =>
    intro k i m hd hk hm
    obtain ⟨k, rfl⟩ : ∃ m, k = m + 1 := ⟨k - 1, by omega⟩
    simp only [gutterlaw17_RowAuto.l0]
    rw [if_neg (by omega), if_pos trivial, if_pos trivial]
    simp [mustA]
  | succ d ih =>
    intro k i m hd hk hm
    obtain ⟨k, rfl⟩ : ∃ m, k = m + 1 := ⟨k - 1, by omega⟩
    simp only [gutterlaw17_RowAuto.l0]
    rw [if_pos (by omega), if_pos (by omega), rd_32, w64 (x := (i : Int) + 1) (by omega), w64 (x := (m : Int) + 1) (by omega), show ((i : Int) + 1) = ((i + 1 : Nat) : Int) by push_cast; rfl, show ((m : Int) + 1) = ((m + 1 : Nat) : Int) by push_cast; rfl]
    have e : mustA l i (d + 1) = (if bkA l i = 2 then 1 else 0) + mustA l (i + 1) d := rfl
    rw [e]
    by_cases hb : (atA l i).f4 = 2
    · rw [if_pos hb, if_pos (show bkA l i = 2 from hb), ih k (i + 1) (m + 1) (by omega) (by omega) (by omega), show m + 1 + mustA l (i + 1) d = m + (1 + mustA l (i + 1) d) by omega]
    · rw [if_neg hb, if_neg (show ¬ bkA l i = 2 from hb), ih k (i + 1) m (by omega) (by omega) (by omega), Nat.zero_add]

theorem auto_j0 (k : Nat) (hk : 0 < k) (l : List S32) (h av rc : Int) (fs : List S58) : gutterlaw17_RowAuto.j0 k l true av true h rc fs = some true := by
  obtain ⟨k, rfl⟩ : ∃ m, k = m + 1 := ⟨k - 1, by omega⟩
  simp only [gutterlaw17_RowAuto.j0]
  rw [if_pos trivial]

theorem RowAuto_true (l0 : List S32) (a1 a2 : Int) : gutterlaw17_RowAuto.f 1000 l0 a1 a2 = some true := by
  unfold gutterlaw17_RowAuto.f
  have hf := fewR_len l0
  rw [shown17 (by omega), Option.bind_some, few17_f, Option.bind_some]
  generalize fewR l0 = l at hf
  obtain ⟨v, hv⟩ := high_any l (by omega)
  rw [hv 1000 (by omega), Option.bind_some]
  by_cases ho : layOkA l a1 64 16 (wrap64 (v + a2)) = true
  · obtain ⟨hr, h0, h1, -⟩ := lay_right ho
    rw [lay_ok true ho, Option.bind_some, if_pos rfl]
    have hva : v = allA l := by
      have := hv 1000 (by omega)
      rw [high_right l hr (by omega)] at this
      exact (Option.some.inj this).symm
    have hal := all_range l hr
    by_cases q1 : a2 < 1
    · rw [if_pos q1]
      exact auto_j0 1000 (by omega) l _ _ _ _
    · rw [if_neg q1]
      by_cases q2 : a2 > 1000
      · rw [decide_eq_true q2]
        exact auto_j0 1000 (by omega) l _ _ _ _
      · rw [decide_eq_false q2]
        have hw : wrap64 (v + a2) = v + a2 := w64 (by omega)
        rw [hw]
        have hrh : rowHA l a1 (v + a2) true = v + a2 := by
          unfold rowHA
          rw [if_pos ⟨rfl, by omega⟩]
        simp only [hrh, gutterlaw17_RowAuto.j0]
        rw [if_neg (by simp)]
        have hc := fill_count l hr (v + a2) (by omega) (by omega)
        have hmn : mn 1 (l.length : Int) = ((min 1 l.length : Nat) : Int) := by
          unfold mn
          omega
        rw [hmn, show (1 : Int) = ((1 : Nat) : Int) from rfl, auto_l0 l (by omega) _ _ _ (l.length - 1) 999 1 (min 1 l.length) rfl (by omega) (by omega), hc]
        by_cases hz : 0 < l.length
        · rw [if_pos hz, show min 1 l.length = 1 by omega]
          simp
        · rw [if_neg hz, show min 1 l.length = 0 by omega, show l.length - 1 = 0 by omega]
          rfl
  · rw [lay_bad true ho, Option.bind_some, if_neg (by simp)]
    exact auto_j0 1000 (by omega) l _ _ _ _

end Go.Proofs.YtjpifknencfipaaDoor.P
namespace Go.Proofs.YtjpifknencfipaaDoor.RowAutoRow
open Go
set_option maxRecDepth 100000
theorem h10 : (Rows.rowAutoRow.inPlace == Tryd.prog.inPlace 13) = true := by kernel_rfl
theorem h11 : (Rows.rowAutoRow.unfollowed == Tryd.prog.unfollowed 13) = true := by kernel_rfl
theorem h12 : (Rows.rowAutoRow.recurses == Tryd.prog.recurses 13) = true := by kernel_rfl
theorem h13 : (Rows.rowAutoRow.named == Tryd.prog.varsNamed 13) = true := by kernel_rfl
theorem g1 : (Rows.rowAutoRow.plainKeys == Tryd.prog.plainKeys) = true := Rd.g1
theorem g4 : (Rows.rowAutoRow.lifted == Tryd.prog.liftsFinal) = true := Rd.g4
theorem g5 : (Tryd.prog.make == some Rows.rowAutoRow.make) = true := Rd.g5
theorem closed : joinedFacts Tryd.prog 13 Tryd.f13 Rows.rowAutoSpec Rows.rowAutoRow = true := by
  unfold joinedFacts
  rw [Rd.f2, Rd.f3, Rd.f7, Rd.f9, h10, h11, h12, h13, g1, Rd.g2, Rd.g3, g4, g5]
  kernel_rfl
end Go.Proofs.YtjpifknencfipaaDoor.RowAutoRow

namespace Go.Proofs.YtjpifknencfipaaDoor.RowAutoRow
open Go.ChangeShapes Go.WideShapes Go.ChangeAt Go.RowKit Go.Proofs.YtjpifknencfipaaDoor Go.Proofs.YtjpifknencfipaaDoor.P
set_option maxRecDepth 100000 in
theorem lifted (os : Os) (started : os.Started) (H : Type) (enc : TypeId × Value → H) :
    ReturnsInHanded {} Tryd.checked os 13 .any (fun w args => (Rows.rowAutoSpec.pre enc Tryd.prog Tryd.f13 [] false w args ∧ laidMetH Tryd.prog R.L3 w) ∧ sizedMet enc Tryd.prog Tryd.f13 (OpenSpec.ofChange Rows.rowAutoSpec) false w args)
      (Rows.rowAutoSpec.post enc Tryd.prog Tryd.f13 false true false false) := by
  refine returnsInHanded_of_change_and (C := Tryd.checked) (X := fun w _ => laidMetH Tryd.prog R.L3 w) (fun _ _ _ hh h => h.of_heap hh) R.own started (by kernel_rfl) Tryd.func13
    (ChangeSpec.witness_at (enc := enc) (C := Tryd.checked) (os := os) (X := fun w _ => laidMetH Tryd.prog R.L3 w) false (World.laidAll Tryd.prog os R.L3) #[.slice none 0 0, .int .i64 0, .int .i64 0] 8 rfl (by kernel_rfl) (by kernel_rfl) (by kernel_rfl) (by kernel_rfl) (by kernel_rfl) (R.met3 os _)) ?_
  intro W base args ds gs before hval0 hW _ _ hL _
  have hval : ∀ (j : Nat) t v, Tryd.f13.params[j]? = some t → args[j]? = some v → Value.okWide Tryd.prog W .any base t v := hval0
  have hW' := hW
  obtain ⟨p, q, hA0, hV, rfl, hfz, hnd⟩ := hW
  have hA : DataW.TrodAll enc Tryd.prog W 0 (fun _ => true) true Tryd.f13.params.toList args.toList ds p := hA0
  rw [Tryd.params13] at hA hval
  obtain ⟨v0, vs0, d0, ds0, p0, q0, hargs, rfl, rfl, h0, r0⟩ := trodAll_cons hA
  obtain ⟨v1, vs1, d1, ds1, p1, q1, rfl, rfl, rfl, h1, r1⟩ := trodAll_cons r0
  obtain ⟨v2, vs2, d2, ds2, p2, q2, rfl, rfl, rfl, h2, r2⟩ := trodAll_cons r1
  obtain ⟨rfl, rfl, rfl⟩ := trodAll_nil r2
  obtain rfl : args = #[v0, v1, v2] := by cases args; simp_all
  obtain ⟨rfl, rfl⟩ := trodVars_none hV
  obtain ⟨A0, len0, cap0, rfl⟩ := okWide_slice Tryd.underlying22 (hval 0 22 v0 rfl rfl)
  have k0 := h0
  have lt0 : ∀ x ∈ p0, x.block < W.heap.size := by obtain ⟨m, hm⟩ := k0; exact DataW.trod_lt m _ _ _ hm
  obtain ⟨l0, e0, c0, K0⟩ := R.atoms_in h0
  subst e0
  obtain ⟨a1, rfl, rfl, rfl, w1⟩ := open_int Tryd.underlying3 (hval 1 3 v1 rfl rfl) h1
  obtain ⟨a2, rfl, rfl, rfl, w2⟩ := open_int Tryd.underlying2 (hval 2 2 v2 rfl rfl) h2
  refine (gutterlaw17_RowAuto.callsT (1000) _ _ l0 a1 a2 true W K0 c0 (R.gl3 hL) (RowAuto_true l0 a1 a2) rfl).mono fun e W' ⟨he, bel⟩ => ?_
  subst he
  exact ⟨_, rfl, _, _, _, [], _, [], hW', trodAll_mk1 (shut_bool Tryd.underlying4 _), (trodAll_cons_mk (Below.trod R.laidOut (by kernel_rfl) (of_decide_eq_true (by kernel_rfl)) k0 bel lt0) (trodAll_cons_mk (shut_int Tryd.underlying3 w1) (trodAll_cons_mk (shut_int Tryd.underlying2 w2) trodAll_mk0))), rfl, bel.frame _, fun h => by cases h⟩
set_option maxRecDepth 100000
theorem named : Tryd.prog.funcNamed Rows.rowAutoRow.func = some 13 := by kernel_rfl
theorem inst : Tryd.f13.isInstance Tryd.prog Rows.rowAutoRow.origin Rows.rowAutoRow.targs := of_decide_eq_true (by kernel_rfl)
theorem wrap : Tryd.f13.isWrapper Tryd.prog Rows.rowAutoRow.wrapper Rows.rowAutoRow.mainSum := by unfold Func.isWrapper; first | (rw [if_pos (by decide +kernel)]; kernel_rfl) | (rw [if_neg (by decide +kernel)]; exact ⟨rfl, rfl⟩)
theorem goes : false = Rows.rowAutoRow.goesBy Tryd.pinned.checked.prog := by kernel_rfl
theorem byText : Rows.rowAutoRow.wfByText (OpenSpec.ofChange Rows.rowAutoSpec) = true := by kernel_rfl
theorem over : Rows.RowAutoSaid :=
  OpenClaim.holds_of_wide 13 Tryd.f13 rfl rfl rfl rfl rfl rfl rfl ⟨rfl, rfl, rfl, rfl, rfl⟩ rfl rfl rfl rfl rfl named Tryd.func13 closed inst wrap
    (fun os started H enc _ => lifted os started H enc)
theorem noStand : ∀ (j : Nat) (t : TypeId), Tryd.f13.params[j]? = some t → Tryd.prog.wantsStandIn t = false := by
  intro j t ht
  rw [Tryd.params13] at ht
  have h3 : t = 2 ∨ t = 3 ∨ t = 22 := by
    match j, ht with
    | 0, ht => cases ht; simp
    | 1, ht => cases ht; simp
    | 2, ht => cases ht; simp
    | j + 3, ht => simp at ht
  rcases h3 with rfl | rfl | rfl
  · exact R.stand2
  · exact R.stand3
  · exact R.stand22
end Go.Proofs.YtjpifknencfipaaDoor.RowAutoRow
namespace Go.Proofs.YtjpifknencfipaaDoor
open Go
/-- The tied card. -/
theorem rowAuto_card : Rows.RowAutoCardSaid :=
  Claim7.holds_tied_plain_at .later [] [.sentinel, .sentinel, .sentinel] true (true, "b9d29a5a8ac8ffd65bd7abf0387edf791e422c0f8ec1e9ac251d4174caa9c425") true
    RowAutoRow.over (fun _ h => by cases h) RowAutoRow.byText (fun _ h => by cases h) rowAuto_row_tie rfl ⟨rfl, rfl⟩ R.mainFact rfl
    (fun f fn hf hfn => by
      obtain rfl : f = 13 := (Option.some.inj (RowAutoRow.named.symm.trans hf)).symm
      obtain rfl : fn = Tryd.f13 := (Option.some.inj (Tryd.func13.symm.trans hfn)).symm
      exact ⟨R.looksFact, RowAutoRow.noStand⟩)
    RowAutoRow.goes
#print axioms rowAuto_card
end Go.Proofs.YtjpifknencfipaaDoor
