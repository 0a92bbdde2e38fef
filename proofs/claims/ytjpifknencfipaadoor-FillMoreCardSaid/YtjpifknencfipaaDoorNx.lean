/- fill's filler in memory: what its methods step, last and next answer. Conditions: the filler's block holds the atoms' slice, which reads as a list of right atoms, and the height. -/
import Derived.Test.YtjpifknencfipaaDoorFm
import Derived.Test.YtjpifknencfipaaDoorSz
set_option linter.unusedVariables false
set_option linter.unusedSimpArgs false
namespace Go.Proofs.YtjpifknencfipaaDoor.P
open Go.RowKit Go.Proofs.YtjpifknencfipaaDoorW.PrintWords Go.Proofs.YtjpifknencfipaaDoorW.PrintLast Go.Proofs.YtjpifknencfipaaDoorW.PrintMore
attribute [local go_sem] max2_int min2_int max_two min_two max_three min_three max_four min_four

/-- A block whose first cell holds a slice of atoms (a filler, a search, a layer). -/
def Atoms (l : List S32) (g : Nat) (w : World) : Prop := ∃ A c, w.cell? ⟨g, 0, none⟩ = some (.slice A l.length c) ∧ l.length ≤ c ∧ Kd.C k32 w A l.length l
theorem Atoms.below {l : List S32} {g : Nat} {w w1 : World} (h : Atoms l g w) (hb : Below w.heap.size w w1) : Atoms l g w1 := by
  obtain ⟨A, c, h1, h2, h3⟩ := h
  exact ⟨A, c, pw_cell_below hb h1, h2, Kd.C_below h3 hb⟩
theorem okA_of {l : List S32} (h : rightA l = true) (i : Nat) (hi : i < l.length) : okA (atA l i) := by
  unfold rightA at h
  simp only [Bool.and_eq_true, decide_eq_true_eq] at h
  have : atA l i = l[i] := by simp [atA, List.getD_eq_getElem?_getD, List.getElem?_eq_getElem hi]
  rw [this]
  exact h.1 _ (List.getElem_mem hi)
theorem len_of {l : List S32} (h : rightA l = true) : l.length ≤ 2000 := by
  unfold rightA at h
  simp only [Bool.and_eq_true, decide_eq_true_eq] at h
  exact h.2
theorem hh_of {l : List S32} (h : rightA l = true) (i : Nat) (hi : i < l.length) : 1 ≤ hhA l i ∧ hhA l i ≤ 1073741824 ∧ 0 ≤ spA l i ∧ spA l i ≤ 1048576 := by
  have := okA_of h i hi
  unfold okA at this
  exact ⟨this.1, this.2.1, this.2.2.1, this.2.2.2.1⟩

/-- An atom's cells. -/
theorem atom_cells {w : World} {A : Option Addr} {l : List S32} (h : Kd.C k32 w A l.length l) (i : Nat) (hi : i < l.length) :
    ∃ ad, A = some ad ∧ w.cell? (ad.add (i * 5)) = some (.int .i64 (atA l i).f0) ∧ w.cell? ⟨(ad.add (i * 5)).block, (ad.add (i * 5)).off + 1, none⟩ = some (.int .i64 (atA l i).f1) ∧
      w.cell? ⟨(ad.add (i * 5)).block, (ad.add (i * 5)).off + 2, none⟩ = some (.int .i64 (hhA l i)) ∧ w.cell? ⟨(ad.add (i * 5)).block, (ad.add (i * 5)).off + 3, none⟩ = some (.int .i64 (spA l i)) ∧
      w.cell? ⟨(ad.add (i * 5)).block, (ad.add (i * 5)).off + 4, none⟩ = some (.int .i64 (bkA l i)) := by
  obtain ⟨ad, e, h0, h1, h2, h3, h4⟩ := at_T32 h (i : Int) (by omega) (by omega)
  simp only [Int.toNat_natCast] at h0 h1 h2 h3 h4
  have hx : rd_T32 l (i : Int) = atA l i := by simp [rd_T32, atA]
  rw [hx] at h0 h1 h2 h3 h4
  exact ⟨ad, e, h0, h1, h2, h3, h4⟩

set_option maxHeartbeats 1000000 in
set_option maxRecDepth 100000 in
/-- (*atoms).step. -/
theorem step_calls (l : List S32) (hl : rightA l = true) (g : Nat) (i : Nat) (w : World) (hA : Atoms l g w) (hi : i < l.length) :
    Calls Tryd.prog 89 #[.pointer (some ⟨g, 0, none⟩), .int .i64 i] w fun e w' => e = .returned (.int .i64 (stA l i)) ∧ ∃ n, w' = w.drewN n := by
  obtain ⟨A, c, hc, hcl, hC⟩ := hA
  have hlen := len_of hl
  obtain ⟨b1, b2, b3, b4⟩ := hh_of hl i hi
  obtain ⟨ad, rfl, h0, h1, h2, h3, h4⟩ := atom_cells hC i hi
  have HS : Hid (stA l i = spA l i + hhA l i) := Lib.hid rfl
  obtain ⟨s, hs⟩ : ∃ s, spA l i = s := ⟨_, rfl⟩
  obtain ⟨t, ht⟩ : ∃ s, hhA l i = s := ⟨_, rfl⟩
  rw [hs] at b3 b4 h3 HS
  rw [ht] at b1 b2 h2 HS
  clear hs ht h0 h1 h4 hC hl
  have i0 : (0 : Int) ≤ i := by omega
  have i1 : (i : Int) < l.length := by omega
  have e1 : IntKind.i64.wrap (s + t) = s + t := by rw [IntKind.wrap_i64]; omega
  go_enter Tryd.func89, Tryd.ntmps89
  go_wp2
  go_quiet (fail)
  go_wp2
  go_ret
  exact ⟨ret_int HS.out.symm, ⟨_, rfl⟩⟩

set_option maxHeartbeats 1000000 in
set_option maxRecDepth 100000 in
/-- (*atoms).last. -/
theorem last_calls (l : List S32) (hl : l.length ≤ 2000) (g : Nat) (a d : Nat) (w : World) (hA : Atoms l g w) (hd : d < l.length) (had : a ≤ d) :
    Calls Tryd.prog 114 #[.pointer (some ⟨g, 0, none⟩), .int .i64 a, .int .i64 d] w fun e w' => e = .returned (.int .i64 (backA l a d d)) ∧ w = w' := by
  obtain ⟨A, c, hc, hcl, hC⟩ := hA
  have HC := Aside0.mk hC
  clear hC
  go_enter Tryd.func114, Tryd.ntmps114
  go_wp2
  go_loop [7] (fun i => ∃ k : Nat, i = .int .i64 k ∧ k ≤ d ∧ a ≤ k ∧ Hid (backA l a d d = backA l a d k)) (fun i => (intOf i).toNat)
  case atStart => exact ⟨d, rfl, Nat.le_refl _, had, Lib.hid rfl⟩
  case round =>
    obtain ⟨k, rfl, hk, hak, HI⟩ := hrel
    by_cases hgt : a < k
    · obtain ⟨ad, rfl, h0, h1, h2, h3, h4⟩ := atom_cells HC.out k (by omega)
      obtain ⟨j, rfl⟩ : ∃ j, k = j + 1 := ⟨k - 1, by omega⟩
      clear h0 h1 h2 h3
      by_cases hb : bkA l (j + 1) = 0
      · have HI2 : Hid (backA l a d d = j + 1) := Lib.hid (by rw [HI.out]; unfold backA; rw [if_neg (by omega), if_pos hb])
        rw [hb] at h4
        clear HI hb
        go_wp2
        go_ret
        exact ⟨ret_int (by rw [HI2.out]; simp), rfl⟩
      · have HI2 : Hid (backA l a d d = backA l a d j) := Lib.hid (by rw [HI.out]; conv => lhs; unfold backA; rw [if_neg (by omega), if_neg hb])
        obtain ⟨b, hb2⟩ : ∃ b, bkA l (j + 1) = b := ⟨_, rfl⟩
        rw [hb2] at h4 hb
        have hb3 : (b == 0) = false := by simpa using hb
        clear HI hb hb2
        go_wp2
        go_round
        case rel => exact ⟨j, by go_num, by omega, by omega, HI2⟩
        case measure => simp [intOf]
    · have hk0 : k = a := by omega
      have HI2 : Hid (backA l a d d = d) := Lib.hid (by
        rw [HI.out, hk0]
        cases a with
        | zero => rfl
        | succ a => unfold backA; rw [if_pos (Nat.le_refl _)])
      clear hk0 HI
      go_wp2
      go_ret
      exact ⟨ret_int (by rw [HI2.out]), rfl⟩

end Go.Proofs.YtjpifknencfipaaDoor.P
