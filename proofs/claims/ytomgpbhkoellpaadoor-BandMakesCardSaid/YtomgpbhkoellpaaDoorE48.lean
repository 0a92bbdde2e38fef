/- gutterref03.marks: all ends of two bands, rising. Conditions: the slices read as the lists. -/
import Derived.Test.YtomgpbhkoellpaaDoorCl
import Derived.Deep.AppendSrc
set_option linter.unusedVariables false
set_option linter.unusedSimpArgs false
namespace Go.Proofs.YtomgpbhkoellpaaDoor.P
open Go.RowKit Go.Proofs.YtomgpbhkoellpaaDoorW.PrintWords Go.Proofs.YtomgpbhkoellpaaDoorW.PrintLast Go.Proofs.YtomgpbhkoellpaaDoorW.PrintMore

/-- Nothing is appended. -/
theorem run_append_nothing {w : World} {base n c : Nat} {v : Value} {xs : List Value} (hown : w.ownsRow base 24 2 v n xs) (ty : TypeId) :
    (Builtin.append_ #[22, 22] ty #[v, .slice none 0 c]).run Tryd.prog w = .ok v w := by
  obtain ⟨i0, hi, hz0, hz1, hz2⟩ := info24'
  rcases hown.2 with ⟨rfl, _⟩ | ⟨g, cap, cur, rfl, _, _, hcap, _⟩
  · simp [Builtin.append_, run_underlying Tryd.underlying22, sizeOf, typeInfo, hi, Builtin.lenOf, Builtin.firstCells]
  · have := run_append_room_src (P := Tryd.prog) (w := w) 22 22 ty 24 i0 Tryd.underlying22 hi g 0 n cap (.slice none 0 c) 0 [] (Src.ofNil w Tryd.underlying22 c) (by simpa using hcap) (fun j hj => by simp at hj) (fun j hj => by simp at hj)
    simpa [World.setCells] using this

theorem wpList_append_C {w : World} {ops : Array Oper} {rest : List Oper} {o : Oper} {a : Act} {Q : Exit → Act → World → Prop}
    (hg : o.guard = none) (s x : Operand) (hop : o.op = Op.call { callee := Callee.builtin Builtin.append, args := #[s, x], argTypes := #[22, 22] })
    (base : Nat) (v : Value) (n : Nat) (xs : List S24) (hs : a.eval s = v) (hn : n = xs.length) (hown : w.ownsRow base 24 2 v n (cellsB xs)) (A : Option Addr) (c : Nat) (l : List S24) (hx : a.eval x = .slice A l.length c) (hC : Kd.C k24 w A l.length l)
    (b1 : n + l.length ≤ maxLen) (b2 : (n + l.length) * 16 ≤ 140737488355328) (hbase : base ≤ w.heap.size)
    (hK : ∀ v' w', w'.ownsRow base 24 2 v' (n + l.length) (cellsB (xs ++ l)) → w.grownBy w' v.ownBlock → wpList Tryd.prog ops Q rest (a.put o.dst v') w') :
    wpList Tryd.prog ops Q (o :: rest) a w := by
  obtain ⟨i0, hi, hz0, hz1, hz2⟩ := info24'
  cases A with
  | some ad =>
    refine wpList_append_own w hg s x 22 hop base 24 i0 (.agg #[.int .i64 0, .int .i64 0]) 2 16 Tryd.underlying22 hi hz0 hz1 hz2 rfl (by decide) v n _ hs hown ad l.length c (cellsB l) hx (cellsB_len l) (cells_of_C hC) (cellsB_one l) b1 b2 hbase ?_
    intro v' w' h1 h2 _
    refine hK v' w' ?_ h2
    rw [cellsB_append]
    exact h1
  | none =>
    have h0 : l = [] := by
      rcases Nat.eq_zero_or_pos l.length with h | h
      · exact List.eq_nil_of_length_eq_zero h
      · obtain ⟨ad, e, _⟩ := hC.2.2 h
        cases e
    subst h0
    have hrun := run_append_nothing (c := c) hown o.type
    refine wpList_plain hg fun K hK' => ?_
    unfold Oper.wp
    simp only [List.length_nil] at hx
    simp [execOp, hop, resolve, invoke, builtin, hs, hx, hrun, Result.andThen]
    exact hK' _ _ (hK v w (by simpa using hown) (by exact ⟨rfl, rfl, rfl, Nat.le_refl _, fun _ _ _ => rfl⟩))

/-! ### Numbers, sorted as they come -/
def intsB (l : List Int) : List Value := l.map (Value.int .i64)
theorem ends_snoc : ∀ (l : List S24) (x : S24), endsB (l ++ [x]) = endsB l ++ [x.f0, x.f1]
  | [], x => rfl
  | y :: ys, x => by
    show _ :: _ :: endsB (ys ++ [x]) = _
    rw [ends_snoc ys x]
    rfl
theorem ends_len : ∀ l : List S24, (endsB l).length = l.length * 2
  | [] => rfl
  | x :: xs => by
    show (endsB xs).length + 1 + 1 = (xs.length + 1) * 2
    rw [ends_len xs]
    omega
def UpI (l : List Int) : Prop := l.Pairwise fun x y => x ≤ y
theorem insI_len (x : Int) : ∀ l, (insI x l).length = l.length + 1
  | [] => rfl
  | y :: ys => by
    unfold insI
    split
    · simp [insI_len x ys]
    · simp
theorem insI_mem (x z : Int) : ∀ l, z ∈ insI x l ↔ z = x ∨ z ∈ l
  | [] => by simp [insI]
  | y :: ys => by
    unfold insI
    split
    · rw [List.mem_cons, insI_mem x z ys, List.mem_cons]
      exact ⟨fun e => by rcases e with e | e | e <;> simp [e], fun e => by rcases e with e | e | e <;> simp [e]⟩
    · simp
theorem insI_up (x : Int) : ∀ l, UpI l → UpI (insI x l)
  | [], _ => by simp [insI, UpI]
  | y :: ys, h => by
    obtain ⟨h1, h2⟩ := List.pairwise_cons.1 h
    unfold insI
    split
    · next q =>
      refine List.pairwise_cons.2 ⟨fun z hz => ?_, insI_up x ys h2⟩
      rcases (insI_mem x z ys).1 hz with rfl | hz
      · exact q
      · exact h1 z hz
    · next q =>
      refine List.pairwise_cons.2 ⟨fun z hz => ?_, h⟩
      rcases List.mem_cons.1 hz with rfl | hz
      · omega
      · have := h1 z hz
        omega
/-- Where a number comes to lie: behind those that are not greater. -/
theorem insI_at (x : Int) : ∀ (l : List Int) (k : Nat), k ≤ l.length → (∀ j, j < k → l.getD j 0 ≤ x) → (k < l.length → x < l.getD k 0) → insI x l = l.take k ++ x :: l.drop k
  | [], k, hk, _, _ => by
    obtain rfl : k = 0 := by simpa using hk
    rfl
  | y :: ys, 0, hk, _, h2 => by
    have : x < y := h2 (by simp)
    unfold insI
    rw [if_neg (by omega)]
    rfl
  | y :: ys, k + 1, hk, h1, h2 => by
    have hy : y ≤ x := h1 0 (by omega)
    unfold insI
    rw [if_pos hy, insI_at x ys k (by simpa using hk) (fun j hj => h1 (j + 1) (by omega)) (fun h => h2 (by simpa using h))]
    rfl
theorem sortI_snoc (l : List Int) (x : Int) : sortI (l ++ [x]) = insI x (sortI l) := by simp [sortI]
theorem sortI_len : ∀ l : List Int, (sortI l).length = l.length := by
  have : ∀ (l o : List Int), (l.foldl (fun o x => insI x o) o).length = o.length + l.length := by
    intro l
    induction l with
    | nil => intro o; simp
    | cons x xs ih => intro o; simp only [List.foldl_cons, List.length_cons]; rw [ih, insI_len]; omega
  intro l
  have := this l []
  simpa [sortI] using this
theorem sortI_up : ∀ l : List Int, UpI (sortI l) := by
  have : ∀ (l o : List Int), UpI o → UpI (l.foldl (fun o x => insI x o) o) := by
    intro l
    induction l with
    | nil => intro o h; exact h
    | cons x xs ih => intro o h; exact ih _ (insI_up x o h)
  exact fun l => this l [] List.Pairwise.nil
theorem up_getD {l : List Int} (h : UpI l) (i j : Nat) (hij : i ≤ j) (hj : j < l.length) : l.getD i 0 ≤ l.getD j 0 := by
  rcases Nat.eq_or_lt_of_le hij with e | e
  · subst e
    exact Int.le_refl _
  · have := List.pairwise_iff_getElem.1 h i j (by omega) hj e
    simpa [List.getD_eq_getElem?_getD, List.getElem?_eq_getElem hj, List.getElem?_eq_getElem (show i < l.length by omega)] using this

/-- One number on its way ahead: where it stands. -/
def atI (P : List Int) (x : Int) (R : List Int) (k : Nat) : List Int := P.take k ++ x :: (P.drop k ++ R)
theorem atI_len (P : List Int) (x : Int) (R : List Int) (k : Nat) : (atI P x R k).length = P.length + R.length + 1 := by
  unfold atI
  simp only [List.length_append, List.length_cons, List.length_take, List.length_drop]
  omega
theorem atI_split (P : List Int) (m : Nat) (hm : m < P.length) : P.take (m + 1) = P.take m ++ [P.getD m 0] ∧ P.drop m = P.getD m 0 :: P.drop (m + 1) := by
  constructor
  · rw [List.take_succ_eq_append_getElem hm]
    simp [List.getD_eq_getElem?_getD, List.getElem?_eq_getElem hm]
  · rw [List.drop_eq_getElem_cons hm]
    simp [List.getD_eq_getElem?_getD, List.getElem?_eq_getElem hm]
theorem atI_get (P : List Int) (x : Int) (R : List Int) (m : Nat) (hm : m < P.length) : (atI P x R (m + 1))[m]? = some (P.getD m 0) ∧ (atI P x R (m + 1))[m + 1]? = some x := by
  unfold atI
  rw [(atI_split P m hm).1]
  have hl : (P.take m).length = m := by rw [List.length_take]; omega
  constructor
  · rw [List.append_assoc, List.getElem?_append_right (by omega), hl, Nat.sub_self]
    rfl
  · rw [List.append_assoc, List.getElem?_append_right (by omega), hl, show m + 1 - m = 1 by omega]
    rfl
theorem atI_set (P : List Int) (x : Int) (R : List Int) (m : Nat) (hm : m < P.length) : ((atI P x R (m + 1)).set (m + 1) (P.getD m 0)).set m x = atI P x R m := by
  unfold atI
  rw [(atI_split P m hm).1, (atI_split P m hm).2]
  have hl : (P.take m).length = m := by rw [List.length_take]; omega
  rw [List.append_assoc, List.set_append_right _ _ (by omega), hl, show m + 1 - m = 1 by omega, List.set_append_right _ _ (by omega), hl, Nat.sub_self]
  rfl

attribute [local go_sem] max2_int min2_int max_two min_two max_three min_three max_four min_four
mutual
def gutterref03_marks.l0 : Nat → List Int → List (S24) → Int → Option (List Int)
  | 0, _, _, _ => none
  | k + 1, x5, x6, x7 => if x7 < (x6.length : Int) then (if 0 ≤ x7 then ((some (([(rd_T24 x6 x7).f0, (rd_T24 x6 x7).f1] : List Int) : List Int)).bind fun y154 => (if x5.length + y154.length < 17592186044416 then (gutterref03_marks.l0 k (x5 ++ y154) x6 (wrap64 (x7 + 1))) else (none))) else (none)) else (gutterref03_marks.l1 k x5 0)
def gutterref03_marks.l1 : Nat → List Int → Int → Option (List Int)
  | 0, _, _ => none
  | k + 1, x5, x8 => if x8 < (x5.length : Int) then (gutterref03_marks.l2 k x5 x8 x8) else (some x5)
def gutterref03_marks.l2 : Nat → List Int → Int → Int → Option (List Int)
  | 0, _, _, _ => none
  | k + 1, x5, x8, x9 => if x9 > 0 then (if 0 ≤ (wrap64 (x9 - 1)) then (if (wrap64 (x9 - 1)) < (x5.length : Int) then (if 0 ≤ x9 then (if x9 < (x5.length : Int) then (if (rd x5 (wrap64 (x9 - 1))) > (rd x5 x9) then (gutterref03_marks.l2 k ((x5.set (x9 : Int).toNat (rd x5 (wrap64 (x9 - 1)))).set ((wrap64 (x9 - 1)) : Int).toNat (rd x5 x9)) x8 (wrap64 (x9 - 1))) else (gutterref03_marks.l1 k x5 (wrap64 (x8 + 1)))) else (none)) else (none)) else (none)) else (none)) else (gutterref03_marks.l1 k x5 (wrap64 (x8 + 1)))
end
def gutterref03_marks.T6 : Bool × List (List Nat × List Nat) := (true, [([], []), ([], []), ([], []), ([1, 2], [1, 2]), ([3], [3]), ([4], [4]), ([], []), ([], []), ([6, 7], [6, 7]), ([8], [8]), ([9], [9]), ([5, 10], [5, 10]), ([0, 11], [0, 11]), ([12, 12, 0, 1, 2, 3, 4, 5, 6, 7, 8, 9, 10, 11, 12], [0, 12])])
def gutterref03_marks.B6 : List Nat := [0, 0, 0, 6, 14, 30, 0, 0, 192, 448, 960, 2046, 4095, 8191]
theorem gutterref03_marks.tab6 : rtab .any (opsOf Tryd.f48 6) = gutterref03_marks.T6 := by kernel_rfl
theorem gutterref03_marks.bits6 : waitsOk gutterref03_marks.T6.2 gutterref03_marks.B6 = true := by kernel_rfl
def gutterref03_marks.T11 : Bool × List (List Nat × List Nat) := (true, [([], []), ([0], [0]), ([1], [1]), ([2], [2]), ([2], [2]), ([4, 2], [2, 4]), ([3, 5, 2], [2, 3, 5]), ([6, 2], [2, 6]), ([2], [2]), ([2], [2]), ([8, 9, 2], [2, 8, 9]), ([10, 2], [2, 10]), ([7, 11, 2], [2, 7, 11]), ([2, 12], [2, 12])])
def gutterref03_marks.B11 : List Nat := [0, 1, 3, 7, 7, 23, 63, 127, 7, 7, 775, 1799, 4095, 8191]
theorem gutterref03_marks.tab11 : rtab .any (opsOf Tryd.f48 11) = gutterref03_marks.T11 := by kernel_rfl
theorem gutterref03_marks.bits11 : waitsOk gutterref03_marks.T11.2 gutterref03_marks.B11 = true := by kernel_rfl
set_option maxHeartbeats 8000000 in
set_option maxRecDepth 100000 in
theorem marks_calls (k : Nat) (A0 : Option Addr) (c0 : Nat) (l0 : List S24) (A1 : Option Addr) (c1 : Nat) (l1 : List S24) (r : List Int) (w : World) (hr0 : Kd.C k24 w A0 l0.length l0) (hr1 : Kd.C k24 w A1 l1.length l1) (hlen0 : l0.length ≤ 1000) (hlen1 : l1.length ≤ 1000) (h : gutterref03_marks.l0 k ([] : List Int) (l0 ++ l1) 0 = some r) :
    Calls Tryd.prog 48 #[.slice A0 l0.length c0, .slice A1 l1.length c1] w fun e w' => ∃ v0_ : Value, e = .returned (v0_) ∧ Kd.R (Kd.int .i64) 2 w' w.heap.size (fun _ => True) v0_ r ∧ Below w.heap.size w w' := by
  have HR0 := Aside0.mk hr0
  have HR1 := Aside0.mk hr1
  have hb1 : 0 + l0.length ≤ maxLen := by unfold maxLen; omega
  have hb2 : (0 + l0.length) * 16 ≤ 140737488355328 := by omega
  have hb3 : 0 + l0.length + l1.length ≤ maxLen := by unfold maxLen; omega
  have hb4 : (0 + l0.length + l1.length) * 16 ≤ 140737488355328 := by omega
  have H0' := Aside0.mk h
  clear hr0 hr1 h
  go_enter Tryd.func48, Tryd.ntmps48
  go_wp2_with (first | (at_builtin; refine wpList_append_C rfl _ _ rfl w.heap.size (.slice none 0 0) 0 [] rfl rfl (World.ownsRow_nil _ _ _ _) A0 c0 l0 rfl HR0.out hb1 hb2 (Nat.le_refl _) ?_; intro v1 w1 hown1 hg1; have HO1 := Aside0.mk hown1; have HG1 := Aside0.mk hg1; have HB1 := Aside0.mk ((Below.refl w.heap.size w).grown hg1 (Nat.le_refl _) (fun k hk => by simp [Value.ownBlock] at hk)); clear hown1 hg1) | (at_builtin; refine wpList_append_C rfl _ _ rfl w.heap.size v1 (0 + l0.length) ([] ++ l0) rfl (by simp) HO1.out A1 c1 l1 rfl (Kd.C_below HR1.out HB1.out) hb3 hb4 HB1.out.size ?_; intro v2 w2 hown2 hg2; have HO2 := Aside0.mk hown2; have HG2 := Aside0.mk hg2; clear hown2 hg2))
  have hO2 := HO2.out
  have hlL : 0 + l0.length + l1.length = (l0 ++ l1).length := by rw [List.length_append]; omega
  rw [List.nil_append, hlL] at hO2
  have hB2 : Below w.heap.size w w2 := HB1.out.grown HG2.out HB1.out.size (fun k hk => own_base HO1.out k hk)
  have HBW := Aside0.mk hB2
  clear HR0 HR1 HO1 HG1 HB1 HO2 HG2 hB2 hlL hb1 hb2 hb3 hb4 hlen0 hlen1
  generalize l0 ++ l1 = L at hO2 H0' ⊢
  obtain ⟨A, c, rfl, hcL, hCL⟩ := Kd.R_reads (out_R hO2)
  have H' := H0'
  have HR0 := Aside0.mk hCL
  have HC0 := Aside0.mk hcL
  have HB := Aside0.mk (Below.refl w2.heap.size w2)
  clear hO2 hcL hCL H0'
  go_loopg [5, 7] k (fun kq v5 v7 w' => ∃ (x5_1 : List Int) (x7_1 : Int), v7 = .int .i64 x7_1 ∧ Aside0 (gutterref03_marks.l0 kq x5_1 L x7_1 = some r) ∧ Aside0 (kq ≤ k) ∧ Aside0 (Kd.R (Kd.int .i64) 2 w' w2.heap.size (fun _ => True) v5 x5_1) ∧ Aside0 (Below w2.heap.size w2 w'))
  case atStart => exact ⟨(([] : List Int)), (0), (by first | rfl | (simp; done) | (simp [*]; done)), H', ⟨Nat.le_refl _⟩, ⟨by first | exact Kd.R_nil _ _ _ _ _ | exact Kd.N_nil _ _ _ _ _ | exact Kd.V_nil _ _ _ _ _ | exact Kd.Q_nil _ _ _ _ _ | exact Kd.S_nil _ _ _ _ _⟩, ⟨by repeat (first | (with_reducible first | exact HB.out | apply below_alloc | apply pw_below_drewN | apply below_drew1) | exact HB.out)⟩⟩
  case round =>
    clear H'
    try clear c1
    try clear p2
    obtain ⟨x5_1, x7_1, rfl, HA, HK1, HO_5, HB⟩ := hrel
    cases gk with
    | zero => exact absurd HA.out (by simp [gutterref03_marks.l0])
    | succ k1 =>
      have H := HA.out
      clear HA
      simp only [gutterref03_marks.l0] at H
      by_cases c3 : x7_1 < (L.length : Int)
      · rw [if_pos c3] at H
        have c3b0 : decide (x7_1 < (L.length : Int)) = true := decide_eq_true c3
        clear c3
        by_cases c4 : 0 ≤ x7_1
        · rw [if_pos c4] at H
          have c4b0 : decide (0 ≤ x7_1) = true := decide_eq_true c4
          clear c4
          obtain ⟨y154, hy154⟩ : ∃ y_ : List Int, y_ = (([(rd_T24 L x7_1).f0, (rd_T24 L x7_1).f1] : List Int)) := ⟨_, rfl⟩
          replace H : (if x5_1.length + y154.length < 17592186044416 then (gutterref03_marks.l0 k1 (x5_1 ++ y154) L (wrap64 (x7_1 + 1))) else (none)) = some r := by first | (rw [hy154]; with_reducible exact H) | (have H2_ := (Option.bind_some _ _).symm.trans H; rw [hy154]; with_reducible exact H2_) | (have H2_ := (Option.bind_some _ _).symm.trans H; with_reducible exact H2_) | with_reducible exact H | (rw [hy154]; exact H) | exact H
          have Ny154 := Aside0.mk hy154
          clear hy154
          by_cases c5 : x5_1.length + y154.length < 17592186044416
          · rw [if_pos c5] at H
            have LMc5 := Aside0.mk c5
            clear c5
            obtain ⟨y157, hy157⟩ : ∃ y_ : List Int, y_ = (x5_1 ++ y154) := ⟨_, rfl⟩
            replace H : (gutterref03_marks.l0 k1 y157 L (wrap64 (x7_1 + 1))) = some r := by first | (rw [hy157]; with_reducible exact H) | (have H2_ := (Option.bind_some _ _).symm.trans H; rw [hy157]; with_reducible exact H2_) | (have H2_ := (Option.bind_some _ _).symm.trans H; with_reducible exact H2_) | with_reducible exact H | (rw [hy157]; exact H) | exact H
            have Ny157 := Aside0.mk hy157
            clear hy157
            have H' := Aside0.mk H
            clear H
            try go_wp2
            have n0_ := Aside0.mk (Kd.R_drew HO_5.out)
            have n1_ := Aside0.mk (below_drew1 HB.out)
            clear HO_5
            clear HB
            have HO_5 := n0_
            have HB := n1_
            clear n0_ n1_
            have p152 : 0 ≤ (x7_1 : Int) := of_decide_eq_true (by first | (with_reducible assumption) | assumption)
            have q152 : x7_1 < (L.length : Int) := of_decide_eq_true (by first | (with_reducible assumption) | assumption)
            obtain ⟨ad152, e152, hx152_0, hx152_1⟩ := at_T24 HR0.out x7_1 p152 q152
            have hw152_1 := hx152_1
            have hw152_0 := hx152_0
            cases e152
            replace hx152_0 := (HB.out.cell (World.block_lt_of_cell? w2 _ hx152_0)).trans hx152_0
            replace hx152_1 := (HB.out.cell (World.block_lt_of_cell? w2 _ hx152_1)).trans hx152_1
            replace p152 := eq_true p152
            replace q152 := eq_true q152
            have p153 : 0 ≤ (x7_1 : Int) := of_decide_eq_true (by first | (with_reducible assumption) | assumption)
            have q153 : x7_1 < (L.length : Int) := of_decide_eq_true (by first | (with_reducible assumption) | assumption)
            obtain ⟨ad153, e153, hx153_0, hx153_1⟩ := at_T24 HR0.out x7_1 p153 q153
            have hw153_1 := hx153_1
            have hw153_0 := hx153_0
            obtain rfl : ad152 = ad153 := (by injection e153)
            replace hx153_0 := (HB.out.cell (World.block_lt_of_cell? w2 _ hx153_0)).trans hx153_0
            replace hx153_1 := (HB.out.cell (World.block_lt_of_cell? w2 _ hx153_1)).trans hx153_1
            replace p153 := eq_true p153
            replace q153 := eq_true q153
            refine start_ (n := 14) (S := fun w' => w'.cell? (ad152.add ((x7_1).toNat * 2)) = some (.int .i64 ((rd_T24 L x7_1).f0)) ∧ w'.cell? ⟨(ad152.add ((x7_1).toNat * 2)).block, (ad152.add ((x7_1).toNat * 2)).off + 1, none⟩ = some (.int .i64 ((rd_T24 L x7_1).f1)) ∧ w'.cell? (ad152.add ((x7_1).toNat * 2)) = some (.int .i64 ((rd_T24 L x7_1).f0)) ∧ w'.cell? ⟨(ad152.add ((x7_1).toNat * 2)).block, (ad152.add ((x7_1).toNat * 2)).off + 1, none⟩ = some (.int .i64 ((rd_T24 L x7_1).f1))) (ds := []) #[false, false, false, false, false, false, false, false, false, false, false, false, false, false] (by kernel_rfl) rfl rfl ⟨((HB.out.cell (World.block_lt_of_cell? w2 _ hw152_0)).trans hw152_0), ((HB.out.cell (World.block_lt_of_cell? w2 _ hw152_1)).trans hw152_1), ((HB.out.cell (World.block_lt_of_cell? w2 _ hw153_0)).trans hw153_0), ((HB.out.cell (World.block_lt_of_cell? w2 _ hw153_1)).trans hw153_1)⟩ (fun hHeld => ?_); refine with_tabW gutterref03_marks.tab6 gutterref03_marks.bits6 (fun HT_ HW_ => ?_)
            generalize wr.drew = w6 at HO_5 HB hx152_0 hx152_1 hx153_0 hx153_1 hHeld ⊢
            refine pure_ (i := 0) (N := some 21) (v := ?_) (a' := ?_) #[true, false, false, false, false, false, false, false, false, false, false, false, false, false] rfl rfl (any_of HT_.out (by kernel_rfl)) (fun _ _ _ h => h) (Or.inl ⟨by rfl, ?_⟩) ?_ ?_
            rotate_left
            · intro w'
              go_simp
              with_reducible rfl
            rotate_left
            · simp only [Act.put, List.setIfInBounds_toArray, List.set_cons_zero, List.set_cons_succ, i64_w, i32_w]
              rfl
            refine pure_ (i := 1) (N := some 22) (v := ?_) (a' := ?_) #[true, true, false, false, false, false, false, false, false, false, false, false, false, false] rfl rfl (any_of HT_.out (by kernel_rfl)) (fun _ _ _ h => h) (Or.inl ⟨by rfl, ?_⟩) ?_ ?_
            rotate_left
            · intro w'
              go_simp
              with_reducible rfl
            rotate_left
            · simp only [Act.put, List.setIfInBounds_toArray, List.set_cons_zero, List.set_cons_succ, i64_w, i32_w]
              rfl
            refine pure_ (i := 2) (N := some 23) (v := ?_) (a' := ?_) #[true, true, true, false, false, false, false, false, false, false, false, false, false, false] rfl rfl (any_of HT_.out (by kernel_rfl)) (fun _ _ _ h => h) (Or.inl ⟨by rfl, ?_⟩) ?_ ?_
            rotate_left
            · intro w'
              go_simp
              with_reducible rfl
            rotate_left
            · simp only [Act.put, List.setIfInBounds_toArray, List.set_cons_zero, List.set_cons_succ, i64_w, i32_w]
              rfl
            refine pure_ (i := 3) (N := some 24) (v := ?_) (a' := ?_) #[true, true, true, true, false, false, false, false, false, false, false, false, false, false] rfl rfl (any_of HT_.out (by kernel_rfl)) (fun _ _ _ h => h) (Or.inl ⟨by rfl, ?_⟩) ?_ ?_
            rotate_left
            · intro w'
              go_simp
              with_reducible rfl
            rotate_left
            · simp only [Act.put, List.setIfInBounds_toArray, List.set_cons_zero, List.set_cons_succ, i64_w, i32_w]
              rfl
            refine pure_ (i := 4) (N := some 25) (v := ?_) (a' := ?_) #[true, true, true, true, true, false, false, false, false, false, false, false, false, false] rfl rfl (any_of HT_.out (by kernel_rfl)) (fun _ _ _ h => h) (Or.inl ⟨by rfl, ?_⟩) ?_ ?_
            rotate_left
            · intro w'
              go_simp
              with_reducible rfl
            rotate_left
            · simp only [Act.put, List.setIfInBounds_toArray, List.set_cons_zero, List.set_cons_succ, i64_w, i32_w]
              rfl
            refine pure_ (i := 6) (N := some 27) (v := ?_) (a' := ?_) #[true, true, true, true, true, false, true, false, false, false, false, false, false, false] rfl rfl (any_of HT_.out (by kernel_rfl)) (fun _ _ _ h => h) (Or.inl ⟨by rfl, ?_⟩) ?_ ?_
            rotate_left
            · intro w'
              go_simp
              with_reducible rfl
            rotate_left
            · simp only [Act.put, List.setIfInBounds_toArray, List.set_cons_zero, List.set_cons_succ, i64_w, i32_w]
              rfl
            refine pure_ (i := 7) (N := some 28) (v := ?_) (a' := ?_) #[true, true, true, true, true, false, true, true, false, false, false, false, false, false] rfl rfl (any_of HT_.out (by kernel_rfl)) (fun _ _ _ h => h) (Or.inl ⟨by rfl, ?_⟩) ?_ ?_
            rotate_left
            · intro w'
              go_simp
              with_reducible rfl
            rotate_left
            · simp only [Act.put, List.setIfInBounds_toArray, List.set_cons_zero, List.set_cons_succ, i64_w, i32_w]
              rfl
            refine pure_ (i := 8) (N := some 29) (v := ?_) (a' := ?_) #[true, true, true, true, true, false, true, true, true, false, false, false, false, false] rfl rfl (any_of HT_.out (by kernel_rfl)) (fun _ _ _ h => h) (Or.inl ⟨by rfl, ?_⟩) ?_ ?_
            rotate_left
            · intro w'
              go_simp
              with_reducible rfl
            rotate_left
            · simp only [Act.put, List.setIfInBounds_toArray, List.set_cons_zero, List.set_cons_succ, i64_w, i32_w]
              rfl
            refine pure_ (i := 9) (N := some 30) (v := ?_) (a' := ?_) #[true, true, true, true, true, false, true, true, true, true, false, false, false, false] rfl rfl (any_of HT_.out (by kernel_rfl)) (fun _ _ _ h => h) (Or.inl ⟨by rfl, ?_⟩) ?_ ?_
            rotate_left
            · intro w'
              go_simp
              with_reducible rfl
            rotate_left
            · simp only [Act.put, List.setIfInBounds_toArray, List.set_cons_zero, List.set_cons_succ, i64_w, i32_w]
              rfl
            refine take_ (i := 5) (N := some 26) (v := ?_) (a' := ?_) #[true, true, true, true, true, true, true, true, true, true, false, false, false, false] rfl rfl (take_ofW HT_.out HW_.out (by kernel_rfl)) (fun _ _ _ h => h) (Or.inl ⟨by rfl, ?_⟩) hHeld ?_ ?_
            rotate_left
            · rintro w' ⟨s0, s1, s2, s3⟩
              go_simp
              with_reducible rfl
            rotate_left
            · simp only [Act.put, List.setIfInBounds_toArray, List.set_cons_zero, List.set_cons_succ, i64_w, i32_w]
              rfl
            refine take_ (i := 10) (N := some 31) (v := ?_) (a' := ?_) #[true, true, true, true, true, true, true, true, true, true, true, false, false, false] rfl rfl (take_ofW HT_.out HW_.out (by kernel_rfl)) (fun _ _ _ h => h) (Or.inl ⟨by rfl, ?_⟩) hHeld ?_ ?_
            rotate_left
            · rintro w' ⟨s0, s1, s2, s3⟩
              go_simp
              with_reducible rfl
            rotate_left
            · simp only [Act.put, List.setIfInBounds_toArray, List.set_cons_zero, List.set_cons_succ, i64_w, i32_w]
              rfl
            refine one_ (i := 11) (N := some 32) #[true, true, true, true, true, true, true, true, true, true, true, true, false, false] rfl rfl (one_of HT_.out (by kernel_rfl)) (by decide) (fun K hK => ?_)
            refine Kd.R_lit_step (Kd.int .i64) _ 2 ?hg (N := 32) ?hd (xs := ([(rd_T24 L x7_1).f0, (rd_T24 L x7_1).f1] : List Int)) (inner := [.int .i64 ((rd_T24 L x7_1).f0), .int .i64 ((rd_T24 L x7_1).f1)]) (ok := fun _ => True) (okp := fun _ => True) ?hr ?hp (fun _ hk => hk) trivial (Below.refl _ _) (Nat.le_refl _) (by simp) ?_; (case hd => rfl); (case hg => rfl); (case hr => first | (go_simp; done) | (go_simp; rfl)); (case hp => exact (Reps.one (show Kd.M (Kd.int .i64) _ _ _ ((rd_T24 L x7_1).f0) [.int .i64 ((rd_T24 L x7_1).f0)] from rfl) (Reps.one (show Kd.M (Kd.int .i64) _ _ _ ((rd_T24 L x7_1).f1) [.int .i64 ((rd_T24 L x7_1).f1)] from rfl) (Reps.none _ _))))
            intro v155 w7 ho8 hb hg_ hnew_
            clear hg_ hnew_
            (first | rw [← Ny154.out] at ho8 | (simp only [Int.reduceToNat] at ho8; rw [← Ny154.out] at ho8))
            have n0_ := Aside0.mk (Kd.R_elder' (by (with_reducible repeat (first | apply Kd.R_alloc | apply Kd.R_drewN | apply Kd.R_drew)); exact HO_5.out) (Kd.R_base ho8) hb)
            have n1_ := Aside0.mk (Kd.R_lower (Kd.R_new' ho8 (Kd.R_lt (by (with_reducible repeat (first | apply Kd.R_alloc | apply Kd.R_drewN | apply Kd.R_drew)); exact HO_5.out))) (below_size (by repeat (first | (with_reducible first | exact HB.out | apply below_alloc | apply pw_below_drewN | apply below_drew1) | exact HB.out))))
            have n2_ := Aside0.mk (below_step (by repeat (first | (with_reducible first | exact HB.out | apply below_alloc | apply pw_below_drewN | apply below_drew1) | exact HB.out)) hb)
            clear HO_5
            clear HB
            have HO_5 := n0_
            have HO156 := n1_
            have HB := n2_
            clear n0_ n1_ n2_
            clear hb ho8
            obtain ⟨Ao10, co10, eo10⟩ := Kd.R_slice HO156.out
            (first | subst eo10 | (injection eo10 with f1_ f2_ f3_; have f4_ := f1_.symm; have f5_ := f3_.symm; clear f1_ f2_ f3_; subst f4_; subst f5_))
            refine hK.out _ _ ⟨((HB.out.cell (World.block_lt_of_cell? w2 _ hw152_0)).trans hw152_0), ((HB.out.cell (World.block_lt_of_cell? w2 _ hw152_1)).trans hw152_1), ((HB.out.cell (World.block_lt_of_cell? w2 _ hw153_0)).trans hw153_0), ((HB.out.cell (World.block_lt_of_cell? w2 _ hw153_1)).trans hw153_1)⟩ (fun hHeld => ?_)
            clear hK K
            refine norm_ (a' := ?_) ?_ ?_
            rotate_left
            · show Act.put _ (some 32) _ = _
              simp only [Act.put, List.setIfInBounds_toArray, List.set_cons_zero, List.set_cons_succ, i64_w, i32_w]
              rfl
            refine one_ (i := 12) (N := some 33) #[true, true, true, true, true, true, true, true, true, true, true, true, true, false] rfl rfl (one_of HT_.out (by kernel_rfl)) (by decide) (fun K hK => ?_)
            refine Kd.R_append_rows_step (Kd.int .i64) (w0 := w2) w2.heap.size (by rfl) (.tmp 21) (.tmp 32) 68 2 (.int .i64 0) 8 rfl Tryd.underlying68 info2 rfl (by decide) (by omega) u5 x5_1 y154 _ _ _ (fun k_ => some k_ ≠ (.slice Ao10 y154.length co10 : Value).ownBlock) (fun _ => False) rfl rfl ?aO ?aR (fun _ _ h => h) (fun _ h => h.elim) ?aF ?aB ?aS ?aL ?_
            (case aR => repeat (first | exact (Kd.R_reads' HO156.out).2.2 | (with_reducible refine Kd.C_alloc ?_ _) | (with_reducible refine Kd.C_drewN ?_ _) | (with_reducible refine Kd.C_drew ?_)))
            (case aB => exact (by repeat (first | (with_reducible first | exact HB.out | apply below_alloc | apply pw_below_drewN | apply below_drew1) | exact HB.out)))
            (case aF => exact (fun k_ hk => Kd.fresh' (Kd.R_lt (by (with_reducible repeat (first | apply Kd.R_alloc | apply Kd.R_drewN | apply Kd.R_drew)); exact HO156.out)) k_ hk))
            (case aO => exact (by (with_reducible repeat (first | apply Kd.R_alloc | apply Kd.R_drewN | apply Kd.R_drew)); exact Kd.R_mono HO_5.out (fun _ hk => hk.2)))
            (case aS => exact (below_size (by repeat (first | (with_reducible first | exact HB.out | apply below_alloc | apply pw_below_drewN | apply below_drew1) | exact HB.out))))
            (case aL => have := LMc5.out; omega)
            intro v158 w9 ho hb hg hat
            rw [← Ny157.out] at ho
            have n0_ := Aside0.mk (Kd.R_after (ok := (fun _ => True)) (by (with_reducible repeat (first | apply Kd.R_alloc | apply Kd.R_drewN | apply Kd.R_drew)); exact HO156.out) hg hat)
            have n1_ := Aside0.mk (hb)
            have n2_ := Aside0.mk (ho)
            clear HO156
            clear HB
            clear HO_5
            have HO156 := n0_
            have HB := n1_
            have HO159 := n2_
            clear n0_ n1_ n2_
            clear ho hb hg hat
            refine hK.out _ _ ⟨((HB.out.cell (World.block_lt_of_cell? w2 _ hw152_0)).trans hw152_0), ((HB.out.cell (World.block_lt_of_cell? w2 _ hw152_1)).trans hw152_1), ((HB.out.cell (World.block_lt_of_cell? w2 _ hw153_0)).trans hw153_0), ((HB.out.cell (World.block_lt_of_cell? w2 _ hw153_1)).trans hw153_1)⟩ (fun hHeld => ?_)
            clear hK K
            refine norm_ (a' := ?_) ?_ ?_
            rotate_left
            · show Act.put _ (some 33) _ = _
              simp only [Act.put, List.setIfInBounds_toArray, List.set_cons_zero, List.set_cons_succ, i64_w, i32_w]
              rfl
            refine pure_ (i := 13) (N := some 5) (v := ?_) (a' := ?_) #[true, true, true, true, true, true, true, true, true, true, true, true, true, true] rfl rfl (any_of HT_.out (by kernel_rfl)) (fun _ _ _ h => h) (Or.inl ⟨by rfl, ?_⟩) ?_ ?_
            rotate_left
            · intro w'
              go_simp
              with_reducible rfl
            rotate_left
            · simp only [Act.put, List.setIfInBounds_toArray, List.set_cons_zero, List.set_cons_succ, i64_w, i32_w]
              rfl
            refine done_ (done_of HT_.out (by kernel_rfl)) ?_
            try go_wp2
            go_roundg k1
            case measure => have := HK1.out; omega
            case rel => exact ⟨(y157), (wrap64 (x7_1 + 1)), (by first | rfl | (simp; done) | (simp [*]; done)), H', ⟨by have := HK1.out; omega⟩, ⟨by (with_reducible repeat (first | apply Kd.R_alloc | apply Kd.R_drewN | apply Kd.R_drew)); exact Kd.R_mono HO159.out (fun _ hk => trivial)⟩, ⟨by repeat (first | (with_reducible first | exact HB.out | apply below_alloc | apply pw_below_drewN | apply below_drew1) | exact HB.out)⟩⟩
          · rw [if_neg c5] at H
            exact absurd H (by simp)
        · rw [if_neg c4] at H
          exact absurd H (by simp)
      · rw [if_neg c3] at H
        have c3b0 : decide (x7_1 < (L.length : Int)) = false := decide_eq_false c3
        clear c3
        have H' := Aside0.mk H
        clear H
        go_wp2
        go_loopg [8] k1 (fun kq v8 w' => ∃ (x5_2 : List Int) (x8_2 : Int), v8 = .int .i64 x8_2 ∧ Aside0 (gutterref03_marks.l1 kq x5_2 x8_2 = some r) ∧ Aside0 (kq ≤ k1) ∧ Aside0 (Kd.R (Kd.int .i64) 2 w' w2.heap.size (fun _ => True) u5 x5_2) ∧ Aside0 (Below w2.heap.size w2 w'))
        case atStart => exact ⟨(x5_1), (0), (by first | rfl | (simp; done) | (simp [*]; done)), H', ⟨Nat.le_refl _⟩, ⟨by (with_reducible repeat (first | apply Kd.R_alloc | apply Kd.R_drewN | apply Kd.R_drew)); exact HO_5.out⟩, ⟨by repeat (first | (with_reducible first | exact HB.out | apply below_alloc | apply pw_below_drewN | apply below_drew1) | exact HB.out)⟩⟩
        case round =>
          clear H'
          try clear c1
          try clear p1
          try clear q1
          try clear hx1
          try clear p2
          try clear c3
          try clear c3b0
          try clear c4
          try clear c4b0
          try clear c5
          try clear p6
          try clear hx152_0
          try clear hx152_1
          try clear hx153_0
          try clear hx153_1
          try clear p152
          try clear p153
          try clear p2
          try clear q152
          try clear q153
          obtain ⟨x5_2, x8_2, rfl, HA, HK2, HO_5, HB⟩ := hrel
          cases gk with
          | zero => exact absurd HA.out (by simp [gutterref03_marks.l1])
          | succ k2 =>
            have H := HA.out
            clear HA
            simp only [gutterref03_marks.l1] at H
            by_cases c11 : x8_2 < (x5_2.length : Int)
            · rw [if_pos c11] at H
              have c11b0 : decide (x8_2 < (x5_2.length : Int)) = true := decide_eq_true c11
              clear c11
              have H' := Aside0.mk H
              clear H
              obtain ⟨Ao12, co12, eo12⟩ := Kd.R_slice HO_5.out
              subst eo12
              go_wp2
              go_loopg [9] k2 (fun kq v9 w' => ∃ (x5_3 : List Int) (x9_3 : Int), v9 = .int .i64 x9_3 ∧ Aside0 (gutterref03_marks.l2 kq x5_3 x8_2 x9_3 = some r) ∧ Aside0 (kq ≤ k2) ∧ Aside0 (Kd.R (Kd.int .i64) 2 w' w2.heap.size (fun _ => True) (.slice Ao12 x5_2.length co12) x5_3) ∧ Aside0 (Below w2.heap.size w2 w'))
              case atStart => exact ⟨(x5_2), (x8_2), (by first | rfl | (simp; done) | (simp [*]; done)), H', ⟨Nat.le_refl _⟩, ⟨by (with_reducible repeat (first | apply Kd.R_alloc | apply Kd.R_drewN | apply Kd.R_drew)); exact HO_5.out⟩, ⟨by repeat (first | (with_reducible first | exact HB.out | apply below_alloc | apply pw_below_drewN | apply below_drew1) | exact HB.out)⟩⟩
              case round =>
                clear H'
                try clear c1
                try clear p1
                try clear q1
                try clear hx1
                try clear p2
                try clear c3
                try clear c3b0
                try clear c4
                try clear c4b0
                try clear c5
                try clear p6
                try clear c11
                try clear c11b0
                try clear hx152_0
                try clear hx152_1
                try clear hx153_0
                try clear hx153_1
                try clear p1
                try clear p152
                try clear p153
                try clear p2
                try clear p6
                try clear q1
                try clear q152
                try clear q153
                obtain ⟨x5_3, x9_3, rfl, HA, HK3, HO_5, HB⟩ := hrel
                have hl5_3 := (Kd.R_reads' HO_5.out).1
                rw [hl5_3] at HO_5
                (try simp only [hl5_3])
                cases gk with
                | zero => exact absurd HA.out (by simp [gutterref03_marks.l2])
                | succ k3 =>
                  have H := HA.out
                  clear HA
                  simp only [gutterref03_marks.l2] at H
                  by_cases c13 : x9_3 > 0
                  · rw [if_pos c13] at H
                    have c13b0 : decide (0 < x9_3) = true := decide_eq_true c13
                    clear c13
                    obtain ⟨ji14, hji14⟩ : ∃ j_ : Int, (wrap64 (x9_3 - 1)) = j_ := ⟨_, rfl⟩
                    replace H : (if 0 ≤ (ji14) then (if (ji14) < (x5_3.length : Int) then (if 0 ≤ x9_3 then (if x9_3 < (x5_3.length : Int) then (if (rd x5_3 (ji14)) > (rd x5_3 x9_3) then (gutterref03_marks.l2 k3 ((x5_3.set (x9_3 : Int).toNat (rd x5_3 (ji14))).set ((ji14) : Int).toNat (rd x5_3 x9_3)) x8_2 ji14) else (gutterref03_marks.l1 k3 x5_3 (wrap64 (x8_2 + 1)))) else (none)) else (none)) else (none)) else (none)) = some r := by first | (rw [hji14] at H; exact H) | (simp only [hji14] at H ⊢; exact H)
                    have hji14w : (IntKind.i64.wrap (x9_3 - 1)) = ji14 := (i64_w _).trans hji14
                    by_cases c15 : 0 ≤ (ji14)
                    · rw [if_pos c15] at H
                      have c15b0 : decide (0 ≤ (ji14)) = true := decide_eq_true c15
                      clear c15
                      by_cases c16 : (ji14) < (x5_3.length : Int)
                      · rw [if_pos c16] at H
                        have c16b0 : decide ((ji14) < (x5_3.length : Int)) = true := decide_eq_true c16
                        clear c16
                        by_cases c17 : 0 ≤ x9_3
                        · rw [if_pos c17] at H
                          have c17b0 : decide (0 ≤ x9_3) = true := decide_eq_true c17
                          clear c17
                          by_cases c18 : x9_3 < (x5_3.length : Int)
                          · rw [if_pos c18] at H
                            have c18b0 : decide (x9_3 < (x5_3.length : Int)) = true := decide_eq_true c18
                            clear c18
                            by_cases c19 : (rd x5_3 (ji14)) > (rd x5_3 x9_3)
                            · rw [if_pos c19] at H
                              have c19b0 : decide ((rd x5_3 x9_3) < (rd x5_3 (ji14))) = true := decide_eq_true c19
                              clear c19
                              obtain ⟨y164, hy164⟩ : ∃ y_ : List Int, y_ = (x5_3.set (x9_3 : Int).toNat (rd x5_3 (ji14))) := ⟨_, rfl⟩
                              replace H : (gutterref03_marks.l2 k3 (y164.set ((ji14) : Int).toNat (rd x5_3 x9_3)) x8_2 ji14) = some r := by first | (rw [hy164]; with_reducible exact H) | (have H2_ := (Option.bind_some _ _).symm.trans H; rw [hy164]; with_reducible exact H2_) | (have H2_ := (Option.bind_some _ _).symm.trans H; with_reducible exact H2_) | with_reducible exact H | (rw [hy164]; exact H) | exact H
                              have Ny164 := Aside0.mk hy164
                              clear hy164
                              obtain ⟨y165, hy165⟩ : ∃ y_ : List Int, y_ = (y164.set ((ji14) : Int).toNat (rd x5_3 x9_3)) := ⟨_, rfl⟩
                              replace H : (gutterref03_marks.l2 k3 y165 x8_2 ji14) = some r := by first | (rw [hy165]; with_reducible exact H) | (have H2_ := (Option.bind_some _ _).symm.trans H; rw [hy165]; with_reducible exact H2_) | (have H2_ := (Option.bind_some _ _).symm.trans H; with_reducible exact H2_) | with_reducible exact H | (rw [hy165]; exact H) | exact H
                              have Ny165 := Aside0.mk hy165
                              clear hy165
                              have H' := Aside0.mk H
                              clear H
                              try go_wp2
                              have n0_ := Aside0.mk (Kd.R_drew HO_5.out)
                              have n1_ := Aside0.mk (below_drew1 HB.out)
                              clear HO_5
                              clear HB
                              have HO_5 := n0_
                              have HB := n1_
                              clear n0_ n1_
                              have p160 : 0 ≤ ((ji14) : Int) := of_decide_eq_true (by first | (with_reducible assumption) | assumption)
                              have q160 : (ji14) < (x5_3.length : Int) := of_decide_eq_true (by first | (with_reducible assumption) | assumption)
                              obtain ⟨ad160, e160, hx160_0⟩ := Kd.at_int (Kd.R_reads' HO_5.out).2.2 (ji14) p160 q160
                              cases e160
                              replace p160 := eq_true p160
                              replace q160 := eq_true q160
                              have p161 : 0 ≤ (x9_3 : Int) := of_decide_eq_true (by first | (with_reducible assumption) | assumption)
                              have q161 : x9_3 < (x5_3.length : Int) := of_decide_eq_true (by first | (with_reducible assumption) | assumption)
                              obtain ⟨ad161, e161, hx161_0⟩ := Kd.at_int (Kd.R_reads' HO_5.out).2.2 x9_3 p161 q161
                              obtain rfl : ad160 = ad161 := (by injection e161)
                              replace p161 := eq_true p161
                              replace q161 := eq_true q161
                              refine start_ (n := 14) (S := fun w' => w'.cell? (ad160.add ((ji14)).toNat) = some (.int .i64 (rd x5_3 (ji14))) ∧ w'.cell? (ad160.add (x9_3).toNat) = some (.int .i64 (rd x5_3 x9_3))) (ds := []) #[false, false, false, false, false, false, false, false, false, false, false, false, false, false] (by kernel_rfl) rfl rfl ⟨hx160_0, hx161_0⟩ (fun hHeld => ?_); refine with_tabW gutterref03_marks.tab11 gutterref03_marks.bits11 (fun HT_ HW_ => ?_)
                              generalize wr.drew = w22 at HO_5 HB hx160_0 hx161_0 hHeld ⊢
                              refine pure_ (i := 0) (N := some 41) (v := ?_) (a' := ?_) #[true, false, false, false, false, false, false, false, false, false, false, false, false, false] rfl rfl (any_of HT_.out (by kernel_rfl)) (fun _ _ _ h => h) (Or.inl ⟨by rfl, ?_⟩) ?_ ?_
                              rotate_left
                              · intro w'
                                go_simp
                                with_reducible rfl
                              rotate_left
                              · simp only [Act.put, List.setIfInBounds_toArray, List.set_cons_zero, List.set_cons_succ, i64_w, i32_w]
                                rfl
                              refine pure_ (i := 1) (N := some 42) (v := ?_) (a' := ?_) #[true, true, false, false, false, false, false, false, false, false, false, false, false, false] rfl rfl (any_of HT_.out (by kernel_rfl)) (fun _ _ _ h => h) (Or.inl ⟨by rfl, ?_⟩) ?_ ?_
                              rotate_left
                              · intro w'
                                go_simp
                                with_reducible rfl
                              rotate_left
                              · simp only [Act.put, List.setIfInBounds_toArray, List.set_cons_zero, List.set_cons_succ, i64_w, i32_w]
                                rfl
                              refine pure_ (i := 2) (N := some 43) (v := ?_) (a' := ?_) #[true, true, true, false, false, false, false, false, false, false, false, false, false, false] rfl rfl (any_of HT_.out (by kernel_rfl)) (fun _ _ _ h => h) (Or.inl ⟨by rfl, ?_⟩) ?_ ?_
                              rotate_left
                              · intro w'
                                go_simp
                                with_reducible rfl
                              rotate_left
                              · simp only [Act.put, List.setIfInBounds_toArray, List.set_cons_zero, List.set_cons_succ, i64_w, i32_w]
                                rfl
                              refine pure_ (i := 3) (N := some 44) (v := ?_) (a' := ?_) #[true, true, true, true, false, false, false, false, false, false, false, false, false, false] rfl rfl (any_of HT_.out (by kernel_rfl)) (fun _ _ _ h => h) (Or.inl ⟨by rfl, ?_⟩) ?_ ?_
                              rotate_left
                              · intro w'
                                go_simp
                                with_reducible rfl
                              rotate_left
                              · simp only [Act.put, List.setIfInBounds_toArray, List.set_cons_zero, List.set_cons_succ, i64_w, i32_w]
                                rfl
                              refine pure_ (i := 4) (N := some 45) (v := ?_) (a' := ?_) #[true, true, true, true, true, false, false, false, false, false, false, false, false, false] rfl rfl (any_of HT_.out (by kernel_rfl)) (fun _ _ _ h => h) (Or.inl ⟨by rfl, ?_⟩) ?_ ?_
                              rotate_left
                              · intro w'
                                go_simp
                                with_reducible rfl
                              rotate_left
                              · simp only [Act.put, List.setIfInBounds_toArray, List.set_cons_zero, List.set_cons_succ, i64_w, i32_w]
                                rfl
                              refine pure_ (i := 5) (N := some 46) (v := ?_) (a' := ?_) #[true, true, true, true, true, true, false, false, false, false, false, false, false, false] rfl rfl (any_of HT_.out (by kernel_rfl)) (fun _ _ _ h => h) (Or.inl ⟨by rfl, ?_⟩) ?_ ?_
                              rotate_left
                              · intro w'
                                go_simp
                                with_reducible rfl
                              rotate_left
                              · simp only [Act.put, List.setIfInBounds_toArray, List.set_cons_zero, List.set_cons_succ, i64_w, i32_w]
                                rfl
                              refine pure_ (i := 6) (N := some 47) (v := ?_) (a' := ?_) #[true, true, true, true, true, true, true, false, false, false, false, false, false, false] rfl rfl (any_of HT_.out (by kernel_rfl)) (fun _ _ _ h => h) (Or.inl ⟨by rfl, ?_⟩) ?_ ?_
                              rotate_left
                              · intro w'
                                go_simp
                                with_reducible rfl
                              rotate_left
                              · simp only [Act.put, List.setIfInBounds_toArray, List.set_cons_zero, List.set_cons_succ, i64_w, i32_w]
                                rfl
                              refine pure_ (i := 8) (N := some 49) (v := ?_) (a' := ?_) #[true, true, true, true, true, true, true, false, true, false, false, false, false, false] rfl rfl (any_of HT_.out (by kernel_rfl)) (fun _ _ _ h => h) (Or.inl ⟨by rfl, ?_⟩) ?_ ?_
                              rotate_left
                              · intro w'
                                go_simp
                                with_reducible rfl
                              rotate_left
                              · simp only [Act.put, List.setIfInBounds_toArray, List.set_cons_zero, List.set_cons_succ, i64_w, i32_w]
                                rfl
                              refine pure_ (i := 9) (N := some 50) (v := ?_) (a' := ?_) #[true, true, true, true, true, true, true, false, true, true, false, false, false, false] rfl rfl (any_of HT_.out (by kernel_rfl)) (fun _ _ _ h => h) (Or.inl ⟨by rfl, ?_⟩) ?_ ?_
                              rotate_left
                              · intro w'
                                go_simp
                                with_reducible rfl
                              rotate_left
                              · simp only [Act.put, List.setIfInBounds_toArray, List.set_cons_zero, List.set_cons_succ, i64_w, i32_w]
                                rfl
                              refine pure_ (i := 10) (N := some 51) (v := ?_) (a' := ?_) #[true, true, true, true, true, true, true, false, true, true, true, false, false, false] rfl rfl (any_of HT_.out (by kernel_rfl)) (fun _ _ _ h => h) (Or.inl ⟨by rfl, ?_⟩) ?_ ?_
                              rotate_left
                              · intro w'
                                go_simp
                                with_reducible rfl
                              rotate_left
                              · simp only [Act.put, List.setIfInBounds_toArray, List.set_cons_zero, List.set_cons_succ, i64_w, i32_w]
                                rfl
                              refine take_ (i := 7) (N := some 48) (v := ?_) (a' := ?_) #[true, true, true, true, true, true, true, true, true, true, true, false, false, false] rfl rfl (take_ofW HT_.out HW_.out (by kernel_rfl)) (fun _ _ _ h => h) (Or.inl ⟨by rfl, ?_⟩) hHeld ?_ ?_
                              rotate_left
                              · rintro w' ⟨s0, s1⟩
                                go_simp
                                with_reducible rfl
                              rotate_left
                              · simp only [Act.put, List.setIfInBounds_toArray, List.set_cons_zero, List.set_cons_succ, i64_w, i32_w]
                                rfl
                              refine take_ (i := 11) (N := some 52) (v := ?_) (a' := ?_) #[true, true, true, true, true, true, true, true, true, true, true, true, false, false] rfl rfl (take_ofW HT_.out HW_.out (by kernel_rfl)) (fun _ _ _ h => h) (Or.inl ⟨by rfl, ?_⟩) hHeld ?_ ?_
                              rotate_left
                              · rintro w' ⟨s0, s1⟩
                                go_simp
                                with_reducible rfl
                              rotate_left
                              · simp only [Act.put, List.setIfInBounds_toArray, List.set_cons_zero, List.set_cons_succ, i64_w, i32_w]
                                rfl
                              refine pure_ (i := 12) (N := some 53) (v := ?_) (a' := ?_) #[true, true, true, true, true, true, true, true, true, true, true, true, true, false] rfl rfl (any_of HT_.out (by kernel_rfl)) (fun _ _ _ h => h) (Or.inl ⟨by rfl, ?_⟩) ?_ ?_
                              rotate_left
                              · intro w'
                                go_simp
                                with_reducible rfl
                              rotate_left
                              · simp only [Act.put, List.setIfInBounds_toArray, List.set_cons_zero, List.set_cons_succ, i64_w, i32_w]
                                rfl
                              refine pure_ (i := 13) (N := some 54) (v := ?_) (a' := ?_) #[true, true, true, true, true, true, true, true, true, true, true, true, true, true] rfl rfl (any_of HT_.out (by kernel_rfl)) (fun _ _ _ h => h) (Or.inl ⟨by rfl, ?_⟩) ?_ ?_
                              rotate_left
                              · intro w'
                                go_simp
                                with_reducible rfl
                              rotate_left
                              · simp only [Act.put, List.setIfInBounds_toArray, List.set_cons_zero, List.set_cons_succ, i64_w, i32_w]
                                rfl
                              refine done_ (done_of HT_.out (by kernel_rfl)) ?_
                              have p162 : 0 ≤ (x9_3 : Int) := of_decide_eq_true (by first | (with_reducible assumption) | assumption)
                              have q162 : x9_3 < (x5_3.length : Int) := of_decide_eq_true (by first | (with_reducible assumption) | assumption)
                              obtain ⟨ad162, e162, hx162_0⟩ := Kd.at_int (Kd.R_reads' HO_5.out).2.2 x9_3 p162 q162
                              obtain rfl : ad160 = ad162 := (by injection e162)
                              replace p162 := eq_true p162
                              replace q162 := eq_true q162
                              have p163 : 0 ≤ ((ji14) : Int) := of_decide_eq_true (by first | (with_reducible assumption) | assumption)
                              have q163 : (ji14) < (x5_3.length : Int) := of_decide_eq_true (by first | (with_reducible assumption) | assumption)
                              obtain ⟨ad163, e163, hx163_0⟩ := Kd.at_int (Kd.R_reads' HO_5.out).2.2 (ji14) p163 q163
                              obtain rfl : ad160 = ad163 := (by injection e163)
                              replace p163 := eq_true p163
                              replace q163 := eq_true q163
                              have p20 : 0 ≤ (x9_3 : Int) := of_decide_eq_true (by first | (with_reducible assumption) | assumption)
                              have q20 : (x9_3 : Int) < ((x5_3.length : Int) : Int) := of_decide_eq_true (by first | (with_reducible assumption) | assumption)
                              obtain ⟨go20, co20, eo20, gb20, gl20, cl20, HG20⟩ := Kd.R_form HO_5.out (by omega)
                              (first | cases eo20 | (injection eo20 with ea_ en_ ec_; (first | subst ea_ | (injection ea_ with ea_; subst ea_)); subst ec_; clear en_))
                              have GB20 := Aside0.mk gb20
                              have GG20 := Aside0.mk HG20
                              clear gb20 gl20 HG20
                              (first | simp only [add_plain] at hx160_0 | skip)
                              (first | simp only [add_plain] at hx161_0 | skip)
                              (first | simp only [add_plain] at hx162_0 | skip)
                              (first | simp only [add_plain] at hx163_0 | skip)
                              obtain ⟨hx20_0, hf20_0⟩ := Kd.R_celln 0 HO_5.out (x9_3 : Int) p20 q20
                              replace p20 := eq_true p20
                              replace q20 := eq_true q20
                              obtain ⟨hy23_, hz23_⟩ := Kd.R_celln 0 HO_5.out (x9_3 : Int) (of_decide_eq_true (by first | (with_reducible assumption) | assumption)) (of_decide_eq_true (by first | (with_reducible assumption) | assumption))
                              have HP23 := Kd.R_putg HO_5.out (x9_3 : Int) (rd x5_3 (ji14))
                              try go_wp2_with (first | ((with_reducible refine gate_store (t := 2) (p := 68) rfl ?_); refine store_event (t := 2) (p := 68) (v := ?vo_w24) (w1 := (w22.setCell ⟨go20, (x9_3 : Int).toNat, none⟩ (.int .i64 (rd x5_3 (ji14))))) ?hg ?ho ?hn ?hr ?_; (case ho => rfl); (case hg => rfl); (case hn => rfl); (case hr => first | (go_simp; done) | (go_simp; rfl)); intro w24 hw; have hg : w22.grownBy w24 (some go20) := (by rw [hw]; exact HP23.2); have hp_ : Kd.R (Kd.int .i64) 2 w24 w2.heap.size (fun _ => True) (.slice (some ⟨go20, 0, none⟩) x5_3.length co12) y164 := (by rw [hw, Ny164.out]; exact HP23.1); clear HP23; have n0_ := Aside0.mk (hp_); have n1_ := Aside0.mk ((by rw [hw]; exact below_set (HB.out) GB20.out : Below w2.heap.size w2 w24)); clear HO_5; clear HB; have HO_5 := n0_; have HB := n1_; clear n0_ n1_; clear hg hw hp_; have p21 : 0 ≤ ((ji14) : Int) := of_decide_eq_true (by first | (with_reducible assumption) | assumption); have q21 : ((ji14) : Int) < ((x5_3.length : Int) : Int) := of_decide_eq_true (by first | (with_reducible assumption) | assumption); obtain ⟨hx21_0, hf21_0⟩ := Kd.R_celln 0 HO_5.out ((ji14) : Int) p21 q21; replace p21 := eq_true p21; replace q21 := eq_true q21; obtain ⟨hy25_, hz25_⟩ := Kd.R_celln 0 HO_5.out ((ji14) : Int) (of_decide_eq_true (by first | (with_reducible assumption) | assumption)) (of_decide_eq_true (by first | (with_reducible assumption) | assumption)); have HP25 := Kd.R_putg HO_5.out ((ji14) : Int) (rd x5_3 x9_3)) | ((with_reducible refine gate_store (t := 2) (p := 73) rfl ?_); refine store_event (t := 2) (p := 73) (v := ?vo_w26) (w1 := (w24.setCell ⟨go20, ((ji14) : Int).toNat, none⟩ (.int .i64 (rd x5_3 x9_3)))) ?hg ?ho ?hn ?hr ?_; (case ho => rfl); (case hg => rfl); (case hn => rfl); (case hr => first | (go_simp; done) | (go_simp; rfl)); intro w26 hw; have hg : w24.grownBy w26 (some go20) := (by rw [hw]; exact HP25.2); have hp_ : Kd.R (Kd.int .i64) 2 w26 w2.heap.size (fun _ => True) (.slice (some ⟨go20, 0, none⟩) x5_3.length co12) y165 := (by rw [hw, Ny165.out]; exact HP25.1); clear HP25; have n0_ := Aside0.mk (hp_); have n1_ := Aside0.mk ((by rw [hw]; exact below_set (HB.out) GB20.out : Below w2.heap.size w2 w26)); clear HO_5; clear HB; have HO_5 := n0_; have HB := n1_; clear n0_ n1_; clear hg hw hp_))
                              (try simp only [← hl5_3])
                              go_roundg k3
                              case measure => have := HK1.out; have := HK2.out; have := HK3.out; omega
                              case rel => exact ⟨(y165), (ji14), (by first | rfl | (simp; done) | (simp only [← hji14] <;> (first | rfl | simp)) | (simp [*]; done)), H', ⟨by have := HK1.out; have := HK2.out; have := HK3.out; omega⟩, ⟨by (try simp only [hl5_3]); (with_reducible repeat (first | apply Kd.R_alloc | apply Kd.R_drewN | apply Kd.R_drew)); exact HO_5.out⟩, ⟨by repeat (first | (with_reducible first | exact HB.out | apply below_alloc | apply pw_below_drewN | apply below_drew1) | exact HB.out)⟩⟩
                            · rw [if_neg c19] at H
                              have c19b0 : decide ((rd x5_3 x9_3) < (rd x5_3 (ji14))) = false := decide_eq_false c19
                              clear c19
                              have H' := Aside0.mk H
                              clear H
                              try go_wp2
                              have n0_ := Aside0.mk (Kd.R_drew HO_5.out)
                              have n1_ := Aside0.mk (below_drew1 HB.out)
                              clear HO_5
                              clear HB
                              have HO_5 := n0_
                              have HB := n1_
                              clear n0_ n1_
                              have p160 : 0 ≤ ((ji14) : Int) := of_decide_eq_true (by first | (with_reducible assumption) | assumption)
                              have q160 : (ji14) < (x5_3.length : Int) := of_decide_eq_true (by first | (with_reducible assumption) | assumption)
                              obtain ⟨ad160, e160, hx160_0⟩ := Kd.at_int (Kd.R_reads' HO_5.out).2.2 (ji14) p160 q160
                              cases e160
                              replace p160 := eq_true p160
                              replace q160 := eq_true q160
                              have p161 : 0 ≤ (x9_3 : Int) := of_decide_eq_true (by first | (with_reducible assumption) | assumption)
                              have q161 : x9_3 < (x5_3.length : Int) := of_decide_eq_true (by first | (with_reducible assumption) | assumption)
                              obtain ⟨ad161, e161, hx161_0⟩ := Kd.at_int (Kd.R_reads' HO_5.out).2.2 x9_3 p161 q161
                              obtain rfl : ad160 = ad161 := (by injection e161)
                              replace p161 := eq_true p161
                              replace q161 := eq_true q161
                              refine start_ (n := 14) (S := fun w' => w'.cell? (ad160.add ((ji14)).toNat) = some (.int .i64 (rd x5_3 (ji14))) ∧ w'.cell? (ad160.add (x9_3).toNat) = some (.int .i64 (rd x5_3 x9_3))) (ds := []) #[false, false, false, false, false, false, false, false, false, false, false, false, false, false] (by kernel_rfl) rfl rfl ⟨hx160_0, hx161_0⟩ (fun hHeld => ?_); refine with_tabW gutterref03_marks.tab11 gutterref03_marks.bits11 (fun HT_ HW_ => ?_)
                              generalize wr.drew = w27 at HO_5 HB hx160_0 hx161_0 hHeld ⊢
                              refine pure_ (i := 0) (N := some 41) (v := ?_) (a' := ?_) #[true, false, false, false, false, false, false, false, false, false, false, false, false, false] rfl rfl (any_of HT_.out (by kernel_rfl)) (fun _ _ _ h => h) (Or.inl ⟨by rfl, ?_⟩) ?_ ?_
                              rotate_left
                              · intro w'
                                go_simp
                                with_reducible rfl
                              rotate_left
                              · simp only [Act.put, List.setIfInBounds_toArray, List.set_cons_zero, List.set_cons_succ, i64_w, i32_w]
                                rfl
                              refine pure_ (i := 1) (N := some 42) (v := ?_) (a' := ?_) #[true, true, false, false, false, false, false, false, false, false, false, false, false, false] rfl rfl (any_of HT_.out (by kernel_rfl)) (fun _ _ _ h => h) (Or.inl ⟨by rfl, ?_⟩) ?_ ?_
                              rotate_left
                              · intro w'
                                go_simp
                                with_reducible rfl
                              rotate_left
                              · simp only [Act.put, List.setIfInBounds_toArray, List.set_cons_zero, List.set_cons_succ, i64_w, i32_w]
                                rfl
                              refine pure_ (i := 2) (N := some 43) (v := ?_) (a' := ?_) #[true, true, true, false, false, false, false, false, false, false, false, false, false, false] rfl rfl (any_of HT_.out (by kernel_rfl)) (fun _ _ _ h => h) (Or.inl ⟨by rfl, ?_⟩) ?_ ?_
                              rotate_left
                              · intro w'
                                go_simp
                                with_reducible rfl
                              rotate_left
                              · simp only [Act.put, List.setIfInBounds_toArray, List.set_cons_zero, List.set_cons_succ, i64_w, i32_w]
                                rfl
                              refine pure_ (i := 3) (N := some 44) (v := ?_) (a' := ?_) #[true, true, true, true, false, false, false, false, false, false, false, false, false, false] rfl rfl (any_of HT_.out (by kernel_rfl)) (fun _ _ _ h => h) (Or.inl ⟨by rfl, ?_⟩) ?_ ?_
                              rotate_left
                              · intro w'
                                go_simp
                                with_reducible rfl
                              rotate_left
                              · simp only [Act.put, List.setIfInBounds_toArray, List.set_cons_zero, List.set_cons_succ, i64_w, i32_w]
                                rfl
                              refine pure_ (i := 4) (N := some 45) (v := ?_) (a' := ?_) #[true, true, true, true, true, false, false, false, false, false, false, false, false, false] rfl rfl (any_of HT_.out (by kernel_rfl)) (fun _ _ _ h => h) (Or.inl ⟨by rfl, ?_⟩) ?_ ?_
                              rotate_left
                              · intro w'
                                go_simp
                                with_reducible rfl
                              rotate_left
                              · simp only [Act.put, List.setIfInBounds_toArray, List.set_cons_zero, List.set_cons_succ, i64_w, i32_w]
                                rfl
                              refine pure_ (i := 5) (N := some 46) (v := ?_) (a' := ?_) #[true, true, true, true, true, true, false, false, false, false, false, false, false, false] rfl rfl (any_of HT_.out (by kernel_rfl)) (fun _ _ _ h => h) (Or.inl ⟨by rfl, ?_⟩) ?_ ?_
                              rotate_left
                              · intro w'
                                go_simp
                                with_reducible rfl
                              rotate_left
                              · simp only [Act.put, List.setIfInBounds_toArray, List.set_cons_zero, List.set_cons_succ, i64_w, i32_w]
                                rfl
                              refine pure_ (i := 6) (N := some 47) (v := ?_) (a' := ?_) #[true, true, true, true, true, true, true, false, false, false, false, false, false, false] rfl rfl (any_of HT_.out (by kernel_rfl)) (fun _ _ _ h => h) (Or.inl ⟨by rfl, ?_⟩) ?_ ?_
                              rotate_left
                              · intro w'
                                go_simp
                                with_reducible rfl
                              rotate_left
                              · simp only [Act.put, List.setIfInBounds_toArray, List.set_cons_zero, List.set_cons_succ, i64_w, i32_w]
                                rfl
                              refine pure_ (i := 8) (N := some 49) (v := ?_) (a' := ?_) #[true, true, true, true, true, true, true, false, true, false, false, false, false, false] rfl rfl (any_of HT_.out (by kernel_rfl)) (fun _ _ _ h => h) (Or.inl ⟨by rfl, ?_⟩) ?_ ?_
                              rotate_left
                              · intro w'
                                go_simp
                                with_reducible rfl
                              rotate_left
                              · simp only [Act.put, List.setIfInBounds_toArray, List.set_cons_zero, List.set_cons_succ, i64_w, i32_w]
                                rfl
                              refine pure_ (i := 9) (N := some 50) (v := ?_) (a' := ?_) #[true, true, true, true, true, true, true, false, true, true, false, false, false, false] rfl rfl (any_of HT_.out (by kernel_rfl)) (fun _ _ _ h => h) (Or.inl ⟨by rfl, ?_⟩) ?_ ?_
                              rotate_left
                              · intro w'
                                go_simp
                                with_reducible rfl
                              rotate_left
                              · simp only [Act.put, List.setIfInBounds_toArray, List.set_cons_zero, List.set_cons_succ, i64_w, i32_w]
                                rfl
                              refine pure_ (i := 10) (N := some 51) (v := ?_) (a' := ?_) #[true, true, true, true, true, true, true, false, true, true, true, false, false, false] rfl rfl (any_of HT_.out (by kernel_rfl)) (fun _ _ _ h => h) (Or.inl ⟨by rfl, ?_⟩) ?_ ?_
                              rotate_left
                              · intro w'
                                go_simp
                                with_reducible rfl
                              rotate_left
                              · simp only [Act.put, List.setIfInBounds_toArray, List.set_cons_zero, List.set_cons_succ, i64_w, i32_w]
                                rfl
                              refine take_ (i := 7) (N := some 48) (v := ?_) (a' := ?_) #[true, true, true, true, true, true, true, true, true, true, true, false, false, false] rfl rfl (take_ofW HT_.out HW_.out (by kernel_rfl)) (fun _ _ _ h => h) (Or.inl ⟨by rfl, ?_⟩) hHeld ?_ ?_
                              rotate_left
                              · rintro w' ⟨s0, s1⟩
                                go_simp
                                with_reducible rfl
                              rotate_left
                              · simp only [Act.put, List.setIfInBounds_toArray, List.set_cons_zero, List.set_cons_succ, i64_w, i32_w]
                                rfl
                              refine take_ (i := 11) (N := some 52) (v := ?_) (a' := ?_) #[true, true, true, true, true, true, true, true, true, true, true, true, false, false] rfl rfl (take_ofW HT_.out HW_.out (by kernel_rfl)) (fun _ _ _ h => h) (Or.inl ⟨by rfl, ?_⟩) hHeld ?_ ?_
                              rotate_left
                              · rintro w' ⟨s0, s1⟩
                                go_simp
                                with_reducible rfl
                              rotate_left
                              · simp only [Act.put, List.setIfInBounds_toArray, List.set_cons_zero, List.set_cons_succ, i64_w, i32_w]
                                rfl
                              refine pure_ (i := 12) (N := some 53) (v := ?_) (a' := ?_) #[true, true, true, true, true, true, true, true, true, true, true, true, true, false] rfl rfl (any_of HT_.out (by kernel_rfl)) (fun _ _ _ h => h) (Or.inl ⟨by rfl, ?_⟩) ?_ ?_
                              rotate_left
                              · intro w'
                                go_simp
                                with_reducible rfl
                              rotate_left
                              · simp only [Act.put, List.setIfInBounds_toArray, List.set_cons_zero, List.set_cons_succ, i64_w, i32_w]
                                rfl
                              refine pure_ (i := 13) (N := some 54) (v := ?_) (a' := ?_) #[true, true, true, true, true, true, true, true, true, true, true, true, true, true] rfl rfl (any_of HT_.out (by kernel_rfl)) (fun _ _ _ h => h) (Or.inl ⟨by rfl, ?_⟩) ?_ ?_
                              rotate_left
                              · intro w'
                                go_simp
                                with_reducible rfl
                              rotate_left
                              · simp only [Act.put, List.setIfInBounds_toArray, List.set_cons_zero, List.set_cons_succ, i64_w, i32_w]
                                rfl
                              refine done_ (done_of HT_.out (by kernel_rfl)) ?_
                              try go_wp2
                              (try simp only [← hl5_3])
                              go_roundg k3
                              case measure => have := HK1.out; have := HK2.out; have := HK3.out; omega
                              case rel => exact ⟨(x5_3), (wrap64 (x8_2 + 1)), (by first | rfl | (simp; done) | (simp [*]; done)), H', ⟨by have := HK1.out; have := HK2.out; have := HK3.out; omega⟩, ⟨by (try simp only [hl5_3]); (with_reducible repeat (first | apply Kd.R_alloc | apply Kd.R_drewN | apply Kd.R_drew)); exact HO_5.out⟩, ⟨by repeat (first | (with_reducible first | exact HB.out | apply below_alloc | apply pw_below_drewN | apply below_drew1) | exact HB.out)⟩⟩
                          · rw [if_neg c18] at H
                            exact absurd H (by simp)
                        · rw [if_neg c17] at H
                          exact absurd H (by simp)
                      · rw [if_neg c16] at H
                        exact absurd H (by simp)
                    · rw [if_neg c15] at H
                      exact absurd H (by simp)
                  · rw [if_neg c13] at H
                    have c13b0 : decide (0 < x9_3) = false := decide_eq_false c13
                    clear c13
                    have H' := Aside0.mk H
                    clear H
                    try go_wp2
                    have n0_ := Aside0.mk (Kd.R_drew HO_5.out)
                    have n1_ := Aside0.mk (below_drew1 HB.out)
                    clear HO_5
                    clear HB
                    have HO_5 := n0_
                    have HB := n1_
                    clear n0_ n1_
                    refine start_ (n := 14) (S := fun w' => True) (ds := []) #[false, false, false, false, false, false, false, false, false, false, false, false, false, false] (by kernel_rfl) rfl rfl trivial (fun hHeld => ?_); refine with_tabW gutterref03_marks.tab11 gutterref03_marks.bits11 (fun HT_ HW_ => ?_)
                    generalize wr.drew = w28 at HO_5 HB hHeld ⊢
                    refine pure_ (i := 0) (N := some 41) (v := ?_) (a' := ?_) #[true, false, false, false, false, false, false, false, false, false, false, false, false, false] rfl rfl (any_of HT_.out (by kernel_rfl)) (fun _ _ _ h => h) (Or.inl ⟨by rfl, ?_⟩) ?_ ?_
                    rotate_left
                    · intro w'
                      go_simp
                      with_reducible rfl
                    rotate_left
                    · simp only [Act.put, List.setIfInBounds_toArray, List.set_cons_zero, List.set_cons_succ, i64_w, i32_w]
                      rfl
                    refine pure_ (i := 1) (N := some 42) (v := ?_) (a' := ?_) #[true, true, false, false, false, false, false, false, false, false, false, false, false, false] rfl rfl (any_of HT_.out (by kernel_rfl)) (fun _ _ _ h => h) (Or.inl ⟨by rfl, ?_⟩) ?_ ?_
                    rotate_left
                    · intro w'
                      go_simp
                      with_reducible rfl
                    rotate_left
                    · simp only [Act.put, List.setIfInBounds_toArray, List.set_cons_zero, List.set_cons_succ, i64_w, i32_w]
                      rfl
                    refine pure_ (i := 2) (N := some 43) (v := ?_) (a' := ?_) #[true, true, true, false, false, false, false, false, false, false, false, false, false, false] rfl rfl (any_of HT_.out (by kernel_rfl)) (fun _ _ _ h => h) (Or.inl ⟨by rfl, ?_⟩) ?_ ?_
                    rotate_left
                    · intro w'
                      go_simp
                      with_reducible rfl
                    rotate_left
                    · simp only [Act.put, List.setIfInBounds_toArray, List.set_cons_zero, List.set_cons_succ, i64_w, i32_w]
                      rfl
                    refine pure_ (i := 3) (N := some 44) (v := undef) (a' := ?_) #[true, true, true, true, false, false, false, false, false, false, false, false, false, false] rfl rfl (any_of HT_.out (by kernel_rfl)) (fun _ _ _ h => h) (Or.inr ⟨by rfl, rfl⟩) ?_ ?_
                    rotate_left
                    · simp only [Act.put, List.setIfInBounds_toArray, List.set_cons_zero, List.set_cons_succ, i64_w, i32_w]
                      rfl
                    refine pure_ (i := 4) (N := some 45) (v := undef) (a' := ?_) #[true, true, true, true, true, false, false, false, false, false, false, false, false, false] rfl rfl (any_of HT_.out (by kernel_rfl)) (fun _ _ _ h => h) (Or.inr ⟨by rfl, rfl⟩) ?_ ?_
                    rotate_left
                    · simp only [Act.put, List.setIfInBounds_toArray, List.set_cons_zero, List.set_cons_succ, i64_w, i32_w]
                      rfl
                    refine pure_ (i := 5) (N := some 46) (v := undef) (a' := ?_) #[true, true, true, true, true, true, false, false, false, false, false, false, false, false] rfl rfl (any_of HT_.out (by kernel_rfl)) (fun _ _ _ h => h) (Or.inr ⟨by rfl, rfl⟩) ?_ ?_
                    rotate_left
                    · simp only [Act.put, List.setIfInBounds_toArray, List.set_cons_zero, List.set_cons_succ, i64_w, i32_w]
                      rfl
                    refine pure_ (i := 6) (N := some 47) (v := undef) (a' := ?_) #[true, true, true, true, true, true, true, false, false, false, false, false, false, false] rfl rfl (any_of HT_.out (by kernel_rfl)) (fun _ _ _ h => h) (Or.inr ⟨by rfl, rfl⟩) ?_ ?_
                    rotate_left
                    · simp only [Act.put, List.setIfInBounds_toArray, List.set_cons_zero, List.set_cons_succ, i64_w, i32_w]
                      rfl
                    refine pure_ (i := 7) (N := some 48) (v := undef) (a' := ?_) #[true, true, true, true, true, true, true, true, false, false, false, false, false, false] rfl rfl (any_of HT_.out (by kernel_rfl)) (fun _ _ _ h => h) (Or.inr ⟨by rfl, rfl⟩) ?_ ?_
                    rotate_left
                    · simp only [Act.put, List.setIfInBounds_toArray, List.set_cons_zero, List.set_cons_succ, i64_w, i32_w]
                      rfl
                    refine pure_ (i := 8) (N := some 49) (v := undef) (a' := ?_) #[true, true, true, true, true, true, true, true, true, false, false, false, false, false] rfl rfl (any_of HT_.out (by kernel_rfl)) (fun _ _ _ h => h) (Or.inr ⟨by rfl, rfl⟩) ?_ ?_
                    rotate_left
                    · simp only [Act.put, List.setIfInBounds_toArray, List.set_cons_zero, List.set_cons_succ, i64_w, i32_w]
                      rfl
                    refine pure_ (i := 9) (N := some 50) (v := undef) (a' := ?_) #[true, true, true, true, true, true, true, true, true, true, false, false, false, false] rfl rfl (any_of HT_.out (by kernel_rfl)) (fun _ _ _ h => h) (Or.inr ⟨by rfl, rfl⟩) ?_ ?_
                    rotate_left
                    · simp only [Act.put, List.setIfInBounds_toArray, List.set_cons_zero, List.set_cons_succ, i64_w, i32_w]
                      rfl
                    refine pure_ (i := 10) (N := some 51) (v := undef) (a' := ?_) #[true, true, true, true, true, true, true, true, true, true, true, false, false, false] rfl rfl (any_of HT_.out (by kernel_rfl)) (fun _ _ _ h => h) (Or.inr ⟨by rfl, rfl⟩) ?_ ?_
                    rotate_left
                    · simp only [Act.put, List.setIfInBounds_toArray, List.set_cons_zero, List.set_cons_succ, i64_w, i32_w]
                      rfl
                    refine pure_ (i := 11) (N := some 52) (v := undef) (a' := ?_) #[true, true, true, true, true, true, true, true, true, true, true, true, false, false] rfl rfl (any_of HT_.out (by kernel_rfl)) (fun _ _ _ h => h) (Or.inr ⟨by rfl, rfl⟩) ?_ ?_
                    rotate_left
                    · simp only [Act.put, List.setIfInBounds_toArray, List.set_cons_zero, List.set_cons_succ, i64_w, i32_w]
                      rfl
                    refine pure_ (i := 12) (N := some 53) (v := undef) (a' := ?_) #[true, true, true, true, true, true, true, true, true, true, true, true, true, false] rfl rfl (any_of HT_.out (by kernel_rfl)) (fun _ _ _ h => h) (Or.inr ⟨by rfl, rfl⟩) ?_ ?_
                    rotate_left
                    · simp only [Act.put, List.setIfInBounds_toArray, List.set_cons_zero, List.set_cons_succ, i64_w, i32_w]
                      rfl
                    refine pure_ (i := 13) (N := some 54) (v := ?_) (a' := ?_) #[true, true, true, true, true, true, true, true, true, true, true, true, true, true] rfl rfl (any_of HT_.out (by kernel_rfl)) (fun _ _ _ h => h) (Or.inl ⟨by rfl, ?_⟩) ?_ ?_
                    rotate_left
                    · intro w'
                      go_simp
                      with_reducible rfl
                    rotate_left
                    · simp only [Act.put, List.setIfInBounds_toArray, List.set_cons_zero, List.set_cons_succ, i64_w, i32_w]
                      rfl
                    refine done_ (done_of HT_.out (by kernel_rfl)) ?_
                    try go_wp2
                    (try simp only [← hl5_3])
                    go_roundg k3
                    case measure => have := HK1.out; have := HK2.out; have := HK3.out; omega
                    case rel => exact ⟨(x5_3), (wrap64 (x8_2 + 1)), (by first | rfl | (simp; done) | (simp [*]; done)), H', ⟨by have := HK1.out; have := HK2.out; have := HK3.out; omega⟩, ⟨by (try simp only [hl5_3]); (with_reducible repeat (first | apply Kd.R_alloc | apply Kd.R_drewN | apply Kd.R_drew)); exact HO_5.out⟩, ⟨by repeat (first | (with_reducible first | exact HB.out | apply below_alloc | apply pw_below_drewN | apply below_drew1) | exact HB.out)⟩⟩
            · rw [if_neg c11] at H
              have c11b0 : decide (x8_2 < (x5_2.length : Int)) = false := decide_eq_false c11
              clear c11
              obtain rfl := Option.some.inj H
              obtain ⟨Ao29, co29, eo29⟩ := Kd.R_slice HO_5.out
              subst eo29
              go_wp2
              go_ret
              exact ⟨_, by first | rfl | (simp [errW_none, errW_some] <;> rfl) | (simp [*, errW_none, errW_some] <;> rfl), Kd.R_lower (by (with_reducible repeat (first | apply Kd.R_alloc | apply Kd.R_drewN | apply Kd.R_drew)); exact HO_5.out) HBW.out.size, HBW.out.trans ((by repeat (first | (with_reducible first | exact HB.out | apply below_alloc | apply pw_below_drewN | apply below_drew1) | exact HB.out) : Below w2.heap.size w2 _).mono HBW.out.size)⟩

/-! ### What the marks are -/
theorem wr64 {x : Int} (h : -9223372036854775808 ≤ x ∧ x ≤ 9223372036854775807) : wrap64 x = x := by unfold wrap64; omega
theorem rd_nat (l : List Int) (i : Nat) : rd l (i : Int) = l.getD i 0 := by simp [rd]
theorem getD_of {l : List Int} {i : Nat} {a : Int} (h : l[i]? = some a) : l.getD i 0 = a := by rw [List.getD_eq_getElem?_getD, h]; rfl
theorem marks_l2 (P : List Int) (x : Int) (R : List Int) (hP : UpI P) (hn : P.length + R.length ≤ 1000000) (r : Option (List Int)) (N : Nat) (hN : ∀ k, N ≤ k → gutterref03_marks.l1 k (insI x P ++ R) ((P.length + 1 : Nat) : Int) = r) :
    ∀ (kk k : Nat), kk ≤ P.length → (kk < P.length → x < P.getD kk 0) → N + kk + 1 ≤ k → gutterref03_marks.l2 k (atI P x R kk) (P.length : Int) (kk : Int) = r
  | 0, k, _, hx, hk => by
    obtain ⟨k, rfl⟩ : ∃ m, k = m + 1 := ⟨k - 1, by omega⟩
    simp only [gutterref03_marks.l2]
    rw [if_neg (by omega), wr64 (by omega), show ((P.length : Int) + 1) = ((P.length + 1 : Nat) : Int) by push_cast; rfl]
    have := hN k (by omega)
    rw [insI_at x P 0 (Nat.zero_le _) (fun j hj => by omega) hx] at this
    exact this
  | m + 1, k, hm, hx, hk => by
    obtain ⟨k, rfl⟩ : ∃ m, k = m + 1 := ⟨k - 1, by omega⟩
    obtain ⟨g1, g2⟩ := atI_get P x R m (by omega)
    have hl := atI_len P x R (m + 1)
    simp only [gutterref03_marks.l2]
    rw [if_pos (by omega), wr64 (by omega), show (((m + 1 : Nat) : Int) - 1) = (m : Int) by omega, if_pos (by omega), if_pos (by omega), if_pos (by omega), if_pos (by omega), rd_nat, rd_nat, getD_of g1, getD_of g2]
    by_cases h : P.getD m 0 > x
    · rw [if_pos h]
      simp only [Int.toNat_natCast]
      rw [atI_set P x R m (by omega)]
      exact marks_l2 P x R hP hn r N hN m k (by omega) (fun _ => h) (by omega)
    · rw [if_neg h, wr64 (by omega), show ((P.length : Int) + 1) = ((P.length + 1 : Nat) : Int) by push_cast; rfl]
      have := hN k (by omega)
      rw [insI_at x P (m + 1) hm (fun j hj => by
        have := up_getD hP j m (by omega) (by omega)
        omega) hx] at this
      unfold atI
      rw [List.append_assoc, List.cons_append] at this
      exact this
theorem marks_l1 (E : List Int) (hn : E.length ≤ 1000000) : ∀ (d i k : Nat), E.length - i = d → i ≤ E.length → (E.length + 2) * d + 1 ≤ k → gutterref03_marks.l1 k (sortI (E.take i) ++ E.drop i) (i : Int) = some (sortI E)
  | 0, i, k, hd, hi, hk => by
    obtain ⟨k, rfl⟩ : ∃ m, k = m + 1 := ⟨k - 1, by omega⟩
    obtain rfl : i = E.length := by omega
    simp only [gutterref03_marks.l1]
    rw [List.take_of_length_le (Nat.le_refl _), List.drop_eq_nil_of_le (Nat.le_refl _), List.append_nil, sortI_len, if_neg (by omega)]
  | d + 1, i, k, hd, hi, hk => by
    have hmul : (E.length + 2) * (d + 1) = (E.length + 2) * d + (E.length + 2) := Nat.mul_succ _ _
    obtain ⟨k, rfl⟩ : ∃ m, k = m + 1 := ⟨k - 1, by omega⟩
    have hlt : i < E.length := by omega
    have hPl : (sortI (E.take i)).length = i := by rw [sortI_len, List.length_take]; omega
    have hdr : E.drop i = E.getD i 0 :: E.drop (i + 1) := by
      rw [List.drop_eq_getElem_cons hlt]
      simp [List.getD_eq_getElem?_getD, List.getElem?_eq_getElem hlt]
    have htk : E.take (i + 1) = E.take i ++ [E.getD i 0] := by
      rw [List.take_succ_eq_append_getElem hlt]
      simp [List.getD_eq_getElem?_getD, List.getElem?_eq_getElem hlt]
    simp only [gutterref03_marks.l1]
    rw [if_pos (by rw [List.length_append, hPl, List.length_drop]; omega), hdr]
    have hat : sortI (E.take i) ++ E.getD i 0 :: E.drop (i + 1) = atI (sortI (E.take i)) (E.getD i 0) (E.drop (i + 1)) i := by
      unfold atI
      rw [List.take_of_length_le (show (sortI (E.take i)).length ≤ i by omega), List.drop_eq_nil_of_le (show (sortI (E.take i)).length ≤ i by omega), List.nil_append]
    rw [hat]
    have := marks_l2 (sortI (E.take i)) (E.getD i 0) (E.drop (i + 1)) (sortI_up _) (by rw [hPl, List.length_drop]; omega) (some (sortI E)) ((E.length + 2) * d + 1) (fun k' hk' => by
      rw [hPl, ← sortI_snoc, ← htk]
      exact marks_l1 E hn d (i + 1) k' (by omega) (by omega) hk') i k (by omega) (fun h => by omega) (by omega)
    rw [hPl] at this
    exact this
theorem marks_l0 (L : List S24) (hn : L.length ≤ 2000) (r : Option (List Int)) (N : Nat) (hN : ∀ k, N ≤ k → gutterref03_marks.l1 k (endsB L) 0 = r) : ∀ (d i k : Nat), L.length - i = d → i ≤ L.length → N + d + 1 ≤ k → gutterref03_marks.l0 k (endsB (L.take i)) L (i : Int) = r
  | 0, i, k, hd, hi, hk => by
    obtain ⟨k, rfl⟩ : ∃ m, k = m + 1 := ⟨k - 1, by omega⟩
    obtain rfl : i = L.length := by omega
    simp only [gutterref03_marks.l0]
    rw [if_neg (by omega), List.take_of_length_le (Nat.le_refl _)]
    exact hN k (by omega)
  | d + 1, i, k, hd, hi, hk => by
    obtain ⟨k, rfl⟩ : ∃ m, k = m + 1 := ⟨k - 1, by omega⟩
    have htk := take_next L i (by omega)
    simp only [gutterref03_marks.l0]
    rw [if_pos (by omega), if_pos (by omega), Option.bind_some, if_pos (by rw [ends_len, List.length_take]; simp; omega), wr64 (by omega), show ((i : Int) + 1) = ((i + 1 : Nat) : Int) by push_cast; rfl]
    have e : endsB (L.take i) ++ [(rd_T24 L (i : Int)).f0, (rd_T24 L (i : Int)).f1] = endsB (L.take (i + 1)) := by
      rw [htk, ends_snoc]
      simp [rd_T24]
    rw [e]
    exact marks_l0 L hn r N hN d (i + 1) k (by omega) (by omega) (by omega)
theorem marks_all (L : List S24) (hn : L.length ≤ 2000) : ∃ k, gutterref03_marks.l0 k ([] : List Int) L 0 = some (sortI (endsB L)) := by
  refine ⟨(((endsB L).length + 2) * (endsB L).length + 1) + L.length + 1, ?_⟩
  exact marks_l0 L hn _ _ (fun k hk => marks_l1 (endsB L) (by rw [ends_len]; omega) (endsB L).length 0 k (by omega) (by omega) hk) L.length 0 _ (by omega) (by omega) (Nat.le_refl _)

theorem gutterref03_marks.calls (A0 : Option Addr) (c0 : Nat) (l0 : List (S24)) (A1 : Option Addr) (c1 : Nat) (l1 : List (S24)) (r : List Int) (w : World) (hr0 : Kd.C k24 w A0 l0.length l0) (hc0 : l0.length ≤ c0) (hr1 : Kd.C k24 w A1 l1.length l1) (hc1 : l1.length ≤ c1) (h : gutterref03_marks.f l0 l1 = some r) :
    Calls Tryd.prog 48 #[.slice A0 l0.length c0, .slice A1 l1.length c1] w fun e w' => ∃ v0_ : Value, e = .returned (v0_) ∧ Kd.R (Kd.int .i64) 2 w' w.heap.size (fun _ => True) v0_ r ∧ Below w.heap.size w w' := by
  unfold gutterref03_marks.f at h
  split at h
  · next hlen =>
    cases h
    obtain ⟨k, hk⟩ := marks_all (l0 ++ l1) (by rw [List.length_append]; omega)
    exact marks_calls k A0 c0 l0 A1 c1 l1 _ w hr0 hr1 hlen.1 hlen.2 hk
  · cases h

end Go.Proofs.YtomgpbhkoellpaaDoor.P
