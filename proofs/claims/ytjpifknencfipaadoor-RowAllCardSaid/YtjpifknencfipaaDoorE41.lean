/- The pieces of a column (row.layer.pieces): the iterator. Conditions: the boxes and the layer lie; the atoms are right. · row.Lay where it answers nothing. Conditions: the slice reads as the list; the sentinel. · What lies while row.Lay goes through its columns. Conditions: none. · A region that draws its order within a round: its walk in the words for one outside. Conditions: no deferred call among its operations. · row.Lay. Conditions: the slice reads as the list; the sentinels. -/
import Derived.Test.YtjpifknencfipaaDoorE26
import Derived.BigQuiet
import Derived.OrdersIn
set_option linter.unusedVariables false
set_option linter.unusedSimpArgs false
namespace Go.Proofs.YtjpifknencfipaaDoor.P
open Go.RowKit Go.Shelf Go.Proofs.YtjpifknencfipaaDoorW.PrintWords Go.Proofs.YtjpifknencfipaaDoorW.PrintLast Go.Proofs.YtjpifknencfipaaDoorW.PrintMore
attribute [local go_sem] Oper.semAt_some
abbrev m41_0 : Array Bool := #[false, false, false, false, false, false, false, false, false, false, false, false, false, false, false, false, false, false, false, false, false, false, false, false, false, false, false, false, false, false]
abbrev m41_1 : Array Bool := #[true, false, false, false, false, false, false, false, false, false, false, false, false, false, false, false, false, false, false, false, false, false, false, false, false, false, false, false, false, false]
abbrev m41_2 : Array Bool := #[true, true, false, false, false, false, false, false, false, false, false, false, false, false, false, false, false, false, false, false, false, false, false, false, false, false, false, false, false, false]
abbrev m41_3 : Array Bool := #[true, true, true, false, false, false, false, false, false, false, false, false, false, false, false, false, false, false, false, false, false, false, false, false, false, false, false, false, false, false]
abbrev m41_4 : Array Bool := #[true, true, true, true, false, false, false, false, false, false, false, false, false, false, false, false, false, false, false, false, false, false, false, false, false, false, false, false, false, false]
abbrev m41_5 : Array Bool := #[true, true, true, true, true, false, false, false, false, false, false, false, false, false, false, false, false, false, false, false, false, false, false, false, false, false, false, false, false, false]
abbrev m41_6 : Array Bool := #[true, true, true, true, true, true, false, false, false, false, false, false, false, false, false, false, false, false, false, false, false, false, false, false, false, false, false, false, false, false]
abbrev m41_7 : Array Bool := #[true, true, true, true, true, true, true, false, false, false, false, false, false, false, false, false, false, false, false, false, false, false, false, false, false, false, false, false, false, false]
abbrev m41_8 : Array Bool := #[true, true, true, true, true, true, true, true, false, false, false, false, false, false, false, false, false, false, false, false, false, false, false, false, false, false, false, false, false, false]
abbrev m41_9 : Array Bool := #[true, true, true, true, true, true, true, true, true, false, false, false, false, false, false, false, false, false, false, false, false, false, false, false, false, false, false, false, false, false]
abbrev m41_10 : Array Bool := #[true, true, true, true, true, true, true, true, true, true, false, false, false, false, false, false, false, false, false, false, false, false, false, false, false, false, false, false, false, false]
abbrev m41_11 : Array Bool := #[true, true, true, true, true, true, true, true, true, true, true, false, false, false, false, false, false, false, false, false, false, false, false, false, false, false, false, false, false, false]
abbrev m41_12 : Array Bool := #[true, true, true, true, true, true, true, true, true, true, true, true, false, false, false, false, false, false, false, false, false, false, false, false, false, false, false, false, false, false]
abbrev m41_13 : Array Bool := #[true, true, true, true, true, true, true, true, true, true, true, true, true, false, false, false, false, false, false, false, false, false, false, false, false, false, false, false, false, false]
abbrev m41_14 : Array Bool := #[true, true, true, true, true, true, true, true, true, true, true, true, true, true, false, false, false, false, false, false, false, false, false, false, false, false, false, false, false, false]
abbrev m41_15 : Array Bool := #[true, true, true, true, true, true, true, true, true, true, true, true, true, true, true, false, false, false, false, false, false, false, false, false, false, false, false, false, false, false]
abbrev m41_16 : Array Bool := #[true, true, true, true, true, true, true, true, true, true, true, true, true, true, true, true, false, false, false, false, false, false, false, false, false, false, false, false, false, false]
abbrev m41_17 : Array Bool := #[true, true, true, true, true, true, true, true, true, true, true, true, true, true, true, true, true, false, false, false, false, false, false, false, false, false, false, false, false, false]
abbrev m41_18 : Array Bool := #[true, true, true, true, true, true, true, true, true, true, true, true, true, true, true, true, true, true, false, false, false, false, false, false, false, false, false, false, false, false]
abbrev m41_19 : Array Bool := #[true, true, true, true, true, true, true, true, true, true, true, true, true, true, true, true, true, true, true, false, false, false, false, false, false, false, false, false, false, false]
abbrev m41_20 : Array Bool := #[true, true, true, true, true, true, true, true, true, true, true, true, true, true, true, true, true, true, true, true, false, false, false, false, false, false, false, false, false, false]
abbrev m41_21 : Array Bool := #[true, true, true, true, true, true, true, true, true, true, true, true, true, true, true, true, true, true, true, true, true, false, false, false, false, false, false, false, false, false]
abbrev m41_22 : Array Bool := #[true, true, true, true, true, true, true, true, true, true, true, true, true, true, true, true, true, true, true, true, true, true, false, false, false, false, false, false, false, false]
abbrev m41_23 : Array Bool := #[true, true, true, true, true, true, true, true, true, true, true, true, true, true, true, true, true, true, true, true, true, true, true, false, false, false, false, false, false, false]
abbrev m41_24 : Array Bool := #[true, true, true, true, true, true, true, true, true, true, true, true, true, true, true, true, true, true, true, true, true, true, true, true, false, false, false, false, false, false]
abbrev m41_25 : Array Bool := #[true, true, true, true, true, true, true, true, true, true, true, true, true, true, true, true, true, true, true, true, true, true, true, true, true, false, false, false, false, false]
abbrev m41_26 : Array Bool := #[true, true, true, true, true, true, true, true, true, true, true, true, true, true, true, true, true, true, true, true, true, true, true, true, true, true, false, false, false, false]
abbrev m41_27 : Array Bool := #[true, true, true, true, true, true, true, true, true, true, true, true, true, true, true, true, true, true, true, true, true, true, true, true, true, true, true, false, false, false]
abbrev m41_28 : Array Bool := #[true, true, true, true, true, true, true, true, true, true, true, true, true, true, true, true, true, true, true, true, true, true, true, true, true, true, true, true, false, false]
abbrev m41_29 : Array Bool := #[true, true, true, true, true, true, true, true, true, true, true, true, true, true, true, true, true, true, true, true, true, true, true, true, true, true, true, true, true, false]
abbrev m41_30 : Array Bool := #[true, true, true, true, true, true, true, true, true, true, true, true, true, true, true, true, true, true, true, true, true, true, true, true, true, true, true, true, true, true]

/-- What a round keeps: what lay below the call, the layer's atoms, width and gap, and blocks of atoms, layers, columns, numbers. -/
structure KpP (n₀ gy : Nat) (W W' : World) : Prop where
  bel : Below n₀ W W'
  lay : ∀ (a b c d e f : Value), W.heap[gy]? = some (.cells #[a, b, c, d, e, f] 105 (0, 0)) → ∃ d' e' f', W'.heap[gy]? = some (.cells #[a, b, c, d', e', f'] 105 (0, 0))
  col : ∀ (k : Nat) (cs : Array Value) (q : TypeId), (q = 32 ∨ q = 101 ∨ q = 73 ∨ q = 3) → W.heap[k]? = some (Obj.cells cs q (0, 0)) → W'.heap[k]? = some (Obj.cells cs q (0, 0))
theorem KpP.t {n₀ gy : Nat} {A B C : World} (h : KpP n₀ gy A B) (k : KpP n₀ gy B C) : KpP n₀ gy A C :=
  ⟨h.bel.trans k.bel, fun a b c d e f hg => by
    obtain ⟨d', e', f', h1⟩ := h.lay a b c d e f hg
    exact k.lay a b c d' e' f' h1, fun i cs q hq hi => k.col i cs q hq (h.col i cs q hq hi)⟩
theorem KpP.b {n₀ gy : Nat} {w : World} (hn : n₀ ≤ w.heap.size) (W : World) (l : Nat) (o o' : Obj) (hl : w.heap.size ≤ l) (h : W.heap[l]? = some o) (hc : o.isCells = false) (hw : o.isWalk = false) : KpP n₀ gy W (W.putObj l o') :=
  have hk : ∀ k cs q, W.heap[k]? = some (Obj.cells cs q (0, 0)) → (W.putObj l o').heap[k]? = some (Obj.cells cs q (0, 0)) := fun k cs q hk => (World.putObj_heap_other (fun e => by
    subst e
    rw [h] at hk
    cases hk
    cases hc)).trans hk
  ⟨belowK_b hn W l o o' hl h hc hw, fun a b c d e f hg => ⟨d, e, f, hk _ _ _ hg⟩, fun k cs q hq => hk k cs q⟩
theorem KpP.drewN {n₀ gy : Nat} (W : World) (n : Nat) : KpP n₀ gy W (W.drewN n) := ⟨pw_below_drewN (Below.refl _ W) _, fun a b c d e f hg => ⟨d, e, f, hg⟩, fun k cs q _ hk => hk⟩
theorem KpP.alloc {n₀ gy : Nat} (W : World) (h : n₀ ≤ W.heap.size) (o : Obj) : KpP n₀ gy W (W.alloc o) :=
  have hk : ∀ k (x : Obj), W.heap[k]? = some x → (W.alloc o).heap[k]? = some x := fun k x hk => (Below.heap_alloc W o k (blk_lt hk)).trans hk
  ⟨(Below.refl _ W).alloc h _, fun a b c d e f hg => ⟨d, e, f, hk _ _ hg⟩, fun k cs q _ => hk k _⟩

def S58.enc (x : S58) : Value := .agg #[.int .i64 x.f0, .int .i64 x.f1, .int .i64 x.f2, .int .i64 x.f3.f0, .int .i64 x.f3.f1, .int .i64 x.f3.f2, .int .i64 x.f3.f3]
/-- Where piece k of a column that begins at a lies. -/
def atF (l : List S32) (a k : Nat) : Int := hiA l a (a + k + 1) - hhA l (a + k)
def upF (l : List S32) (a k : Nat) : Int := if k = 0 then 0 else hiA l a (a + k)
theorem atF_zero (l : List S32) (a : Nat) : atF l a 0 = 0 := by
  have h := hi_one l a
  show hiA l a (a + 1) - hhA l a = 0
  omega
theorem atF_up (l : List S32) (a k : Nat) (hk : k ≠ 0) : atF l a k = upF l a k + spA l (a + k) := by
  unfold atF upF
  rw [if_neg hk, hi_succ]
  show hiA l a (a + k) + (spA l (a + k) + hhA l (a + k)) - hhA l (a + k) = _
  omega
theorem upF_succ (l : List S32) (a k : Nat) : upF l a (k + 1) = atF l a k + hhA l (a + k) := by
  unfold atF upF
  rw [if_neg (by omega), show a + (k + 1) = a + k + 1 by omega]
  omega
theorem upF_range {l : List S32} (hl : rightA l = true) (a k : Nat) (h : a + k ≤ l.length) : 0 ≤ upF l a k ∧ upF l a k ≤ 2149580800000 := by
  unfold upF
  split
  · omega
  · have := hi_range hl a (a + k) (by omega) h
    omega
theorem frags_len (l : List S32) (w gap : Int) (i a : Nat) : ∀ k, (fragsA l w gap i a k).length = k
  | 0 => rfl
  | k + 1 => by simp [fragsA, frags_len l w gap i a k]
theorem frags_pre (l : List S32) (w gap : Int) (i a : Nat) (k : Nat) : ∀ n, fragsA l w gap i a k <+: fragsA l w gap i a (k + n)
  | 0 => List.prefix_rfl
  | n + 1 => (frags_pre l w gap i a k n).trans ⟨[fragA l w gap i a (a + (k + n))], rfl⟩

/-- pieces: the receiver, the number and the column are boxed, the closure captures the boxes. -/
theorem pieces_calls (gy : Nat) (i a b H : Int) (w : World) :
    Calls Tryd.prog 79 #[.pointer (some ⟨gy, 0, none⟩), .int .i64 i, .agg #[.int .i64 a, .int .i64 b, .int .i64 H]] w fun e w' => e = .returned (.func (.func 102) #[] #[.pointer (some ⟨w.heap.size, 0, none⟩), .pointer (some ⟨w.heap.size + 2, 0, none⟩), .pointer (some ⟨w.heap.size + 1, 0, none⟩)]) ∧
      ((w.alloc (.cells #[.pointer (some ⟨gy, 0, none⟩)] 101)).alloc (.cells #[.int .i64 i] 3)).alloc (.cells #[.int .i64 a, .int .i64 b, .int .i64 H] 73) = w' := by
  go_enter Tryd.func79, Tryd.ntmps79
  go_wp2
  go_ret
  exact ⟨by simp, rfl⟩

theorem tab102 : rtab .any (opsOf Tryd.f102 6) = rtab .any (opsOf Tryd.f102 6) := rfl
theorem cell_alloc' {w : World} {p : Addr} {v : Value} (h : w.cell? p = some v) (o : Obj) : (w.alloc o).cell? p = some v := pw_cell_below (below_alloc (Below.refl _ w) o) h
theorem KpP.drew1 {n₀ gy : Nat} (W : World) : KpP n₀ gy W W.drew := ⟨below_drew1 (Below.refl _ W), fun a b c d e f hg => ⟨d, e, f, hg⟩, fun k cs q _ hk => hk⟩

set_option maxRecDepth 100000 in
set_option maxHeartbeats 4000000 in
theorem pieces1_in (n : Nat) (hn : 1 ≤ n) (lp By Bc Bi n₀ gy : Nat) (A : Option Addr) (c : Nat) (l : List S32) (hl : rightA l = true) (hlen : l.length ≤ 200) (hcl : l.length ≤ c) (wd gap : Int) (hwd : 0 ≤ wd ∧ wd ≤ 1048576) (hgap : 0 ≤ gap ∧ gap ≤ 1048576)
    (i a b : Nat) (H : Int) (hi : i ≤ 200) (hab : a ≤ b) (hb : b ≤ l.length) (J Jx : List S58 → World → Prop) (W : World) (hJ : AbidesFrom W.heap.size J)
    (hY : ∀ pre x W, J pre W → pre.length < b - a → YieldAt Fence.wide (n - 1) Tryd.prog lp #[S58.enc x] W fun e W' =>
      (e = .returned (.bool true) ∧ J (pre ++ [x]) W' ∧ KpP n₀ gy W W') ∨ (e = .returned (.bool false) ∧ Jx (pre ++ [x]) W'))
    (hBy : W.heap[By]? = some (.cells #[.pointer (some ⟨gy, 0, none⟩)] 101 (0, 0))) (hBc : W.heap[Bc]? = some (.cells #[.int .i64 a, .int .i64 b, .int .i64 H] 73 (0, 0))) (hBi : W.heap[Bi]? = some (.cells #[.int .i64 i] 3 (0, 0)))
    (hgy : ∃ d e f, W.heap[gy]? = some (.cells #[.slice A l.length c, .int .i64 wd, .int .i64 gap, d, e, f] 105 (0, 0))) (w0 : World) (hw0 : w0.heap.size = n₀) (hWb : Below n₀ w0 W) (hC : Kd.C k32 w0 A l.length l) (hj : J [] W) :
    CallsIn Fence.wide n Tryd.prog 102 #[.func (.yield lp) #[] #[], .pointer (some ⟨By, 0, none⟩), .pointer (some ⟨Bc, 0, none⟩), .pointer (some ⟨Bi, 0, none⟩)] W fun e W' => (∃ v, e = .returned v) ∧
      ((∃ ys, ys = fragsA l wd gap i a (b - a) ∧ J ys W') ∨ (∃ pre, pre <+: fragsA l wd gap i a (b - a) ∧ Jx pre W')) := by
  obtain ⟨d0, e0, f0, hgy⟩ := hgy
  have y0 : W.cell? ⟨By, 0, none⟩ = some (.pointer (some ⟨gy, 0, none⟩)) := (blk_cell hBy 0).trans rfl
  have q0 : W.cell? ⟨Bc, 0, none⟩ = some (.int .i64 a) := (blk_cell hBc 0).trans rfl
  have q1 : W.cell? ⟨Bc, 1, none⟩ = some (.int .i64 b) := (blk_cell hBc 1).trans rfl
  have g0 : W.cell? ⟨gy, 0, none⟩ = some (.slice A l.length c) := (blk_cell hgy 0).trans rfl
  have a0 : (0 : Int) ≤ a := by omega
  have ab : (a : Int) ≤ b := by omega
  have bc : (b : Int) ≤ c := by omega
  obtain ⟨i0, hi0, hz0⟩ : ∃ i0, Tryd.prog.info? 32 = some i0 ∧ i0.size = 5 := by
    cases hx : Tryd.prog.info? 32 with
    | none => have := info32; rw [hx] at this; cases this
    | some i0 =>
      have := info32
      rw [hx] at this
      simp only [Option.map_some, Option.some.injEq, Prod.mk.injEq] at this
      exact ⟨i0, rfl, this.2.1⟩
  have HBy := Aside0.mk hBy
  have HBi := Aside0.mk hBi
  have HGY := Aside0.mk hgy
  have HJJ := Aside0.mk hj
  have HCC := Aside0.mk hC
  clear hBy hBc hBi hgy hj hC
  refine callsIn_of_wp Tryd.func102 rfl trivial ?_ rfl
  simp only [Tryd.ntmps102, List.size_toArray, List.length_cons, List.length_nil, Nat.reduceAdd, Nat.reduceSub, Array.replicate_succ, Array.replicate_zero, List.push_toArray, List.append_toArray, List.nil_append, List.cons_append]
  gi_wp2
  refine wpIn_scope_wide ?_
  gi_wp2
  refine wpIn_label ?_
  gi_wp2
  refine wpIn_wide.2 ?_
  go_quiet (fail)
  have hCd := Kd.C_drop HCC.out (m := a) (by omega) hcl
  rw [List.length_drop] at hCd
  obtain ⟨A2, hA2⟩ : ∃ x, (if c = a then A else Option.map (fun x => x.add (a * 5)) A) = x := ⟨_, rfl⟩
  have hCd2 : Kd.C k32 w0 A2 (l.drop a).length (l.drop a) := by
    rw [← hA2, List.length_drop]
    exact hCd
  have HCD := Aside0.mk hCd2
  rw [hA2]
  clear hCd hCd2 hA2
  obtain ⟨W1, hW1⟩ : ∃ x, W.drewN nq = x := ⟨_, rfl⟩
  have hK1 : KpP n₀ gy W W1 := hW1 ▸ KpP.drewN W _
  have hJ1 : J [] W1 := hW1 ▸ hJ [] W _ none HJJ.out (grown_of_below (pw_below_drewN (Below.refl _ W) _) none) (fun r e => by cases e)
  have HK1 := Aside0.mk hK1
  have HJ1 := Aside0.mk hJ1
  rw [hW1]
  clear hW1 hK1 hJ1 HJJ
  gi_wp2
  gi_loopw [5, 20] (fun av p wr => ∃ k : Nat, p = .int .i64 k ∧ k ≤ b - a ∧ av = .int .i64 (upF l a k) ∧ Aside0 (J (fragsA l wd gap i a k) wr) ∧ Aside0 (KpP n₀ gy W wr)) (fun _ p _ => (b - a) - (intOf p).toNat)
  case atStart => exact ⟨0, rfl, Nat.zero_le _, rfl, HJ1, HK1⟩
  case round =>
    obtain ⟨k, rfl, hk, rfl, HJr, HKr⟩ := hrel
    have yr : wr.cell? ⟨By, 0, none⟩ = some (.pointer (some ⟨gy, 0, none⟩)) := (blk_cell (HKr.out.col _ _ _ (by simp) HBy.out) 0).trans rfl
    have ir : wr.cell? ⟨Bi, 0, none⟩ = some (.int .i64 i) := (blk_cell (HKr.out.col _ _ _ (by simp) HBi.out) 0).trans rfl
    obtain ⟨d1, e1, f1, hgr⟩ := HKr.out.lay _ _ _ _ _ _ HGY.out
    have r0 : wr.cell? ⟨gy, 0, none⟩ = some (.slice A l.length c) := (blk_cell hgr 0).trans rfl
    have r1 : wr.cell? ⟨gy, 1, none⟩ = some (.int .i64 wd) := (blk_cell hgr 1).trans rfl
    have r2 : wr.cell? ⟨gy, 2, none⟩ = some (.int .i64 gap) := (blk_cell hgr 2).trans rfl
    clear hgr
    have hlr : n₀ ≤ wr.heap.size := by
      have := (hWb.trans HKr.out.bel).size
      omega
    by_cases hlt : k < b - a
    · have hC2 := Kd.C_below HCD.out ((hWb.trans HKr.out.bel).mono (by omega))
      obtain ⟨ad, rfl, x0, x1, x2, x3, x4⟩ := atom_cells hC2 k (by rw [List.length_drop]; omega)
      have hat : atA (l.drop a) k = atA l (a + k) := by simp [atA, List.getD_eq_getElem?_getD]
      have hht : hhA (l.drop a) k = hhA l (a + k) := by unfold hhA; rw [hat]
      have hsp : spA (l.drop a) k = spA l (a + k) := by unfold spA; rw [hat]
      have hbk : bkA (l.drop a) k = bkA l (a + k) := by unfold bkA; rw [hat]
      rw [hat] at x0 x1
      rw [hht] at x2
      rw [hsp] at x3
      rw [hbk] at x4
      have hh := hh_of hl (a + k) (by omega)
      have hu := upF_range hl a k (by omega)
      have hu1 := upF_range hl a (k + 1) (by omega)
      have hus := upF_succ l a k
      have hlt2 : (k : Int) < ((b - a : Nat) : Int) := by omega
      obtain ⟨F0, hF0⟩ : ∃ x, (atA l (a + k)).f0 = x := ⟨_, rfl⟩
      obtain ⟨F1, hF1⟩ : ∃ x, (atA l (a + k)).f1 = x := ⟨_, rfl⟩
      obtain ⟨Hk, hHk⟩ : ∃ x, hhA l (a + k) = x := ⟨_, rfl⟩
      obtain ⟨Sk, hSk⟩ : ∃ x, spA l (a + k) = x := ⟨_, rfl⟩
      obtain ⟨Bk, hBk⟩ : ∃ x, bkA l (a + k) = x := ⟨_, rfl⟩
      obtain ⟨Tk, hTk⟩ : ∃ x, atF l a k = x := ⟨_, rfl⟩
      have hz : k = 0 → Tk = 0 := by
        rintro rfl
        rw [← hTk]
        exact atF_zero l a
      have hnz : k ≠ 0 → Tk = upF l a k + Sk := fun h => by
        rw [← hTk, ← hSk]
        exact atF_up l a k h
      have hfr : fragA l wd gap i a (a + k) = (⟨F0, F1, i, ⟨i * (wd + gap), Tk, wd, Hk⟩⟩ : S58) := by
        rw [← hF0, ← hF1, ← hHk, ← hTk]
        rfl
      have hfs : fragsA l wd gap i a (k + 1) = fragsA l wd gap i a k ++ [(⟨F0, F1, i, ⟨i * (wd + gap), Tk, wd, Hk⟩⟩ : S58)] := by
        rw [← hfr]
        rfl
      have HFS := Lib.hid hfs
      rw [hTk, hHk] at hus
      rw [hF0] at x0
      rw [hF1] at x1
      rw [hHk] at x2 hh
      rw [hSk] at x3 hh
      rw [hBk] at x4
      have HUS := Lib.hid hus
      rw [hus] at hu1
      clear hat hht hsp hbk hfr hfs hus hF0 hF1 hHk hSk hBk hTk hC2
      have hmul : (0 : Int) ≤ (i : Int) * (wd + gap) ∧ (i : Int) * (wd + gap) ≤ 200 * 2097152 := by
        have h1 : (0 : Int) ≤ (i : Int) := by omega
        have h2 : (0 : Int) ≤ wd + gap := by omega
        exact ⟨Int.mul_nonneg h1 h2, Int.mul_le_mul (by omega) (by omega) h2 (by omega)⟩
      have ew1 : IntKind.i64.wrap (wd + gap) = wd + gap := by rw [IntKind.wrap_i64]; omega
      have ew2 : IntKind.i64.wrap ((i : Int) * (wd + gap)) = (i : Int) * (wd + gap) := by rw [IntKind.wrap_i64]; omega
      by_cases hk0 : 0 < k
      · have hTU := hnz (by omega)
        rw [hTU] at hu1 HUS HFS
        obtain ⟨U, hU⟩ : ∃ x, upF l a k = x := ⟨_, rfl⟩
        rw [hU] at hu hTU hu1 HUS HFS ⊢
        clear hz hnz hU
        have hb1 : 0 ≤ U + Sk ∧ U + Sk ≤ 2149580800000 := by omega
        gi_wp2
        rw [← hTU] at hu1 HUS HFS hb1 ⊢
        clear hTU
        obtain ⟨Wx, hWx⟩ : ∃ x, wr.alloc (Obj.cells #[.int .i64 F0, .int .i64 F1, .int .i64 Hk, .int .i64 Sk, .int .i64 Bk] 32) = x := ⟨_, rfl⟩
        obtain ⟨X, hX⟩ : ∃ x, wr.heap.size = x := ⟨_, rfl⟩
        have hXX : Wx.heap[X]? = some (.cells #[.int .i64 F0, .int .i64 F1, .int .i64 Hk, .int .i64 Sk, .int .i64 Bk] 32 (0, 0)) := by rw [← hWx, ← hX]; exact heap_alloc_new wr _
        have hBx : Below wr.heap.size wr Wx := hWx ▸ below_alloc (Below.refl _ wr) _
        have hKx : KpP n₀ gy wr Wx := hWx ▸ KpP.alloc wr hlr _
        have z0 : Wx.cell? ⟨X, 0, none⟩ = some (.int .i64 F0) := (blk_cell hXX 0).trans rfl
        have z1 : Wx.cell? ⟨X, 1, none⟩ = some (.int .i64 F1) := (blk_cell hXX 1).trans rfl
        have z2 : Wx.cell? ⟨X, 2, none⟩ = some (.int .i64 Hk) := (blk_cell hXX 2).trans rfl
        have ys := pw_cell_below hBx yr
        have is := pw_cell_below hBx ir
        have g1 := pw_cell_below hBx r1
        have g2 := pw_cell_below hBx r2
        have hsx : n₀ ≤ Wx.heap.size := Nat.le_trans hlr hBx.size
        rw [hWx, hX]
        have HXX := Aside0.mk hXX
        have HKX := Aside0.mk (HKr.out.t hKx)
        have hJx := hJ _ wr Wx none HJr.out (grown_of_below hBx none) (fun r e => by cases e)
        have HJX := Aside0.mk hJx
        clear hWx hX hXX hBx hKx hJx yr ir r0 r1 r2 x0 x1 x2 x3 x4 HJr HKr hlr wr
        refine wpIn_wide.2 ?_
        refine start_ (n := 30) (S := fun w' => w'.cell? ⟨By, 0, none⟩ = some (.pointer (some ⟨gy, 0, none⟩)) ∧ w'.cell? ⟨Bi, 0, none⟩ = some (.int .i64 i) ∧ w'.cell? ⟨gy, 1, none⟩ = some (.int .i64 wd) ∧ w'.cell? ⟨gy, 2, none⟩ = some (.int .i64 gap) ∧ w'.cell? ⟨X, 0, none⟩ = some (.int .i64 F0) ∧ w'.cell? ⟨X, 1, none⟩ = some (.int .i64 F1) ∧ w'.cell? ⟨X, 2, none⟩ = some (.int .i64 Hk)) (ds := [29]) m41_0 (by kernel_rfl) rfl rfl ⟨ys, is, g1, g2, z0, z1, z2⟩ (fun hHeld => ?_); refine with_tab tab102 (fun HT_ => ?_)
        have HDR := Aside0.mk (below_drew1 (Below.refl Wx.heap.size Wx))
        have HKD := Aside0.mk (KpP.drew1 (n₀ := n₀) (gy := gy) Wx)
        obtain ⟨Wd, hWd⟩ : ∃ x, Wx.drew = x := ⟨_, rfl⟩
        rw [hWd] at HDR HKD hHeld ⊢
        clear hWd
        refine pure_ (i := 0) (N := some 31) (v := ?_) (a' := ?_) m41_1 rfl rfl (any_of HT_.out (by kernel_rfl)) (fun _ _ _ h => h) (Or.inl ⟨by rfl, ?_⟩) ?_ ?_
        rotate_left
        · intro w'
          go_simp
          with_reducible rfl
        rotate_left
        · simp only [Act.put, List.setIfInBounds_toArray, List.set_cons_zero, List.set_cons_succ]
          rfl
        refine take_ (i := 1) (N := some 32) (v := ?_) (a' := ?_) m41_2 rfl rfl (take_of HT_.out (by kernel_rfl)) (fun _ _ _ h => h) (Or.inl ⟨by rfl, ?_⟩) hHeld ?_ ?_
        rotate_left
        · rintro w' ⟨s1, s2, s3, s4, s5, s6, s7⟩
          go_simp
          with_reducible rfl
        rotate_left
        · simp only [Act.put, List.setIfInBounds_toArray, List.set_cons_zero, List.set_cons_succ]
          rfl
        refine pure_ (i := 2) (N := some 33) (v := ?_) (a' := ?_) m41_3 rfl rfl (any_of HT_.out (by kernel_rfl)) (fun _ _ _ h => h) (Or.inl ⟨by rfl, ?_⟩) ?_ ?_
        rotate_left
        · intro w'
          go_simp
          with_reducible rfl
        rotate_left
        · simp only [Act.put, List.setIfInBounds_toArray, List.set_cons_zero, List.set_cons_succ]
          rfl
        refine take_ (i := 3) (N := some 34) (v := ?_) (a' := ?_) m41_4 rfl rfl (take_of HT_.out (by kernel_rfl)) (fun _ _ _ h => h) (Or.inl ⟨by rfl, ?_⟩) hHeld ?_ ?_
        rotate_left
        · rintro w' ⟨s1, s2, s3, s4, s5, s6, s7⟩
          go_simp
          with_reducible rfl
        rotate_left
        · simp only [Act.put, List.setIfInBounds_toArray, List.set_cons_zero, List.set_cons_succ]
          rfl
        refine take_ (i := 4) (N := some 35) (v := ?_) (a' := ?_) m41_5 rfl rfl (take_of HT_.out (by kernel_rfl)) (fun _ _ _ h => h) (Or.inl ⟨by rfl, ?_⟩) hHeld ?_ ?_
        rotate_left
        · rintro w' ⟨s1, s2, s3, s4, s5, s6, s7⟩
          go_simp
          with_reducible rfl
        rotate_left
        · simp only [Act.put, List.setIfInBounds_toArray, List.set_cons_zero, List.set_cons_succ]
          rfl
        refine take_ (i := 5) (N := some 36) (v := ?_) (a' := ?_) m41_6 rfl rfl (take_of HT_.out (by kernel_rfl)) (fun _ _ _ h => h) (Or.inl ⟨by rfl, ?_⟩) hHeld ?_ ?_
        rotate_left
        · rintro w' ⟨s1, s2, s3, s4, s5, s6, s7⟩
          go_simp
          with_reducible rfl
        rotate_left
        · simp only [Act.put, List.setIfInBounds_toArray, List.set_cons_zero, List.set_cons_succ]
          rfl
        refine take_ (i := 6) (N := some 37) (v := ?_) (a' := ?_) m41_7 rfl rfl (take_of HT_.out (by kernel_rfl)) (fun _ _ _ h => h) (Or.inl ⟨by rfl, ?_⟩) hHeld ?_ ?_
        rotate_left
        · rintro w' ⟨s1, s2, s3, s4, s5, s6, s7⟩
          go_simp
          with_reducible rfl
        rotate_left
        · simp only [Act.put, List.setIfInBounds_toArray, List.set_cons_zero, List.set_cons_succ]
          rfl
        refine pure_ (i := 7) (N := some 38) (v := ?_) (a' := ?_) m41_8 rfl rfl (any_of HT_.out (by kernel_rfl)) (fun _ _ _ h => h) (Or.inl ⟨by rfl, ?_⟩) ?_ ?_
        rotate_left
        · intro w'
          go_simp
          with_reducible rfl
        rotate_left
        · simp only [Act.put, List.setIfInBounds_toArray, List.set_cons_zero, List.set_cons_succ]
          rfl
        refine pure_ (i := 8) (N := some 39) (v := ?_) (a' := ?_) m41_9 rfl rfl (any_of HT_.out (by kernel_rfl)) (fun _ _ _ h => h) (Or.inl ⟨by rfl, ?_⟩) ?_ ?_
        rotate_left
        · intro w'
          go_simp
          with_reducible rfl
        rotate_left
        · simp only [Act.put, List.setIfInBounds_toArray, List.set_cons_zero, List.set_cons_succ]
          rfl
        refine pure_ (i := 9) (N := some 40) (v := ?_) (a' := ?_) m41_10 rfl rfl (any_of HT_.out (by kernel_rfl)) (fun _ _ _ h => h) (Or.inl ⟨by rfl, ?_⟩) ?_ ?_
        rotate_left
        · intro w'
          go_simp
          with_reducible rfl
        rotate_left
        · simp only [Act.put, List.setIfInBounds_toArray, List.set_cons_zero, List.set_cons_succ]
          rfl
        refine take_ (i := 10) (N := some 41) (v := ?_) (a' := ?_) m41_11 rfl rfl (take_of HT_.out (by kernel_rfl)) (fun _ _ _ h => h) (Or.inl ⟨by rfl, ?_⟩) hHeld ?_ ?_
        rotate_left
        · rintro w' ⟨s1, s2, s3, s4, s5, s6, s7⟩
          go_simp
          with_reducible rfl
        rotate_left
        · simp only [Act.put, List.setIfInBounds_toArray, List.set_cons_zero, List.set_cons_succ]
          rfl
        refine take_ (i := 11) (N := some 42) (v := ?_) (a' := ?_) m41_12 rfl rfl (take_of HT_.out (by kernel_rfl)) (fun _ _ _ h => h) (Or.inl ⟨by rfl, ?_⟩) hHeld ?_ ?_
        rotate_left
        · rintro w' ⟨s1, s2, s3, s4, s5, s6, s7⟩
          go_simp
          with_reducible rfl
        rotate_left
        · simp only [Act.put, List.setIfInBounds_toArray, List.set_cons_zero, List.set_cons_succ]
          rfl
        refine pure_ (i := 12) (N := some 43) (v := ?_) (a' := ?_) m41_13 rfl rfl (any_of HT_.out (by kernel_rfl)) (fun _ _ _ h => h) (Or.inl ⟨by rfl, ?_⟩) ?_ ?_
        rotate_left
        · intro w'
          go_simp
          with_reducible rfl
        rotate_left
        · simp only [Act.put, List.setIfInBounds_toArray, List.set_cons_zero, List.set_cons_succ]
          rfl
        refine pure_ (i := 13) (N := some 44) (v := ?_) (a' := ?_) m41_14 rfl rfl (any_of HT_.out (by kernel_rfl)) (fun _ _ _ h => h) (Or.inl ⟨by rfl, ?_⟩) ?_ ?_
        rotate_left
        · intro w'
          go_simp
          with_reducible rfl
        rotate_left
        · simp only [Act.put, List.setIfInBounds_toArray, List.set_cons_zero, List.set_cons_succ]
          rfl
        refine pure_ (i := 14) (N := some 45) (v := ?_) (a' := ?_) m41_15 rfl rfl (any_of HT_.out (by kernel_rfl)) (fun _ _ _ h => h) (Or.inl ⟨by rfl, ?_⟩) ?_ ?_
        rotate_left
        · intro w'
          go_simp
          with_reducible rfl
        rotate_left
        · simp only [Act.put, List.setIfInBounds_toArray, List.set_cons_zero, List.set_cons_succ]
          rfl
        refine take_ (i := 15) (N := some 46) (v := ?_) (a' := ?_) m41_16 rfl rfl (take_of HT_.out (by kernel_rfl)) (fun _ _ _ h => h) (Or.inl ⟨by rfl, ?_⟩) hHeld ?_ ?_
        rotate_left
        · rintro w' ⟨s1, s2, s3, s4, s5, s6, s7⟩
          go_simp
          with_reducible rfl
        rotate_left
        · simp only [Act.put, List.setIfInBounds_toArray, List.set_cons_zero, List.set_cons_succ]
          rfl
        refine pure_ (i := 16) (N := some 47) (v := ?_) (a' := ?_) m41_17 rfl rfl (any_of HT_.out (by kernel_rfl)) (fun _ _ _ h => h) (Or.inl ⟨by rfl, ?_⟩) ?_ ?_
        rotate_left
        · intro w'
          go_simp
          with_reducible rfl
        rotate_left
        · simp only [Act.put, List.setIfInBounds_toArray, List.set_cons_zero, List.set_cons_succ]
          rfl
        refine pure_ (i := 17) (N := some 48) (v := ?_) (a' := ?_) m41_18 rfl rfl (any_of HT_.out (by kernel_rfl)) (fun _ _ _ h => h) (Or.inl ⟨by rfl, ?_⟩) ?_ ?_
        rotate_left
        · intro w'
          go_simp
          with_reducible rfl
        rotate_left
        · simp only [Act.put, List.setIfInBounds_toArray, List.set_cons_zero, List.set_cons_succ]
          rfl
        refine pure_ (i := 18) (N := some 49) (v := ?_) (a' := ?_) m41_19 rfl rfl (any_of HT_.out (by kernel_rfl)) (fun _ _ _ h => h) (Or.inl ⟨by rfl, ?_⟩) ?_ ?_
        rotate_left
        · intro w'
          go_simp
          with_reducible rfl
        rotate_left
        · simp only [Act.put, List.setIfInBounds_toArray, List.set_cons_zero, List.set_cons_succ]
          rfl
        refine take_ (i := 19) (N := some 50) (v := ?_) (a' := ?_) m41_20 rfl rfl (take_of HT_.out (by kernel_rfl)) (fun _ _ _ h => h) (Or.inl ⟨by rfl, ?_⟩) hHeld ?_ ?_
        rotate_left
        · rintro w' ⟨s1, s2, s3, s4, s5, s6, s7⟩
          go_simp
          with_reducible rfl
        rotate_left
        · simp only [Act.put, List.setIfInBounds_toArray, List.set_cons_zero, List.set_cons_succ]
          rfl
        refine pure_ (i := 20) (N := some 51) (v := ?_) (a' := ?_) m41_21 rfl rfl (any_of HT_.out (by kernel_rfl)) (fun _ _ _ h => h) (Or.inl ⟨by rfl, ?_⟩) ?_ ?_
        rotate_left
        · intro w'
          go_simp
          with_reducible rfl
        rotate_left
        · simp only [Act.put, List.setIfInBounds_toArray, List.set_cons_zero, List.set_cons_succ]
          rfl
        refine pure_ (i := 21) (N := some 52) (v := ?_) (a' := ?_) m41_22 rfl rfl (any_of HT_.out (by kernel_rfl)) (fun _ _ _ h => h) (Or.inl ⟨by rfl, ?_⟩) ?_ ?_
        rotate_left
        · intro w'
          go_simp
          with_reducible rfl
        rotate_left
        · simp only [Act.put, List.setIfInBounds_toArray, List.set_cons_zero, List.set_cons_succ]
          rfl
        refine pure_ (i := 22) (N := some 53) (v := ?_) (a' := ?_) m41_23 rfl rfl (any_of HT_.out (by kernel_rfl)) (fun _ _ _ h => h) (Or.inl ⟨by rfl, ?_⟩) ?_ ?_
        rotate_left
        · intro w'
          go_simp
          with_reducible rfl
        rotate_left
        · simp only [Act.put, List.setIfInBounds_toArray, List.set_cons_zero, List.set_cons_succ]
          rfl
        refine take_ (i := 23) (N := some 54) (v := ?_) (a' := ?_) m41_24 rfl rfl (take_of HT_.out (by kernel_rfl)) (fun _ _ _ h => h) (Or.inl ⟨by rfl, ?_⟩) hHeld ?_ ?_
        rotate_left
        · rintro w' ⟨s1, s2, s3, s4, s5, s6, s7⟩
          go_simp
          with_reducible rfl
        rotate_left
        · simp only [Act.put, List.setIfInBounds_toArray, List.set_cons_zero, List.set_cons_succ]
          rfl
        refine pure_ (i := 24) (N := some 55) (v := ?_) (a' := ?_) m41_25 rfl rfl (any_of HT_.out (by kernel_rfl)) (fun _ _ _ h => h) (Or.inl ⟨by rfl, ?_⟩) ?_ ?_
        rotate_left
        · intro w'
          go_simp
          with_reducible rfl
        rotate_left
        · simp only [Act.put, List.setIfInBounds_toArray, List.set_cons_zero, List.set_cons_succ]
          rfl
        refine take_ (i := 25) (N := some 56) (v := ?_) (a' := ?_) m41_26 rfl rfl (take_of HT_.out (by kernel_rfl)) (fun _ _ _ h => h) (Or.inl ⟨by rfl, ?_⟩) hHeld ?_ ?_
        rotate_left
        · rintro w' ⟨s1, s2, s3, s4, s5, s6, s7⟩
          go_simp
          with_reducible rfl
        rotate_left
        · simp only [Act.put, List.setIfInBounds_toArray, List.set_cons_zero, List.set_cons_succ]
          rfl
        refine pure_ (i := 26) (N := some 57) (v := ?_) (a' := ?_) m41_27 rfl rfl (any_of HT_.out (by kernel_rfl)) (fun _ _ _ h => h) (Or.inl ⟨by rfl, ?_⟩) ?_ ?_
        rotate_left
        · intro w'
          go_simp
          with_reducible rfl
        rotate_left
        · simp only [Act.put, List.setIfInBounds_toArray, List.set_cons_zero, List.set_cons_succ]
          rfl
        refine pure_ (i := 27) (N := some 58) (v := ?_) (a' := ?_) m41_28 rfl rfl (any_of HT_.out (by kernel_rfl)) (fun _ _ _ h => h) (Or.inl ⟨by rfl, ?_⟩) ?_ ?_
        rotate_left
        · intro w'
          go_simp
          with_reducible rfl
        rotate_left
        · simp only [Act.put, List.setIfInBounds_toArray, List.set_cons_zero, List.set_cons_succ]
          rfl
        refine one_ (i := 28) (N := some 8) m41_29 rfl rfl (one_of HT_.out (by kernel_rfl)) (by decide) (fun K hK => ?_)
        refine value_ (w1 := Wd.alloc (.cells #[.int .i64 0, .int .i64 0, .int .i64 0, .int .i64 0, .int .i64 0, .int .i64 0, .int .i64 0] 58)) (v := .pointer (some ⟨Wd.heap.size, 0, none⟩)) (by rfl) rfl ?_ ?_
        · go_simp
        have hS2 := hHeld
        obtain ⟨s1, s2, s3, s4, s5, s6, s7⟩ := hS2
        refine hK.out _ _ ⟨cell_alloc' s1 _, cell_alloc' s2 _, cell_alloc' s3 _, cell_alloc' s4 _, cell_alloc' s5 _, cell_alloc' s6 _, cell_alloc' s7 _⟩ (fun _ => ?_)
        clear s1 s2 s3 s4 s5 s6 s7
        clear hK K
        refine norm_ (a' := ?_) ?_ ?_
        rotate_left
        · show Act.put _ (some 8) _ = _
          simp only [Act.put, List.setIfInBounds_toArray, List.set_cons_zero, List.set_cons_succ]
          rfl
        refine last_ (i := 29) (N := none) m41_30 rfl rfl (one_of HT_.out (by kernel_rfl)) (by decide) (fun K hK => ?_)
        refine skip_ (w1 := Wd.alloc (.cells #[.int .i64 F0, .int .i64 F1, .int .i64 i, .int .i64 (i * (wd + gap)), .int .i64 Tk, .int .i64 wd, .int .i64 Hk] 58)) (by rfl) rfl ?_ ?_
        · go_simp
        refine hK.out _ _ ?_
        clear hK K
        refine done_ (done_of HT_.out (by kernel_rfl)) ?_
        have HB9 := Aside0.mk (below_alloc HDR.out (.cells #[.int .i64 F0, .int .i64 F1, .int .i64 i, .int .i64 (i * (wd + gap)), .int .i64 Tk, .int .i64 wd, .int .i64 Hk] 58))
        have HK9 := Aside0.mk (HKX.out.t (HKD.out.t (KpP.alloc (n₀ := n₀) (gy := gy) Wd (Nat.le_trans hsx HDR.out.size) (.cells #[.int .i64 F0, .int .i64 F1, .int .i64 i, .int .i64 (i * (wd + gap)), .int .i64 Tk, .int .i64 wd, .int .i64 Hk] 58))))
        have hJ9 := hJ _ Wx _ none HJX.out (grown_of_below HB9.out none) (fun r e => by cases e)
        have hplen := frags_len l wd gap i a k
        obtain ⟨fn, tmps, assign, body, hy, hR⟩ := hY _ (⟨F0, F1, i, ⟨i * (wd + gap), Tk, wd, Hk⟩⟩ : S58) _ hJ9 (by omega)
        dsimp only [S58.enc] at hy
        clear hJ9 hplen
        have HX9 := Aside0.mk ((HB9.out.block X (blk_lt HXX.out)).trans HXX.out)
        gi_wp2
        refine hR.mono ?_
        rintro e W3 (⟨rfl, hJ3, hk3⟩ | ⟨rfl, hJx3⟩)
        · have hX3 := hk3.col X _ 32 (.inl rfl) HX9.out
          have x3 : W3.cell? ⟨X, 2, none⟩ = some (.int .i64 Hk) := (blk_cell hX3 2).trans rfl
          have HJ3 := Aside0.mk (HFS.out ▸ hJ3)
          have HK3 := Aside0.mk (HK9.out.t hk3)
          clear hJ3 hk3 hX3 hy hR
          gi_wp2
          go_roundw
          case rel => exact ⟨k + 1, by go_num, by omega, by rw [HUS.out], HJ3, HK3⟩
          case measure => simp [intOf]; omega
        · have HJx := Aside0.mk (HFS.out ▸ hJx3)
          have HP := Lib.hid (show fragsA l wd gap i a (k + 1) <+: fragsA l wd gap i a (b - a) by
            have h := frags_pre l wd gap i a (k + 1) (b - a - (k + 1))
            rwa [show k + 1 + (b - a - (k + 1)) = b - a by omega] at h)
          clear hJx3 hy hR
          gi_wp2
          rw [Exit.noGoto_normal]
          go_end0
          exact ⟨⟨_, rfl⟩, .inr ⟨_, HP.out, HJx.out⟩⟩
      · have hT0 := hz (by omega)
        have hU0 : upF l a k = 0 := by unfold upF; rw [if_pos (by omega)]
        rw [hU0]
        clear hz hnz hU0 hu
        gi_wp2
        rw [← hT0]
        have hb1 : 0 ≤ Tk ∧ Tk ≤ 2149580800000 := by omega
        clear hT0
        obtain ⟨Wx, hWx⟩ : ∃ x, wr.alloc (Obj.cells #[.int .i64 F0, .int .i64 F1, .int .i64 Hk, .int .i64 Sk, .int .i64 Bk] 32) = x := ⟨_, rfl⟩
        obtain ⟨X, hX⟩ : ∃ x, wr.heap.size = x := ⟨_, rfl⟩
        have hXX : Wx.heap[X]? = some (.cells #[.int .i64 F0, .int .i64 F1, .int .i64 Hk, .int .i64 Sk, .int .i64 Bk] 32 (0, 0)) := by rw [← hWx, ← hX]; exact heap_alloc_new wr _
        have hBx : Below wr.heap.size wr Wx := hWx ▸ below_alloc (Below.refl _ wr) _
        have hKx : KpP n₀ gy wr Wx := hWx ▸ KpP.alloc wr hlr _
        have z0 : Wx.cell? ⟨X, 0, none⟩ = some (.int .i64 F0) := (blk_cell hXX 0).trans rfl
        have z1 : Wx.cell? ⟨X, 1, none⟩ = some (.int .i64 F1) := (blk_cell hXX 1).trans rfl
        have z2 : Wx.cell? ⟨X, 2, none⟩ = some (.int .i64 Hk) := (blk_cell hXX 2).trans rfl
        have ys := pw_cell_below hBx yr
        have is := pw_cell_below hBx ir
        have g1 := pw_cell_below hBx r1
        have g2 := pw_cell_below hBx r2
        have hsx : n₀ ≤ Wx.heap.size := Nat.le_trans hlr hBx.size
        rw [hWx, hX]
        have HXX := Aside0.mk hXX
        have HKX := Aside0.mk (HKr.out.t hKx)
        have hJx := hJ _ wr Wx none HJr.out (grown_of_below hBx none) (fun r e => by cases e)
        have HJX := Aside0.mk hJx
        clear hWx hX hXX hBx hKx hJx yr ir r0 r1 r2 x0 x1 x2 x3 x4 HJr HKr hlr wr
        refine wpIn_wide.2 ?_
        refine start_ (n := 30) (S := fun w' => w'.cell? ⟨By, 0, none⟩ = some (.pointer (some ⟨gy, 0, none⟩)) ∧ w'.cell? ⟨Bi, 0, none⟩ = some (.int .i64 i) ∧ w'.cell? ⟨gy, 1, none⟩ = some (.int .i64 wd) ∧ w'.cell? ⟨gy, 2, none⟩ = some (.int .i64 gap) ∧ w'.cell? ⟨X, 0, none⟩ = some (.int .i64 F0) ∧ w'.cell? ⟨X, 1, none⟩ = some (.int .i64 F1) ∧ w'.cell? ⟨X, 2, none⟩ = some (.int .i64 Hk)) (ds := [29]) m41_0 (by kernel_rfl) rfl rfl ⟨ys, is, g1, g2, z0, z1, z2⟩ (fun hHeld => ?_); refine with_tab tab102 (fun HT_ => ?_)
        have HDR := Aside0.mk (below_drew1 (Below.refl Wx.heap.size Wx))
        have HKD := Aside0.mk (KpP.drew1 (n₀ := n₀) (gy := gy) Wx)
        obtain ⟨Wd, hWd⟩ : ∃ x, Wx.drew = x := ⟨_, rfl⟩
        rw [hWd] at HDR HKD hHeld ⊢
        clear hWd
        refine pure_ (i := 0) (N := some 31) (v := ?_) (a' := ?_) m41_1 rfl rfl (any_of HT_.out (by kernel_rfl)) (fun _ _ _ h => h) (Or.inl ⟨by rfl, ?_⟩) ?_ ?_
        rotate_left
        · intro w'
          go_simp
          with_reducible rfl
        rotate_left
        · simp only [Act.put, List.setIfInBounds_toArray, List.set_cons_zero, List.set_cons_succ]
          rfl
        refine take_ (i := 1) (N := some 32) (v := ?_) (a' := ?_) m41_2 rfl rfl (take_of HT_.out (by kernel_rfl)) (fun _ _ _ h => h) (Or.inl ⟨by rfl, ?_⟩) hHeld ?_ ?_
        rotate_left
        · rintro w' ⟨s1, s2, s3, s4, s5, s6, s7⟩
          go_simp
          with_reducible rfl
        rotate_left
        · simp only [Act.put, List.setIfInBounds_toArray, List.set_cons_zero, List.set_cons_succ]
          rfl
        refine pure_ (i := 2) (N := some 33) (v := ?_) (a' := ?_) m41_3 rfl rfl (any_of HT_.out (by kernel_rfl)) (fun _ _ _ h => h) (Or.inl ⟨by rfl, ?_⟩) ?_ ?_
        rotate_left
        · intro w'
          go_simp
          with_reducible rfl
        rotate_left
        · simp only [Act.put, List.setIfInBounds_toArray, List.set_cons_zero, List.set_cons_succ]
          rfl
        refine take_ (i := 3) (N := some 34) (v := ?_) (a' := ?_) m41_4 rfl rfl (take_of HT_.out (by kernel_rfl)) (fun _ _ _ h => h) (Or.inl ⟨by rfl, ?_⟩) hHeld ?_ ?_
        rotate_left
        · rintro w' ⟨s1, s2, s3, s4, s5, s6, s7⟩
          go_simp
          with_reducible rfl
        rotate_left
        · simp only [Act.put, List.setIfInBounds_toArray, List.set_cons_zero, List.set_cons_succ]
          rfl
        refine take_ (i := 4) (N := some 35) (v := ?_) (a' := ?_) m41_5 rfl rfl (take_of HT_.out (by kernel_rfl)) (fun _ _ _ h => h) (Or.inl ⟨by rfl, ?_⟩) hHeld ?_ ?_
        rotate_left
        · rintro w' ⟨s1, s2, s3, s4, s5, s6, s7⟩
          go_simp
          with_reducible rfl
        rotate_left
        · simp only [Act.put, List.setIfInBounds_toArray, List.set_cons_zero, List.set_cons_succ]
          rfl
        refine take_ (i := 5) (N := some 36) (v := ?_) (a' := ?_) m41_6 rfl rfl (take_of HT_.out (by kernel_rfl)) (fun _ _ _ h => h) (Or.inl ⟨by rfl, ?_⟩) hHeld ?_ ?_
        rotate_left
        · rintro w' ⟨s1, s2, s3, s4, s5, s6, s7⟩
          go_simp
          with_reducible rfl
        rotate_left
        · simp only [Act.put, List.setIfInBounds_toArray, List.set_cons_zero, List.set_cons_succ]
          rfl
        refine take_ (i := 6) (N := some 37) (v := ?_) (a' := ?_) m41_7 rfl rfl (take_of HT_.out (by kernel_rfl)) (fun _ _ _ h => h) (Or.inl ⟨by rfl, ?_⟩) hHeld ?_ ?_
        rotate_left
        · rintro w' ⟨s1, s2, s3, s4, s5, s6, s7⟩
          go_simp
          with_reducible rfl
        rotate_left
        · simp only [Act.put, List.setIfInBounds_toArray, List.set_cons_zero, List.set_cons_succ]
          rfl
        refine pure_ (i := 7) (N := some 38) (v := ?_) (a' := ?_) m41_8 rfl rfl (any_of HT_.out (by kernel_rfl)) (fun _ _ _ h => h) (Or.inl ⟨by rfl, ?_⟩) ?_ ?_
        rotate_left
        · intro w'
          go_simp
          with_reducible rfl
        rotate_left
        · simp only [Act.put, List.setIfInBounds_toArray, List.set_cons_zero, List.set_cons_succ]
          rfl
        refine pure_ (i := 8) (N := some 39) (v := ?_) (a' := ?_) m41_9 rfl rfl (any_of HT_.out (by kernel_rfl)) (fun _ _ _ h => h) (Or.inl ⟨by rfl, ?_⟩) ?_ ?_
        rotate_left
        · intro w'
          go_simp
          with_reducible rfl
        rotate_left
        · simp only [Act.put, List.setIfInBounds_toArray, List.set_cons_zero, List.set_cons_succ]
          rfl
        refine pure_ (i := 9) (N := some 40) (v := ?_) (a' := ?_) m41_10 rfl rfl (any_of HT_.out (by kernel_rfl)) (fun _ _ _ h => h) (Or.inl ⟨by rfl, ?_⟩) ?_ ?_
        rotate_left
        · intro w'
          go_simp
          with_reducible rfl
        rotate_left
        · simp only [Act.put, List.setIfInBounds_toArray, List.set_cons_zero, List.set_cons_succ]
          rfl
        refine take_ (i := 10) (N := some 41) (v := ?_) (a' := ?_) m41_11 rfl rfl (take_of HT_.out (by kernel_rfl)) (fun _ _ _ h => h) (Or.inl ⟨by rfl, ?_⟩) hHeld ?_ ?_
        rotate_left
        · rintro w' ⟨s1, s2, s3, s4, s5, s6, s7⟩
          go_simp
          with_reducible rfl
        rotate_left
        · simp only [Act.put, List.setIfInBounds_toArray, List.set_cons_zero, List.set_cons_succ]
          rfl
        refine take_ (i := 11) (N := some 42) (v := ?_) (a' := ?_) m41_12 rfl rfl (take_of HT_.out (by kernel_rfl)) (fun _ _ _ h => h) (Or.inl ⟨by rfl, ?_⟩) hHeld ?_ ?_
        rotate_left
        · rintro w' ⟨s1, s2, s3, s4, s5, s6, s7⟩
          go_simp
          with_reducible rfl
        rotate_left
        · simp only [Act.put, List.setIfInBounds_toArray, List.set_cons_zero, List.set_cons_succ]
          rfl
        refine pure_ (i := 12) (N := some 43) (v := ?_) (a' := ?_) m41_13 rfl rfl (any_of HT_.out (by kernel_rfl)) (fun _ _ _ h => h) (Or.inl ⟨by rfl, ?_⟩) ?_ ?_
        rotate_left
        · intro w'
          go_simp
          with_reducible rfl
        rotate_left
        · simp only [Act.put, List.setIfInBounds_toArray, List.set_cons_zero, List.set_cons_succ]
          rfl
        refine pure_ (i := 13) (N := some 44) (v := ?_) (a' := ?_) m41_14 rfl rfl (any_of HT_.out (by kernel_rfl)) (fun _ _ _ h => h) (Or.inl ⟨by rfl, ?_⟩) ?_ ?_
        rotate_left
        · intro w'
          go_simp
          with_reducible rfl
        rotate_left
        · simp only [Act.put, List.setIfInBounds_toArray, List.set_cons_zero, List.set_cons_succ]
          rfl
        refine pure_ (i := 14) (N := some 45) (v := ?_) (a' := ?_) m41_15 rfl rfl (any_of HT_.out (by kernel_rfl)) (fun _ _ _ h => h) (Or.inl ⟨by rfl, ?_⟩) ?_ ?_
        rotate_left
        · intro w'
          go_simp
          with_reducible rfl
        rotate_left
        · simp only [Act.put, List.setIfInBounds_toArray, List.set_cons_zero, List.set_cons_succ]
          rfl
        refine take_ (i := 15) (N := some 46) (v := ?_) (a' := ?_) m41_16 rfl rfl (take_of HT_.out (by kernel_rfl)) (fun _ _ _ h => h) (Or.inl ⟨by rfl, ?_⟩) hHeld ?_ ?_
        rotate_left
        · rintro w' ⟨s1, s2, s3, s4, s5, s6, s7⟩
          go_simp
          with_reducible rfl
        rotate_left
        · simp only [Act.put, List.setIfInBounds_toArray, List.set_cons_zero, List.set_cons_succ]
          rfl
        refine pure_ (i := 16) (N := some 47) (v := ?_) (a' := ?_) m41_17 rfl rfl (any_of HT_.out (by kernel_rfl)) (fun _ _ _ h => h) (Or.inl ⟨by rfl, ?_⟩) ?_ ?_
        rotate_left
        · intro w'
          go_simp
          with_reducible rfl
        rotate_left
        · simp only [Act.put, List.setIfInBounds_toArray, List.set_cons_zero, List.set_cons_succ]
          rfl
        refine pure_ (i := 17) (N := some 48) (v := ?_) (a' := ?_) m41_18 rfl rfl (any_of HT_.out (by kernel_rfl)) (fun _ _ _ h => h) (Or.inl ⟨by rfl, ?_⟩) ?_ ?_
        rotate_left
        · intro w'
          go_simp
          with_reducible rfl
        rotate_left
        · simp only [Act.put, List.setIfInBounds_toArray, List.set_cons_zero, List.set_cons_succ]
          rfl
        refine pure_ (i := 18) (N := some 49) (v := ?_) (a' := ?_) m41_19 rfl rfl (any_of HT_.out (by kernel_rfl)) (fun _ _ _ h => h) (Or.inl ⟨by rfl, ?_⟩) ?_ ?_
        rotate_left
        · intro w'
          go_simp
          with_reducible rfl
        rotate_left
        · simp only [Act.put, List.setIfInBounds_toArray, List.set_cons_zero, List.set_cons_succ]
          rfl
        refine take_ (i := 19) (N := some 50) (v := ?_) (a' := ?_) m41_20 rfl rfl (take_of HT_.out (by kernel_rfl)) (fun _ _ _ h => h) (Or.inl ⟨by rfl, ?_⟩) hHeld ?_ ?_
        rotate_left
        · rintro w' ⟨s1, s2, s3, s4, s5, s6, s7⟩
          go_simp
          with_reducible rfl
        rotate_left
        · simp only [Act.put, List.setIfInBounds_toArray, List.set_cons_zero, List.set_cons_succ]
          rfl
        refine pure_ (i := 20) (N := some 51) (v := ?_) (a' := ?_) m41_21 rfl rfl (any_of HT_.out (by kernel_rfl)) (fun _ _ _ h => h) (Or.inl ⟨by rfl, ?_⟩) ?_ ?_
        rotate_left
        · intro w'
          go_simp
          with_reducible rfl
        rotate_left
        · simp only [Act.put, List.setIfInBounds_toArray, List.set_cons_zero, List.set_cons_succ]
          rfl
        refine pure_ (i := 21) (N := some 52) (v := ?_) (a' := ?_) m41_22 rfl rfl (any_of HT_.out (by kernel_rfl)) (fun _ _ _ h => h) (Or.inl ⟨by rfl, ?_⟩) ?_ ?_
        rotate_left
        · intro w'
          go_simp
          with_reducible rfl
        rotate_left
        · simp only [Act.put, List.setIfInBounds_toArray, List.set_cons_zero, List.set_cons_succ]
          rfl
        refine pure_ (i := 22) (N := some 53) (v := ?_) (a' := ?_) m41_23 rfl rfl (any_of HT_.out (by kernel_rfl)) (fun _ _ _ h => h) (Or.inl ⟨by rfl, ?_⟩) ?_ ?_
        rotate_left
        · intro w'
          go_simp
          with_reducible rfl
        rotate_left
        · simp only [Act.put, List.setIfInBounds_toArray, List.set_cons_zero, List.set_cons_succ]
          rfl
        refine take_ (i := 23) (N := some 54) (v := ?_) (a' := ?_) m41_24 rfl rfl (take_of HT_.out (by kernel_rfl)) (fun _ _ _ h => h) (Or.inl ⟨by rfl, ?_⟩) hHeld ?_ ?_
        rotate_left
        · rintro w' ⟨s1, s2, s3, s4, s5, s6, s7⟩
          go_simp
          with_reducible rfl
        rotate_left
        · simp only [Act.put, List.setIfInBounds_toArray, List.set_cons_zero, List.set_cons_succ]
          rfl
        refine pure_ (i := 24) (N := some 55) (v := ?_) (a' := ?_) m41_25 rfl rfl (any_of HT_.out (by kernel_rfl)) (fun _ _ _ h => h) (Or.inl ⟨by rfl, ?_⟩) ?_ ?_
        rotate_left
        · intro w'
          go_simp
          with_reducible rfl
        rotate_left
        · simp only [Act.put, List.setIfInBounds_toArray, List.set_cons_zero, List.set_cons_succ]
          rfl
        refine take_ (i := 25) (N := some 56) (v := ?_) (a' := ?_) m41_26 rfl rfl (take_of HT_.out (by kernel_rfl)) (fun _ _ _ h => h) (Or.inl ⟨by rfl, ?_⟩) hHeld ?_ ?_
        rotate_left
        · rintro w' ⟨s1, s2, s3, s4, s5, s6, s7⟩
          go_simp
          with_reducible rfl
        rotate_left
        · simp only [Act.put, List.setIfInBounds_toArray, List.set_cons_zero, List.set_cons_succ]
          rfl
        refine pure_ (i := 26) (N := some 57) (v := ?_) (a' := ?_) m41_27 rfl rfl (any_of HT_.out (by kernel_rfl)) (fun _ _ _ h => h) (Or.inl ⟨by rfl, ?_⟩) ?_ ?_
        rotate_left
        · intro w'
          go_simp
          with_reducible rfl
        rotate_left
        · simp only [Act.put, List.setIfInBounds_toArray, List.set_cons_zero, List.set_cons_succ]
          rfl
        refine pure_ (i := 27) (N := some 58) (v := ?_) (a' := ?_) m41_28 rfl rfl (any_of HT_.out (by kernel_rfl)) (fun _ _ _ h => h) (Or.inl ⟨by rfl, ?_⟩) ?_ ?_
        rotate_left
        · intro w'
          go_simp
          with_reducible rfl
        rotate_left
        · simp only [Act.put, List.setIfInBounds_toArray, List.set_cons_zero, List.set_cons_succ]
          rfl
        refine one_ (i := 28) (N := some 8) m41_29 rfl rfl (one_of HT_.out (by kernel_rfl)) (by decide) (fun K hK => ?_)
        refine value_ (w1 := Wd.alloc (.cells #[.int .i64 0, .int .i64 0, .int .i64 0, .int .i64 0, .int .i64 0, .int .i64 0, .int .i64 0] 58)) (v := .pointer (some ⟨Wd.heap.size, 0, none⟩)) (by rfl) rfl ?_ ?_
        · go_simp
        have hS2 := hHeld
        obtain ⟨s1, s2, s3, s4, s5, s6, s7⟩ := hS2
        refine hK.out _ _ ⟨cell_alloc' s1 _, cell_alloc' s2 _, cell_alloc' s3 _, cell_alloc' s4 _, cell_alloc' s5 _, cell_alloc' s6 _, cell_alloc' s7 _⟩ (fun _ => ?_)
        clear s1 s2 s3 s4 s5 s6 s7
        clear hK K
        refine norm_ (a' := ?_) ?_ ?_
        rotate_left
        · show Act.put _ (some 8) _ = _
          simp only [Act.put, List.setIfInBounds_toArray, List.set_cons_zero, List.set_cons_succ]
          rfl
        refine last_ (i := 29) (N := none) m41_30 rfl rfl (one_of HT_.out (by kernel_rfl)) (by decide) (fun K hK => ?_)
        refine skip_ (w1 := Wd.alloc (.cells #[.int .i64 F0, .int .i64 F1, .int .i64 i, .int .i64 (i * (wd + gap)), .int .i64 Tk, .int .i64 wd, .int .i64 Hk] 58)) (by rfl) rfl ?_ ?_
        · go_simp
        refine hK.out _ _ ?_
        clear hK K
        refine done_ (done_of HT_.out (by kernel_rfl)) ?_
        have HB9 := Aside0.mk (below_alloc HDR.out (.cells #[.int .i64 F0, .int .i64 F1, .int .i64 i, .int .i64 (i * (wd + gap)), .int .i64 Tk, .int .i64 wd, .int .i64 Hk] 58))
        have HK9 := Aside0.mk (HKX.out.t (HKD.out.t (KpP.alloc (n₀ := n₀) (gy := gy) Wd (Nat.le_trans hsx HDR.out.size) (.cells #[.int .i64 F0, .int .i64 F1, .int .i64 i, .int .i64 (i * (wd + gap)), .int .i64 Tk, .int .i64 wd, .int .i64 Hk] 58))))
        have hJ9 := hJ _ Wx _ none HJX.out (grown_of_below HB9.out none) (fun r e => by cases e)
        have hplen := frags_len l wd gap i a k
        obtain ⟨fn, tmps, assign, body, hy, hR⟩ := hY _ (⟨F0, F1, i, ⟨i * (wd + gap), Tk, wd, Hk⟩⟩ : S58) _ hJ9 (by omega)
        dsimp only [S58.enc] at hy
        clear hJ9 hplen
        have HX9 := Aside0.mk ((HB9.out.block X (blk_lt HXX.out)).trans HXX.out)
        gi_wp2
        refine hR.mono ?_
        rintro e W3 (⟨rfl, hJ3, hk3⟩ | ⟨rfl, hJx3⟩)
        · have hX3 := hk3.col X _ 32 (.inl rfl) HX9.out
          have x3 : W3.cell? ⟨X, 2, none⟩ = some (.int .i64 Hk) := (blk_cell hX3 2).trans rfl
          have HJ3 := Aside0.mk (HFS.out ▸ hJ3)
          have HK3 := Aside0.mk (HK9.out.t hk3)
          clear hJ3 hk3 hX3 hy hR
          gi_wp2
          go_roundw
          case rel => exact ⟨k + 1, by go_num, by omega, by rw [HUS.out], HJ3, HK3⟩
          case measure => simp [intOf]; omega
        · have HJx := Aside0.mk (HFS.out ▸ hJx3)
          have HP := Lib.hid (show fragsA l wd gap i a (k + 1) <+: fragsA l wd gap i a (b - a) by
            have h := frags_pre l wd gap i a (k + 1) (b - a - (k + 1))
            rwa [show k + 1 + (b - a - (k + 1)) = b - a by omega] at h)
          clear hJx3 hy hR
          gi_wp2
          rw [Exit.noGoto_normal]
          go_end0
          exact ⟨⟨_, rfl⟩, .inr ⟨_, HP.out, HJx.out⟩⟩
    · obtain rfl : k = b - a := by omega
      clear hlt
      gi_wp2
      rw [Exit.noGoto_normal]
      go_end0
      exact ⟨⟨_, rfl⟩, .inl ⟨_, rfl, HJr.out⟩⟩
end Go.Proofs.YtjpifknencfipaaDoor.P

namespace Go.Proofs.YtjpifknencfipaaDoor.P
open Go.RowKit Go.Shelf Go.Proofs.YtjpifknencfipaaDoorW.PrintWords Go.Proofs.YtjpifknencfipaaDoorW.PrintLast Go.Proofs.YtjpifknencfipaaDoorW.PrintMore
attribute [local go_sem] Oper.semAt_some

theorem lawB : Maps.Keyed Tryd.prog 4 := Maps.bool_keyed Tryd.underlying4
theorem zero2 (w : World) : (zeroValue 2).run Tryd.prog w = .ok (.int .i64 0) w := by kernel_rfl

/-- The map of heights with its first entry. -/
theorem heights_made (W : World) (avail : Int) (hwf : -9223372036854775808 ≤ avail ∧ avail ≤ 9223372036854775807) :
    ∃ W', (Instr.mapUpdate 106 (.map (some W.heap.size)) (.bool true) (.int .i64 avail)).run Tryd.prog (W.alloc (.map #[] 0)) = .ok () W' ∧
      W'.ownsMap Tryd.prog 4 (plainElem (H := Unit) Tryd.prog 2) W.heap.size 1 ((DataW.map []).put (.bool true) (.lit (.int .i64 avail))) ∧ (W.alloc (.map #[] 0)).grownBy W' (some W.heap.size) :=
  (World.ownsMap_made W Tryd.prog 4 (plainElem Tryd.prog 2)).update lawB Tryd.underlying106 (by decide) (Maps.keyOf_bool_mk Tryd.underlying4 true) (plainElem_int Tryd.underlying2 (WalkArith.wf_i64 hwf))
theorem heights_any (W : World) (avail : Int) :
    ∃ W', (Instr.mapUpdate 106 (.map (some W.heap.size)) (.bool true) (.int .i64 avail)).run Tryd.prog (W.alloc (.map #[] 0)) = .ok () W' ∧ (W.alloc (.map #[] 0)).grownBy W' (some W.heap.size) := by
  obtain ⟨W', h1, _, h2⟩ := (World.ownsMap_made (H := Unit) W Tryd.prog 4 (fun _ => some (.lit (.bool true), []))).update lawB Tryd.underlying106 (by decide) (Maps.keyOf_bool_mk Tryd.underlying4 true) (val := .int .i64 avail) rfl
  exact ⟨W', h1, h2⟩
theorem below_grown {n : Nat} {w W W' : World} {b : Nat} (h : Below n w W) (hn : n ≤ b) (hg : W.grownBy W' (some b)) (hs : n ≤ W.heap.size) : Below n w W' :=
  ⟨hg.os.trans h.os, hg.tape.trans h.tape, hg.output.trans h.output, Nat.le_trans h.size hg.size, fun k hk => (hg.block k (by omega) (by simp; omega)).trans (h.block k hk)⟩

/-- What of a row's arguments is amiss. -/
def Amiss (l : List S32) (n : Int) (sb : Bool) (avail : Int) : Prop :=
  rightA l = false ∨ (rightA l = true ∧ ((200 : Int) < (l.length : Int) ∨ ((l.length : Int) ≤ 200 ∧ (n < 1 ∨ (1 ≤ n ∧ (50 < n ∨ (n ≤ 50 ∧ (sb = false ∨ (sb = true ∧ (avail < 0 ∨ (0 ≤ avail ∧ 1099511627776 < avail)))))))))))
theorem size_ok {a : Int} : sizeA a = true ↔ badSize a = false := by
  unfold sizeA badSize
  simp only [Bool.and_eq_true, Bool.or_eq_false_iff, decide_eq_true_eq, decide_eq_false_iff_not]
  omega
theorem amiss_of {l : List S32} {n w gap avail : Int} (h : layOkA l n w gap avail = false) : Amiss l n (!([w, gap].any badSize)) avail := by
  unfold Amiss
  cases h1 : rightA l with
  | false => exact .inl rfl
  | true =>
    refine .inr ⟨rfl, ?_⟩
    by_cases h2 : (200 : Int) < (l.length : Int)
    · exact .inl h2
    refine .inr ⟨by omega, ?_⟩
    by_cases h3 : n < 1
    · exact .inl h3
    refine .inr ⟨by omega, ?_⟩
    by_cases h4 : 50 < n
    · exact .inl h4
    refine .inr ⟨by omega, ?_⟩
    cases h5 : (!([w, gap].any badSize)) with
    | false => exact .inl rfl
    | true =>
      refine .inr ⟨rfl, ?_⟩
      by_cases h6 : avail < 0
      · exact .inl h6
      refine .inr ⟨by omega, Int.lt_of_not_ge fun h7 => ?_⟩
      have h5' : badSize w = false ∧ badSize gap = false := by simpa using h5
      have : layOkA l n w gap avail = true := by
        unfold layOkA openA
        rw [h1, size_ok.2 h5'.1, size_ok.2 h5'.2, decide_eq_true (show l.length ≤ 200 by omega), decide_eq_true (show 1 ≤ n by omega), decide_eq_true (show n ≤ 50 by omega), decide_eq_true (show 0 ≤ avail by omega), decide_eq_true (show avail ≤ 1099511627776 by omega)]
        rfl
      rw [this] at h
      cases h

set_option maxHeartbeats 4000000 in
set_option maxRecDepth 100000 in
theorem lay_no (A : Option Addr) (c : Nat) (l : List S32) (n wd gap avail : Int) (auto : Bool) (w : World) (hr : Kd.C k32 w A l.length l) (hc : l.length ≤ c) (hG : Gl 3 w) (hf : Amiss l n (!([wd, gap].any badSize)) avail) :
    Calls Tryd.prog 41 #[.slice A l.length c, .int .i64 n, .int .i64 wd, .int .i64 gap, .int .i64 avail, .bool auto] w fun e w' => e = .returned (.tuple #[.agg #[.int .i64 0, .int .i64 0, .slice none 0 0], .int .i64 160]) ∧ Below w.heap.size w w' := by
  obtain ⟨a, ha⟩ := hG.2.2 (Nat.le_refl _)
  have hRY := fun w' (hb : Below w.heap.size w w') (h1 : rightA l = true) => right_yes A c l w' (Kd.C_below hr hb) hc h1
  have hRN := fun w' (hb : Below w.heap.size w w') (h1 : rightA l = false) => right_not A c l w' (Kd.C_below hr hb) hc h1
  have HRY := Lib.hid hRY
  have HRN := Lib.hid hRN
  have hnl : (l.length : Int) ≤ 9223372036854775807 := by have := hr.2.1; omega
  obtain ⟨W3, hW3⟩ : ∃ x, ((w.alloc (.cells #[.int .i64 0, .int .i64 0, .slice none 0 0] 50)).alloc (.cells #[.slice A l.length c, .int .i64 wd, .int .i64 gap, .int .i64 0, .int .i64 0, .slice none 0 0] 105)).alloc (.cells #[.pointer (some ⟨w.heap.size + 1, 0, none⟩)] 101) = x := ⟨_, rfl⟩
  have hb3 : Below w.heap.size w W3 := hW3 ▸ below_alloc (below_alloc (below_alloc (Below.refl _ w) _) _) _
  have k3 : W3.heap[w.heap.size]? = some (.cells #[.int .i64 0, .int .i64 0, .slice none 0 0] 50 (0, 0)) := by
    rw [← hW3]
    exact blk_alloc (blk_alloc (World.alloc_heap_new w _) _) _
  obtain ⟨W4, hrun, hgr⟩ := heights_any W3 avail
  have hb4 : Below w.heap.size w W4 := below_grown (below_alloc hb3 _) hb3.size hgr (by have := hb3.size; simp; omega)
  have k4 := (hgr.block w.heap.size (by have := blk_lt k3; simp; omega) (by have := blk_lt k3; simp; omega)).trans (blk_alloc k3 _)
  have ha4 := pw_cell_below hb4 ha
  have HB4 := Aside0.mk hb4
  have HS : Hid (∀ W' : World, Calls Tryd.prog 78 #[.slice (some ⟨W'.heap.size, 0, none⟩) 2 2] (W'.alloc (.cells #[.int .i64 wd, .int .i64 gap] 2)) fun e w' => e = .returned (.bool (!([wd, gap].any badSize))) ∧ (W'.alloc (.cells #[.int .i64 wd, .int .i64 gap] 2)) = w') := Lib.hid fun W' => by
    have hR : (Kd.int .i64).R 2 (W'.alloc (.cells #[.int .i64 wd, .int .i64 gap] 2)) W'.heap.size (fun _ => True) (.slice (some ⟨W'.heap.size, 0, none⟩) 2 2) [wd, gap] := Kd.R_of_own (own_lit W' W'.heap.size 2 .i64 [wd, gap] (Nat.le_refl _) (by simp)) (fun _ _ => trivial)
    exact areSizes78 _ 2 [wd, gap] _ (by unfold maxLen; simp) (Kd.R_reads' hR).2.2
  obtain ⟨sb, hsb⟩ : ∃ x, (!([wd, gap].any badSize)) = x := ⟨_, rfl⟩
  rw [hsb] at hf HS
  clear hr hG hRY hRN hgr hb3 k3 hsb
  rcases hf with c1 | ⟨c1, c2 | ⟨c2, c3 | ⟨c3, c4 | ⟨c4, c5 | ⟨c5, c6 | ⟨c6, c7⟩⟩⟩⟩⟩⟩
  case inl =>
    have HR := Lib.hid (HRN.out W4 hb4 c1)
    clear hb4 HRN HRY HS
    go_enter Tryd.func41, Tryd.ntmps41
    go_wp2
    refine wp_scope_follow 1 ?_
    have hmm := @run_makeMap Tryd.prog
    go_wp2_with (go_at_call 77; refine HR.out.mono ?_; rintro e w5 ⟨rfl, hb⟩; have HB := Aside0.mk hb; have k5 := (hb.block _ (blk_lt k4)).trans k4; have ha5 := pw_cell_below hb ha4; clear hb)
    go_step3
    refine Follow.goto 0 rfl ?_
    have r0 := (blk_cell k5 0).trans rfl
    have r1 := (blk_cell k5 1).trans rfl
    have r2 := (blk_cell k5 2).trans rfl
    have rf := blk_frozen k5
    go_wp2_with (go_at_call 80; refine (told_row a _ ha5).mono ?_; rintro e w7 ⟨rfl, rfl⟩)
    refine Follow.ret 0 ?_
    have hb2 := HB4.out.trans (HB.out.mono HB4.out.size)
    refine bodyPost_ret (v := .tuple #[.agg #[.int .i64 0, .int .i64 0, .slice none 0 0], .int .i64 160]) (by simp [results, Tryd.results41, go_sem, r0, r1, r2]) rfl ⟨rfl, ?_⟩
    exact below_set (below_set (below_set hb2 (Nat.le_refl _)) (Nat.le_refl _)) (Nat.le_refl _)
  all_goals
    have HR := Lib.hid (HRY.out W4 hb4 c1)
    clear hb4 HRN HRY c1
    first | subst c5 | skip
    go_enter Tryd.func41, Tryd.ntmps41
    go_wp2
    refine wp_scope_follow 1 ?_
    have hmm := @run_makeMap Tryd.prog
    go_wp2_with (first
      | (go_at_call 77; refine HR.out.mono ?_; rintro e w5 ⟨rfl, hb⟩; have HB := Aside0.mk hb; have k5 := (hb.block _ (blk_lt k4)).trans k4; have ha5 := pw_cell_below hb ha4; clear hb)
      | (go_at_call 78; refine (HS.out _).mono ?_; rintro e w6 ⟨rfl, hq⟩; have hb6 : Below w5.heap.size w5 w6 := hq ▸ below_alloc (Below.refl _ w5) _; have HB := Aside0.mk (HB.out.trans (hb6.mono HB.out.size)); have k5 := (hb6.block _ (blk_lt k5)).trans k5; have ha5 := pw_cell_below hb6 ha5; clear hq hb6))
    go_step3
    refine Follow.goto 0 rfl ?_
    have r0 := (blk_cell k5 0).trans rfl
    have r1 := (blk_cell k5 1).trans rfl
    have r2 := (blk_cell k5 2).trans rfl
    have rf := blk_frozen k5
    go_wp2_with (go_at_call 80; refine (told_row a _ ha5).mono ?_; rintro e w7 ⟨rfl, rfl⟩)
    refine Follow.ret 0 ?_
    have hb2 := HB4.out.trans (HB.out.mono HB4.out.size)
    refine bodyPost_ret (v := .tuple #[.agg #[.int .i64 0, .int .i64 0, .slice none 0 0], .int .i64 160]) (by simp [results, Tryd.results41, go_sem, r0, r1, r2]) rfl ⟨rfl, ?_⟩
    exact below_set (below_set (below_set hb2 (Nat.le_refl _)) (Nat.le_refl _)) (Nat.le_refl _)
end Go.Proofs.YtjpifknencfipaaDoor.P

namespace Go.Proofs.YtjpifknencfipaaDoor.P
open Go.RowKit Go.Shelf Go.Proofs.YtjpifknencfipaaDoorW.PrintWords Go.Proofs.YtjpifknencfipaaDoorW.PrintLast Go.Proofs.YtjpifknencfipaaDoorW.PrintMore

variable {s : Nat} {A : Option Addr} {c len : Nat} {wd gap RH N : Int} {v15 : Value} {cs : List S73}

/-- What lies: the result's cells, y's, the layer (its pieces so far), the columns. -/
structure LayF (s : Nat) (w : World) (A : Option Addr) (len c : Nat) (wd gap RH N : Int) (v15 : Value) (cs : List S73) (Q : List S58) (W : World) : Prop where
  bel : Below s w W
  res : W.heap[s]? = some (.cells #[.int .i64 0, .int .i64 0, .slice none 0 0] 50 (0, 0))
  yy : W.heap[s + 2]? = some (.cells #[.pointer (some ⟨s + 1, 0, none⟩)] 101 (0, 0))
  row : ∃ v, W.heap[s + 1]? = some (.cells #[.slice A len c, .int .i64 wd, .int .i64 gap, .int .i64 RH, .int .i64 N, v] 105 (0, 0)) ∧ Kd.R k58 58 W s (fun _ => True) v Q
  cols : Kd.R k73 73 W s (fun _ => True) v15 cs

theorem row_ne {α : Type} {d : Kd α} {e : TypeId} {W : World} {b : Nat} {ok : Nat → Prop} {v : Value} {xs : List α} (h : Kd.R d e W b ok v xs) {r : Nat} {o : Obj} (ho : W.heap[r]? = some o) (hn : o.isCells = false) : some r ≠ v.ownBlock := by
  intro q
  obtain ⟨cells, hc⟩ := Kd.R_typed h r q.symm
  rw [ho] at hc
  cases hc
  cases hn
theorem below_grown' {n : Nat} {w W W' : World} {row : Option Nat} (h : Below n w W) (hn : ∀ r, row = some r → n ≤ r) (hg : W.grownBy W' row) (hs : n ≤ W.heap.size) : Below n w W' :=
  ⟨hg.os.trans h.os, hg.tape.trans h.tape, hg.output.trans h.output, Nat.le_trans h.size hg.size, fun k hk => (hg.block k (by omega) (fun q => by have := hn k q.symm; omega)).trans (h.block k hk)⟩
theorem LayF.grown {w W W' : World} {Q : List S58} (h : LayF s w A len c wd gap RH N v15 cs Q W) {row : Option Nat} (hg : W.grownBy W' row) (hr : ∀ r, row = some r → s ≤ r ∧ ∃ o : Obj, W.heap[r]? = some o ∧ o.isCells = false) : LayF s w A len c wd gap RH N v15 cs Q W' := by
  have hne : ∀ (k : Nat) (o : Obj), W.heap[k]? = some o → o.isCells = true → some k ≠ row := fun k o hk ho q => by
    obtain ⟨-, o', ho', hc⟩ := hr k q.symm
    rw [hk] at ho'
    cases ho'
    rw [ho] at hc
    cases hc
  obtain ⟨v, h4, h5⟩ := h.row
  exact ⟨below_grown' h.bel (fun r q => (hr r q).1) hg (by have := blk_lt h.res; omega), blk_grown h.res hg (hne _ _ h.res rfl), blk_grown h.yy hg (hne _ _ h.yy rfl),
    ⟨v, blk_grown h4 hg (hne _ _ h4 rfl), Kd.R_grown2 h5 rfl hg (fun k q => by obtain ⟨-, o', ho', hc⟩ := hr k q; exact row_ne h5 ho' hc)⟩,
    Kd.R_grown2 h.cols rfl hg (fun k q => by obtain ⟨-, o', ho', hc⟩ := hr k q; exact row_ne h.cols ho' hc)⟩
theorem LayF.alloc {w W : World} {Q : List S58} (h : LayF s w A len c wd gap RH N v15 cs Q W) (o : Obj) : LayF s w A len c wd gap RH N v15 cs Q (W.alloc o) := h.grown (World.grownBy_alloc W o none) (fun r q => by cases q)
theorem LayF.drew {w W : World} {Q : List S58} (h : LayF s w A len c wd gap RH N v15 cs Q W) : LayF s w A len c wd gap RH N v15 cs Q W.drew := h.grown (grown_of_below (below_drew1 (Below.refl _ W)) none) (fun r q => by cases q)
theorem LayF.own {w : World} {B : Nat} (hB : s ≤ B) (P0 : List S58) : OwnFrom B (fun (Q : List S58) W => LayF s w A len c wd gap RH N v15 cs (P0 ++ Q) W) := fun _ X Y row hs hg hr => hs.grown hg (fun r q => ⟨Nat.le_trans hB (hr r q).1, (hr r q).2⟩)

/-- An append to the layer's pieces, stored back. -/
theorem app_keeps {W W1 : World} {v : Value} {cells : Array Value} {gy b : Nat} {Q : List S58} (hgy : W.heap[gy]? = some (.cells cells 105 (0, 0))) (hR : Kd.R k58 58 W b (fun _ => True) v Q) (hg : W.grownBy W1 v.ownBlock) (k : Nat) (o : Obj) (hk : W.heap[k]? = some o)
    (h1 : ∀ x, o ≠ .cells x 58 (0, 0)) (h2 : ∀ x, o ≠ .cells x 105 (0, 0)) (u : Value) : (W1.setCell ⟨gy, 5, none⟩ u).heap[k]? = some o := by
  have hne : k ≠ gy := fun q => by
    subst q
    rw [hk] at hgy
    cases hgy
    exact h2 _ rfl
  refine (Below.heap_setCell W1 ⟨gy, 5, none⟩ u k hne).trans (blk_grown hk hg (fun q => ?_))
  obtain ⟨x, hx⟩ := Kd.R_typed hR k q.symm
  rw [hk] at hx
  cases hx
  exact h1 _ rfl
theorem LayF.appended {w W W1 : World} {v v1 : Value} {Q Q1 : List S58} (h : LayF s w A len c wd gap RH N v15 cs Q W)
    (hgy : W.heap[s + 1]? = some (.cells #[.slice A len c, .int .i64 wd, .int .i64 gap, .int .i64 RH, .int .i64 N, v] 105 (0, 0))) (hR : Kd.R k58 58 W s (fun _ => True) v Q) (hg : W.grownBy W1 v.ownBlock) (hR1 : Kd.R k58 58 W1 s (fun _ => True) v1 Q1) :
    LayF s w A len c wd gap RH N v15 cs Q1 (W1.setCell ⟨s + 1, 5, none⟩ v1) := by
  have hs := blk_lt hgy
  have hgy1 := blk_grown hgy hg (Kd.R_ne hR hgy (by decide))
  refine ⟨(below_grown' h.bel (fun r q => Kd.R_base hR r q) hg (by omega)).setCell (p := ⟨s + 1, 5, none⟩) (by simp) _, app_keeps (b := s) hgy hR hg _ _ h.res (fun x => by simp) (fun x => by simp) _, app_keeps (b := s) hgy hR hg _ _ h.yy (fun x => by simp) (fun x => by simp) _,
    ⟨v1, blk_put hgy1 5 v1 rfl, Kd.R_set hR1 hgy1 (by decide) 5 v1⟩, ?_⟩
  have h5 : Kd.R k73 73 W1 s (fun _ => True) v15 cs := Kd.R_over' h.cols (Kd.R_typed hR) (by decide) hg
  exact Kd.R_set h5 hgy1 (by decide) 5 v1
theorem app_KpP {W W1 : World} {v : Value} {gy b : Nat} {x0 x1 x2 x3 x4 : Value} {Q : List S58} (hb : b ≤ gy) (hgy : W.heap[gy]? = some (.cells #[x0, x1, x2, x3, x4, v] 105 (0, 0))) (hR : Kd.R k58 58 W b (fun _ => True) v Q) (hg : W.grownBy W1 v.ownBlock) (u : Value) :
    KpP b gy W (W1.setCell ⟨gy, 5, none⟩ u) := by
  have hs := blk_lt hgy
  have hgy1 := blk_grown hgy hg (Kd.R_ne hR hgy (by decide))
  refine ⟨(below_grown' (Below.refl b W) (fun r q => Kd.R_base hR r q) hg (by omega)).setCell (p := ⟨gy, 5, none⟩) hb _, fun a b c d e f h => ?_, fun k cs q hq hk => app_keeps hgy hR hg k _ hk (fun x => ?_) (fun x => ?_) u⟩
  · rw [hgy] at h
    cases h
    exact ⟨_, _, _, blk_put hgy1 5 u rfl⟩
  · rintro e
    cases e
    rcases hq with e | e | e | e <;> cases e
  · rintro e
    cases e
    rcases hq with e | e | e | e <;> cases e
theorem app_KeepsFrom {W W1 : World} {v : Value} {gy b : Nat} {cells : Array Value} {Q : List S58} (hgy : W.heap[gy]? = some (.cells cells 105 (0, 0))) (hR : Kd.R k58 58 W b (fun _ => True) v Q) (hg : W.grownBy W1 v.ownBlock) (u : Value) (B : Nat) :
    KeepsFrom B W (W1.setCell ⟨gy, 5, none⟩ u) :=
  ⟨by simpa using hg.size, fun k o _ hk ho => app_keeps hgy hR hg k o hk (fun x e => by subst e; cases ho) (fun x e => by subst e; cases ho) u⟩

/-! ### The marks -/
def mark (D : Nat) : Deferred := { target := .collected D, args := #[] }
def Marks (s : Nat) (Ds : List Nat) (W : World) : Prop := Ds.Nodup ∧ ∀ D, D ∈ Ds → s ≤ D ∧ W.heap[D]? = some (.deferred (some []))
theorem Marks.keep {Ds : List Nat} {W W' : World} (h : Marks s Ds W) (hk : KeepsFrom 0 W W') : Marks s Ds W' := ⟨h.1, fun D hD => ⟨(h.2 D hD).1, hk.same D _ (Nat.zero_le _) (h.2 D hD).2 rfl⟩⟩
theorem Marks.cons {Ds : List Nat} {W W' : World} {D : Nat} (h : Marks s Ds W) (hk : KeepsFrom 0 W W') (hD : W.heap.size ≤ D) (hs : s ≤ D) (hKD : W'.heap[D]? = some (.deferred (some []))) : Marks s (D :: Ds) W' :=
  ⟨List.nodup_cons.2 ⟨fun q => by have := blk_lt (h.2 D q).2; omega, h.1⟩, fun E hE => by
    rcases List.mem_cons.1 hE with rfl | hE
    · exact ⟨hs, hKD⟩
    · exact (h.keep hk).2 E hE⟩
theorem leaves_marks {F : Fence} {n : Nat} {P : Program} {fn : Func} {tmps : Array Value} {R : Ending → World → Prop} (X : World → Prop) (hX : ∀ W D, s ≤ D → X W → W.heap[D]? = some (.deferred (some [])) → X (W.putObj D (.deferred none)))
    (hfin : ∀ W, X W → LeavesIn F n P fn tmps R [] .returning W) : ∀ (Ds : List Nat) (W : World), Marks s Ds W → X W → LeavesInM F n P fn tmps R (Ds.map mark) .returning W
  | [], W, _, h => hfin W h
  | D :: Ds, W, hM, h => by
    obtain ⟨h1, h2⟩ := hM.2 D (by simp)
    refine ⟨by simp, .inl ⟨D, _, rfl, run_takeDeferred h2, ?_⟩⟩
    refine leaves_marks X hX hfin Ds _ ⟨(List.nodup_cons.1 hM.1).2, fun E hE => ?_⟩ (hX W D h1 h h2)
    obtain ⟨h3, h4⟩ := hM.2 E (List.mem_cons_of_mem _ hE)
    exact ⟨h3, (World.putObj_heap_other (show E ≠ D from fun e => (List.nodup_cons.1 hM.1).1 (by rw [← e]; exact hE))).trans h4⟩
/-- What the result says at the end. -/
def LayEnd (s : Nat) (w : World) (RH N : Int) (v : Value) (Q : List S58) (W : World) : Prop := Below s w W ∧ W.heap[s]? = some (.cells #[.int .i64 RH, .int .i64 N, v] 50 (0, 0)) ∧ Kd.R k58 58 W s (fun _ => True) v Q
theorem LayEnd.put {w W : World} {RH N : Int} {v : Value} {Q : List S58} {D : Nat} (h : LayEnd s w RH N v Q W) (hs : s ≤ w.heap.size) (hD : s ≤ D) (hk : W.heap[D]? = some (.deferred (some []))) : LayEnd s w RH N v Q (W.putObj D (.deferred none)) := by
  obtain ⟨h1, h2, h3⟩ := h
  have hg := grownBy_putObj' W D (.deferred none)
  have hne : some s ≠ some D := fun e => by
    cases e
    rw [hk] at h2
    cases h2
  exact ⟨below_grown' h1 (fun r e => by cases e; exact hD) hg (Nat.le_trans hs h1.size), blk_grown h2 hg hne, Kd.R_grown2 h3 rfl hg (fun k e => by cases e; exact row_ne h3 hk rfl)⟩

/-! ### The columns -/
theorem cols_ok (l : List S32) (h : Int) : ∀ n a, a ≤ l.length → ∀ c, c ∈ colsA l h n a → a ≤ c.a ∧ c.a < c.b ∧ c.b ≤ l.length
  | 0, a, _, c, hc => by simp [colsA] at hc
  | n + 1, a, ha, c, hc => by
    unfold colsA at hc
    split at hc
    · next hlt =>
      have he := end_bounds l h a hlt
      rcases List.mem_cons.1 hc with rfl | hc
      · exact ⟨Nat.le_refl _, he⟩
      · have := cols_ok l h n _ he.2 c hc
        omega
    · simp at hc
theorem fill_ok (l : List S32) (h : Int) (i : Nat) (hi : i < (fillA l h).length) : ((fillA l h)[i]).a < ((fillA l h)[i]).b ∧ ((fillA l h)[i]).b ≤ l.length :=
  (cols_ok l h l.length 0 (Nat.zero_le _) _ (List.getElem_mem hi)).2
theorem row_snoc (l : List S32) (w gap : Int) : ∀ (i : Nat) (xs : List ColA) (x : ColA), rowA l w gap i (xs ++ [x]) = rowA l w gap i xs ++ fragsA l w gap (i + xs.length) x.a (x.b - x.a)
  | i, [], x => by simp [rowA]
  | i, y :: ys, x => by
    show _ ++ rowA l w gap (i + 1) (ys ++ [x]) = (_ ++ _) ++ _
    rw [row_snoc l w gap (i + 1) ys x, List.append_assoc, List.length_cons, show i + 1 + ys.length = i + (ys.length + 1) by omega]
theorem row_take (l : List S32) (w gap : Int) (cs : List ColA) (i : Nat) (hi : i < cs.length) : rowA l w gap 0 (cs.take (i + 1)) = rowA l w gap 0 (cs.take i) ++ fragsA l w gap i (cs[i]).a ((cs[i]).b - (cs[i]).a) := by
  rw [List.take_succ_eq_append_getElem hi, row_snoc, List.length_take, Nat.min_eq_left (by omega), Nat.zero_add]
theorem row_len (l : List S32) (w gap : Int) : ∀ (cs : List ColA) (i b : Nat), (∀ c, c ∈ cs → c.b ≤ b) → (rowA l w gap i cs).length ≤ cs.length * b
  | [], _, _, _ => by simp [rowA]
  | c :: cs, i, b, h => by
    have h1 := row_len l w gap cs (i + 1) b (fun x hx => h x (List.mem_cons_of_mem _ hx))
    have h2 := h c (by simp)
    simp only [rowA, List.length_append, frags_len, List.length_cons, Nat.succ_mul]
    omega

end Go.Proofs.YtjpifknencfipaaDoor.P

namespace Go.Proofs.YtjpifknencfipaaDoor.P
open Go.RowKit Go.Proofs.YtjpifknencfipaaDoorW.PrintWords Go.Proofs.YtjpifknencfipaaDoorW.PrintLast Go.Proofs.YtjpifknencfipaaDoorW.PrintMore

section
variable {P : Program} {ops : Array Oper} {R : Act → World → Prop} {md : Region.Mode} {lp n : Nat}

theorem operIn_of_oper {o : Oper} {K K' : Act → World → Prop} {a : Act} {w : World} (hd : ∀ c, o.op ≠ .defer c) (hK : ∀ a w, K a w → K' a w) (h : o.wp P a w K (LastQ R)) : o.wpIn (Fence.wide.inRound lp) n P a w K' (LastQ R) := by
  refine ⟨fun _ _ => trivial, ?_⟩
  rw [Oper.semAt_eq _ _ _ hd]
  unfold Oper.wp at h
  generalize (execOp a.eval o).run P w = r at h ⊢
  cases r with
  | ok x w' =>
    cases x with
    | value v => exact hK _ _ h
    | skip => exact hK _ _ h
    | defer d => exact hK _ _ h
    | enter f args =>
      refine ⟨fun e => (by cases e), ?_⟩
      have h1 : CallsIn Fence.wide (n - 1) P f args w' _ := callsIn_wide.2 h
      exact CallsIn.mono (F := Fence.wide.inRound lp) h1 (fun e w'' he => by cases e <;> first | exact hK _ _ he | exact he)
    | row row args =>
      refine ⟨fun e => (by cases e), fun c cs hroom => ?_⟩
      obtain ⟨v, w'', r, s⟩ := h c cs
      have s2 : StepsIn (Machine.fenced P Fence.wide) P _ _ := stepsIn_wide.2 s
      exact ⟨v, w'', hK _ _ r, s2⟩
    | _ => exact h.elim
  | halt x w' => cases x <;> exact h.elim
theorem anyIn_of_any (hd : ∀ (i : Nat) (o : Oper), ops[i]? = some o → ∀ c, o.op ≠ .defer c) : ∀ (fuel : Nat) (listed : Array Bool) (a : Act) (w : World), wpAny P md ops (LastQ R) fuel listed a w → wpAnyIn (Fence.wide.inRound lp) n P md ops (LastQ R) fuel listed a w
  | 0, _, _, _, h => h
  | fuel + 1, listed, a, w, h => by
    refine ⟨h.1, fun i hi => ?_⟩
    have h1 := h.2 i hi
    unfold wpOp at h1
    unfold wpOpIn
    cases ho : ops[i]? with
    | none =>
      rw [ho] at h1
      exact anyIn_of_any hd fuel _ _ _ h1
    | some o =>
      rw [ho] at h1
      simp only [] at h1 ⊢
      split
      · next hw =>
        rw [if_pos hw] at h1
        rcases h1 with h1 | ⟨_, h2⟩
        · exact operIn_of_oper (hd i o ho) (anyIn_of_any hd fuel _) h1
        · obtain ⟨_, _, h3⟩ := h2
          exact h3.elim
      · next hw =>
        rw [if_neg hw] at h1
        exact ⟨fun _ _ => trivial, anyIn_of_any hd fuel _ _ _ h1⟩
theorem start_round {id m : Nat} {S : World → Prop} {ds : List Nat} {a : Act} {w : World} (l : Array Bool) (hd : ops.all (fun o => match o.op with | .defer _ => false | _ => true) = true) (hm : P.follows .mixedOrders = true) (hn : ops.size = m) (hl : Array.replicate m false = l) (hS : S w.drew)
    (h : S w.drew → wpAnyLast P .any ops (LastQ R) S ds m l a w.drew) : (Code.region id ops true).wpIn (Fence.wide.inRound lp) n P (LastQ R) a w := by
  subst hn
  subst hl
  refine wpIn_region_any hm (anyIn_of_any (fun i o ho c hc => ?_) _ _ _ _ (wpAny_of_last _ _ _ _ (h hS)))
  have h1 := Array.all_eq_true_iff_forall_mem.1 hd o (Array.mem_of_getElem? ho)
  rw [hc] at h1
  cases h1
theorem wpIn_last {F : Fence} {c : Code} {Q : Exit → Act → World → Prop} {a : Act} {w : World} (h : c.wpIn F n P (LastQ R) a w) (hq : ∀ a w, R a w → Q .normal a w) : c.wpIn F n P Q a w :=
  wpIn_mono h (fun e a w he => by cases e <;> first | exact hq _ _ he | exact he.elim)
end
end Go.Proofs.YtjpifknencfipaaDoor.P

namespace Go.Proofs.YtjpifknencfipaaDoor.P
open Go.RowKit Go.Shelf Go.Proofs.YtjpifknencfipaaDoorW.PrintWords Go.Proofs.YtjpifknencfipaaDoorW.PrintLast Go.Proofs.YtjpifknencfipaaDoorW.PrintMore
attribute [local go_sem] Oper.semAt_some

theorem pieces_stops (n : Nat) (hn : 1 ≤ n) (By Bc Bi n₀ gy : Nat) (A : Option Addr) (c : Nat) (l : List S32) (hl : rightA l = true) (hlen : l.length ≤ 200) (hcl : l.length ≤ c) (wd gap : Int) (hwd : 0 ≤ wd ∧ wd ≤ 1048576) (hgap : 0 ≤ gap ∧ gap ≤ 1048576)
    (i a b : Nat) (H : Int) (hi : i ≤ 200) (hab : a ≤ b) (hb : b ≤ l.length) (w : World) (hn0 : n₀ ≤ w.heap.size)
    (hBy : w.heap[By]? = some (.cells #[.pointer (some ⟨gy, 0, none⟩)] 101 (0, 0))) (hBc : w.heap[Bc]? = some (.cells #[.int .i64 a, .int .i64 b, .int .i64 H] 73 (0, 0))) (hBi : w.heap[Bi]? = some (.cells #[.int .i64 i] 3 (0, 0)))
    (hgy : ∃ d e f, w.heap[gy]? = some (.cells #[.slice A l.length c, .int .i64 wd, .int .i64 gap, d, e, f] 105 (0, 0))) (w0 : World) (hw0 : w0.heap.size = n₀) (hwb : Below n₀ w0 w) (hC : Kd.C k32 w0 A l.length l) :
    SeqStopsK Fence.wide n Tryd.prog 102 #[.pointer (some ⟨By, 0, none⟩), .pointer (some ⟨Bc, 0, none⟩), .pointer (some ⟨Bi, 0, none⟩)] (fun x : S58 => #[S58.enc x]) (KpP n₀ gy) (fun ys => ys = fragsA l wd gap i a (b - a)) (fun pre => pre <+: fragsA l wd gap i a (b - a)) (b - a) w := fun lp J Jx W hW hJ _ hY hj => by
  obtain ⟨d, e, f, hg⟩ := hgy
  exact pieces1_in n hn lp By Bc Bi n₀ gy A c l hl hlen hcl wd gap hwd hgap i a b H hi hab hb J Jx W hJ hY ((hW.block By (blk_lt hBy)).trans hBy) ((hW.block Bc (blk_lt hBc)).trans hBc) ((hW.block Bi (blk_lt hBi)).trans hBi) ⟨d, e, f, (hW.block gy (blk_lt hg)).trans hg⟩ w0 hw0 (hwb.trans (hW.mono hn0)) hC hj

theorem lay_parts {l : List S32} {n w gap avail : Int} (h : layOkA l n w gap avail = true) : openA l n = true ∧ (0 ≤ w ∧ w ≤ 1048576) ∧ (0 ≤ gap ∧ gap ≤ 1048576) ∧ 0 ≤ avail ∧ avail ≤ 1099511627776 := by
  unfold layOkA sizeA at h
  simp only [Bool.and_eq_true, decide_eq_true_eq] at h
  exact ⟨h.1.1.1.1, h.1.1.1.2, h.1.1.2, h.1.2, h.2⟩
theorem least_range {l : List S32} {n : Int} (ho : openA l n = true) (b : Int) : 0 ≤ (leastBA l n b).1 ∧ (leastBA l n b).1 ≤ 2199023255552 := by
  obtain ⟨p1, p2, p3, p4⟩ := openA_parts ho
  have hbr := begin_range p1 p2 n p3 p4
  have hal := all_range l p1
  unfold leastBA
  split
  · next h i e =>
    rcases search_spec l (targetA l n) b.toNat 0 (beginA l n) with ⟨k, q1, q2, q3, q4⟩ | ⟨q1, q2⟩
    · rw [q2] at e
      cases e
      exact hgt_range l p1 (beginA l n) hbr.1 (by omega) k
    · rw [q1] at e
      cases e
  · exact ⟨hal.1, by simp only; omega⟩
theorem rowH_range {l : List S32} {n avail : Int} (ho : openA l n = true) (h0 : 0 ≤ avail) (h1 : avail ≤ 1099511627776) (auto : Bool) : 0 ≤ rowHA l n avail auto ∧ rowHA l n avail auto ≤ 2199023255552 := by
  have := least_range ho 1000
  unfold rowHA lowA
  split
  · omega
  · split <;> omega
theorem wpIn_loop_k {F : Fence} {n : Nat} {P : Program} {c : Code} {Q : Exit → Act → World → Prop} {a : Act} {w : World} (I : Act → World → Prop) (μ : Act → World → Nat) (h₀ : I a w)
    (round : ∀ a w, I a w → ∀ K : Act → World → Prop, (∀ a' w', I a' w' → μ a' w' < μ a w → K a' w') → c.wpIn F n P (Exit.then K Q) a w) : (Code.loop c).wpIn F n P Q a w :=
  wpIn_loop I μ h₀ fun a w h => round a w h _ (fun a' w' h1 h2 => ⟨h1, h2⟩)

theorem tab41 : rtab .any (opsOf Tryd.f41 16) = rtab .any (opsOf Tryd.f41 16) := rfl
/-- What the map of heights holds. -/
theorem heights_look {W : World} {b m : Nat} {avail BH : Int} (h : W.ownsMap Tryd.prog 4 (plainElem (H := Unit) Tryd.prog 2) b m (((DataW.map []).put (.bool true) (.lit (.int .i64 avail))).put (.bool false) (.lit (.int .i64 BH)))) (q : Bool) :
    (Instr.lookup 106 (.map (some b)) (.bool q) false).run Tryd.prog W = .ok (.int .i64 (if q = true then avail else BH)) W := by
  obtain ⟨c, h1, h2, h3⟩ := h.lookup_int lawB Tryd.underlying106 Tryd.underlying2 (zero2 _) (Maps.keyOf_bool_mk Tryd.underlying4 q)
  have hm : Maps.IsMap (DataW.map (H := Unit) []) := ⟨_, rfl⟩
  cases q with
  | true =>
    rw [Maps.atKey_put_other (by simp), Maps.atKey_put_same hm (by trivial)] at h2
    cases h2
    exact h1
  | false =>
    rw [Maps.atKey_put_same (hm.put _ _) (by trivial)] at h2
    cases h2
    exact h1

set_option maxHeartbeats 8000000 in
set_option maxRecDepth 100000 in
theorem lay_yes (A : Option Addr) (c : Nat) (l : List S32) (n wd gap avail : Int) (auto : Bool) (w : World) (hr : Kd.C k32 w A l.length l) (hc : l.length ≤ c) (hG : Gl 3 w) (hf : layOkA l n wd gap avail = true) :
    Calls Tryd.prog 41 #[.slice A l.length c, .int .i64 n, .int .i64 wd, .int .i64 gap, .int .i64 avail, .bool auto] w fun e w' => ∃ v : Value, e = .returned (.tuple #[.agg #[.int .i64 (rowHA l n avail auto), .int .i64 ((fillA l (rowHA l n avail auto)).length : Int), v], .int .i64 0]) ∧
      Kd.R k58 58 w' w.heap.size (fun _ => True) v (rowA l wd gap 0 (fillA l (rowHA l n avail auto))) ∧ Below w.heap.size w w' := by
  obtain ⟨ho, hwd, hgap, hav0, hav1⟩ := lay_parts hf
  obtain ⟨p1, p2, p3, p4⟩ := openA_parts ho
  have hrh := rowH_range ho hav0 hav1 auto
  have hlr := least_range ho 1000
  have hfin : fineA l (rowHA l n avail auto) = true := by
    unfold fineA
    rw [p1, decide_eq_true hrh.1, decide_eq_true hrh.2]
    rfl
  obtain ⟨RH, hRH⟩ : ∃ x, rowHA l n avail auto = x := ⟨_, rfl⟩
  have hrow := hRH
  rw [hRH] at hfin hrh ⊢
  unfold rowHA at hrow
  have hbw : 0 ≤ lowA (leastBA l n 1000).1 avail ∧ lowA (leastBA l n 1000).1 avail ≤ 2199023255552 := by unfold lowA; split <;> omega
  have hbal := fun w' (hb : Below w.heap.size w w') => Lib.hid (bal_ok A c l n avail 1000 w' (Kd.C_below hr hb) hc ((hG.le (by decide)).of_below hb) ho (by decide) hav0 (by omega))
  obtain ⟨BH, hBH⟩ : ∃ x, lowA (leastBA l n 1000).1 avail = x := ⟨_, rfl⟩
  obtain ⟨BN, hBN⟩ : ∃ x, numA l BH = x := ⟨_, rfl⟩
  obtain ⟨BP, hBP⟩ : ∃ x, (leastBA l n 1000).2.1 = x := ⟨_, rfl⟩
  obtain ⟨BE, hBE⟩ : ∃ x, (leastBA l n 1000).2.2 = x := ⟨_, rfl⟩
  rw [hBH, hBP, hBE] at hbal
  rw [hBN] at hbal
  rw [hBH] at hrow hbw
  have hfil := fun w' (hb : Below w.heap.size w w') => Lib.hid (fill_yes A c l RH w' (Kd.C_below hr hb) hc hfin)
  have HBAL := Lib.hid hbal
  have HFIL := Lib.hid hfil
  have hnl : (l.length : Int) ≤ 200 := by omega
  obtain ⟨W3, hW3⟩ : ∃ x, ((w.alloc (.cells #[.int .i64 0, .int .i64 0, .slice none 0 0] 50)).alloc (.cells #[.slice A l.length c, .int .i64 wd, .int .i64 gap, .int .i64 0, .int .i64 0, .slice none 0 0] 105)).alloc (.cells #[.pointer (some ⟨w.heap.size + 1, 0, none⟩)] 101) = x := ⟨_, rfl⟩
  have hb3 : Below w.heap.size w W3 := hW3 ▸ below_alloc (below_alloc (below_alloc (Below.refl _ w) _) _) _
  have k3 : W3.heap[w.heap.size]? = some (.cells #[.int .i64 0, .int .i64 0, .slice none 0 0] 50 (0, 0)) := by
    rw [← hW3]
    exact blk_alloc (blk_alloc (World.alloc_heap_new w _) _) _
  have g3 : W3.heap[w.heap.size + 1]? = some (.cells #[.slice A l.length c, .int .i64 wd, .int .i64 gap, .int .i64 0, .int .i64 0, .slice none 0 0] 105 (0, 0)) := by
    rw [← hW3]
    have := World.alloc_heap_new (w.alloc (.cells #[.int .i64 0, .int .i64 0, .slice none 0 0] 50)) (.cells #[.slice A l.length c, .int .i64 wd, .int .i64 gap, .int .i64 0, .int .i64 0, .slice none 0 0] 105)
    rw [World.size_alloc] at this
    exact blk_alloc this _
  have y3 : W3.heap[w.heap.size + 2]? = some (.cells #[.pointer (some ⟨w.heap.size + 1, 0, none⟩)] 101 (0, 0)) := by
    rw [← hW3]
    have := World.alloc_heap_new ((w.alloc (.cells #[.int .i64 0, .int .i64 0, .slice none 0 0] 50)).alloc (.cells #[.slice A l.length c, .int .i64 wd, .int .i64 gap, .int .i64 0, .int .i64 0, .slice none 0 0] 105)) (.cells #[.pointer (some ⟨w.heap.size + 1, 0, none⟩)] 101)
    rw [World.size_alloc, World.size_alloc] at this
    exact this
  have hs3 : W3.heap.size = w.heap.size + 3 := by rw [← hW3]; simp
  obtain ⟨W4, hrun, hown, hgr⟩ := heights_made W3 avail (by omega)
  have hb4 : Below w.heap.size w W4 := below_grown (below_alloc hb3 _) hb3.size hgr (by have := hb3.size; simp; omega)
  have k4 := (hgr.block w.heap.size (by simp; omega) (by simp; omega)).trans (blk_alloc k3 _)
  have g4 := (hgr.block (w.heap.size + 1) (by simp; omega) (by simp; omega)).trans (blk_alloc g3 _)
  have y4 := (hgr.block (w.heap.size + 2) (by simp; omega) (by simp; omega)).trans (blk_alloc y3 _)
  have HR := Lib.hid (right_yes A c l W4 (Kd.C_below hr hb4) hc p1)
  have HS : Hid (∀ W' : World, Calls Tryd.prog 78 #[.slice (some ⟨W'.heap.size, 0, none⟩) 2 2] (W'.alloc (.cells #[.int .i64 wd, .int .i64 gap] 2)) fun e w' => e = .returned (.bool (!([wd, gap].any badSize))) ∧ (W'.alloc (.cells #[.int .i64 wd, .int .i64 gap] 2)) = w') := Lib.hid fun W' => by
    have hR : (Kd.int .i64).R 2 (W'.alloc (.cells #[.int .i64 wd, .int .i64 gap] 2)) W'.heap.size (fun _ => True) (.slice (some ⟨W'.heap.size, 0, none⟩) 2 2) [wd, gap] := Kd.R_of_own (own_lit W' W'.heap.size 2 .i64 [wd, gap] (Nat.le_refl _) (by simp)) (fun _ _ => trivial)
    exact areSizes78 _ 2 [wd, gap] _ (by unfold maxLen; simp) (Kd.R_reads' hR).2.2
  have hsb : (!([wd, gap].any badSize)) = true := by
    have h1 : badSize wd = false := size_ok.1 (by unfold sizeA; simp [hwd])
    have h2 : badSize gap = false := size_ok.1 (by unfold sizeA; simp [hgap])
    simp [h1, h2]
  rw [hsb] at HS
  have HWF : Hid ((Lit.int .i64 BH).wf = true) := Lib.hid (WalkArith.wf_i64 (by omega))
  have HB4 := Aside0.mk hb4
  have HOWN := Aside0.mk hown
  have K4 := Aside0.mk k4
  have G4 := Aside0.mk g4
  have Y4 := Aside0.mk y4
  have HC := Aside0.mk hr
  have HROW := Lib.hid hrow
  have HRH := Lib.hid hRH
  have HS3 := Lib.hid hs3
  have hl3 : W3.heap.size < W4.heap.size := by have := hgr.size; simp at this; omega
  clear hr hG hb3 k3 g3 y3 hgr hown hb4 k4 g4 y4 hsb hbal hfil ho hf hfin hrow hRH hlr hs3 hBH hBN hBP hBE
  refine (callsIn_wide (n := 3)).1 ?_
  refine callsIn_of_wp_marks Tryd.func41 rfl trivial ?_ rfl
  simp only [Tryd.ntmps41, List.size_toArray, List.length_cons, List.length_nil, Nat.reduceAdd, Nat.reduceSub, Array.replicate_succ, Array.replicate_zero, List.push_toArray, List.append_toArray, List.nil_append, List.cons_append]
  gi_wp2
  refine wpIn_wide.2 (wp_scope_follow 1 ?_)
  have hmm := @run_makeMap Tryd.prog
  go_upto_region 8 with (first
      | (go_at_call 77; refine HR.out.mono ?_; rintro e w5 ⟨rfl, hb⟩; have HB5 := Aside0.mk hb; clear hb)
      | (go_at_call 78; refine (HS.out _).mono ?_; rintro e w6 ⟨rfl, hq⟩; have hb6 : Below W4.heap.size W4 w6 := hq ▸ below_alloc HB5.out _; have HB6 := Aside0.mk hb6; clear hq hb6 HB5)
      | (go_at_call 26; refine (HBAL.out _ (HB4.out.trans (HB6.out.mono HB4.out.size))).out.mono ?_; rintro e w7 ⟨rfl, hb7⟩; have HB7 := Aside0.mk (HB6.out.trans (hb7.mono HB6.out.size)); clear hb7 HB6;
         obtain ⟨W9, hrun2, hown9, hgr9⟩ := (((HOWN.out.kept (grown_of_below HB7.out none) (by simp)).alloc (.cells #[.int .i64 BH, .int .i64 BN, .int .i64 BP, .bool BE] 26)).update lawB Tryd.underlying106 (by decide) (Maps.keyOf_bool_mk Tryd.underlying4 false) (plainElem_int Tryd.underlying2 HWF.out));
         have HO9 := Aside0.mk hown9; have HG9 := Aside0.mk hgr9; clear hown9 hgr9))
  have hl7 : W4.heap.size ≤ w7.heap.size := HB7.out.size
  have hs3 := HS3.out
  have hb8 := below_alloc (HB4.out.trans (HB7.out.mono HB4.out.size)) (.cells #[.int .i64 BH, .int .i64 BN, .int .i64 BP, .bool BE] 26)
  have hb9 : Below w.heap.size w W9 := below_grown hb8 (by omega) HG9.out hb8.size
  have k9 := (HG9.out.block w.heap.size (by simp; omega) (by simp; omega)).trans (blk_alloc ((HB7.out.block _ (by omega)).trans K4.out) _)
  have g9 := (HG9.out.block (w.heap.size + 1) (by simp; omega) (by simp; omega)).trans (blk_alloc ((HB7.out.block _ (by omega)).trans G4.out) _)
  have y9 := (HG9.out.block (w.heap.size + 2) (by simp; omega) (by simp; omega)).trans (blk_alloc ((HB7.out.block _ (by omega)).trans Y4.out) _)
  have HB9 := Aside0.mk hb9
  have K9 := Aside0.mk k9
  have G9 := Aside0.mk g9
  have Y9 := Aside0.mk y9
  clear hb8 hb9 k9 g9 y9 hs3 hl7 hl3
  go_cut [81] from 16 to 132 (fun v81 wc => Aside0 (Below w.heap.size w wc) ∧ Aside0 (wc.heap[w.heap.size]? = some (.cells #[.int .i64 0, .int .i64 0, .slice none 0 0] 50 (0, 0))) ∧ Aside0 (wc.heap[w.heap.size + 2]? = some (.cells #[.pointer (some ⟨w.heap.size + 1, 0, none⟩)] 101 (0, 0))) ∧ Aside0 (wc.heap[w.heap.size + 1]? = some (.cells #[.slice A l.length c, .int .i64 wd, .int .i64 gap, .int .i64 RH, .int .i64 0, .slice none 0 0] 105 (0, 0))))
  case first =>
    have yc : W9.cell? ⟨w.heap.size + 1 + 1, 0, none⟩ = some (.pointer (some ⟨w.heap.size + 1, 0, none⟩)) := (blk_cell Y9.out 0).trans rfl
    have gf := fun j => blk_frozen G9.out j
    have gc9 : W9.cell? ⟨w.heap.size + 1, 3, none⟩ = some (.int .i64 0) := (blk_cell G9.out 3).trans rfl
    have gl := blk_lt G9.out
    have hlk := heights_look HO9.out
    have fin : ∀ x : Int, x = RH → Below w.heap.size w (W9.setCell ⟨w.heap.size + 1, 3, none⟩ (.int .i64 x)) ∧ (W9.setCell ⟨w.heap.size + 1, 3, none⟩ (.int .i64 x)).heap[w.heap.size]? = some (.cells #[.int .i64 0, .int .i64 0, .slice none 0 0] 50 (0, 0)) ∧
        (W9.setCell ⟨w.heap.size + 1, 3, none⟩ (.int .i64 x)).heap[w.heap.size + 2]? = some (.cells #[.pointer (some ⟨w.heap.size + 1, 0, none⟩)] 101 (0, 0)) ∧ (W9.setCell ⟨w.heap.size + 1, 3, none⟩ (.int .i64 x)).heap[w.heap.size + 1]? = some (.cells #[.slice A l.length c, .int .i64 wd, .int .i64 gap, .int .i64 RH, .int .i64 0, .slice none 0 0] 105 (0, 0)) := by
      rintro x rfl
      exact ⟨HB9.out.setCell (p := ⟨w.heap.size + 1, 3, none⟩) (by simp) _, (Below.heap_setCell W9 ⟨w.heap.size + 1, 3, none⟩ _ w.heap.size (by simp)).trans K9.out, (Below.heap_setCell W9 ⟨w.heap.size + 1, 3, none⟩ _ (w.heap.size + 2) (by simp)).trans Y9.out, blk_put G9.out 3 _ rfl⟩
    have HFIN := Lib.hid fin
    clear fin
    cases auto with
    | false =>
      have e1 : BH = RH := by simpa using HROW.out
      have h1 : (Instr.lookup 106 (.map (some W3.heap.size)) (.bool false) false).run Tryd.prog W9 = .ok (.int .i64 RH) W9 := (hlk false).trans (by rw [e1]; rfl)
      clear hlk e1
      go_wp2
      go_meet
      obtain ⟨f1, f2, f3, f4⟩ := HFIN.out _ rfl
      exact ⟨⟨f1⟩, ⟨f2⟩, ⟨f3⟩, ⟨f4⟩⟩
    | true =>
      by_cases hpos : 0 < avail
      · have e1 : avail = RH := by have := HROW.out; rw [if_pos ⟨rfl, hpos⟩] at this; exact this
        have h1 : (Instr.lookup 106 (.map (some W3.heap.size)) (.bool true) false).run Tryd.prog W9 = .ok (.int .i64 RH) W9 := (hlk true).trans (by rw [e1]; rfl)
        clear hlk e1
        go_wp2
        go_meet
        obtain ⟨f1, f2, f3, f4⟩ := HFIN.out _ rfl
        exact ⟨⟨f1⟩, ⟨f2⟩, ⟨f3⟩, ⟨f4⟩⟩
      · have e1 : BH = RH := by have := HROW.out; rw [if_neg (fun q => hpos q.2)] at this; exact this
        have h1 : (Instr.lookup 106 (.map (some W3.heap.size)) (.bool false) false).run Tryd.prog W9 = .ok (.int .i64 RH) W9 := (hlk false).trans (by rw [e1]; rfl)
        clear hlk e1
        go_wp2
        go_meet
        obtain ⟨f1, f2, f3, f4⟩ := HFIN.out _ rfl
        exact ⟨⟨f1⟩, ⟨f2⟩, ⟨f3⟩, ⟨f4⟩⟩
  case rest =>
    obtain ⟨HBc, HKc, HYc, HGc⟩ := hcut
    have yc : wc.cell? ⟨w.heap.size + 1 + 1, 0, none⟩ = some (.pointer (some ⟨w.heap.size + 1, 0, none⟩)) := (blk_cell HYc.out 0).trans rfl
    have gc3 : wc.cell? ⟨w.heap.size + 1, 3, none⟩ = some (.int .i64 RH) := (blk_cell HGc.out 3).trans rfl
    have hfl := HFIL.out wc HBc.out
    have hwl := blk_lt HGc.out
    have hyl := blk_lt HYc.out
    clear hrun hmm HFIL HBAL HR HS HOWN K4 G4 Y4 HB4 HS3 HROW HWF
    go_upto_region 10 with (go_at_call 56; refine hfl.out.mono ?_; rintro e w11 ⟨v15, rfl, hR15, hb11⟩; have HR15 := Aside0.mk hR15; have HB11 := Aside0.mk hb11; clear hR15 hb11)
    obtain ⟨NN, hNN⟩ : ∃ x, (fillA l RH).length = x := ⟨_, rfl⟩
    obtain ⟨cs, hcs⟩ : ∃ x, (fillA l RH).map (ColA.out l) = x := ⟨_, rfl⟩
    have hcl : cs.length = NN := by rw [← hcs, ← hNN, List.length_map]
    have HCS := Lib.hid hcs
    have HNN := Lib.hid hNN
    rw [hcs] at HR15
    have hR15 := HR15.out
    obtain ⟨A1, c1, rfl, hc1, hC1⟩ := Kd.R_reads hR15
    rw [hcl] at HR15 hR15 ⊢
    have k11 := (HB11.out.block _ (by omega)).trans HKc.out
    have g11 := (HB11.out.block _ hwl).trans HGc.out
    have y11 := (HB11.out.block _ hyl).trans HYc.out
    have hb11 := HBc.out.trans (HB11.out.mono HBc.out.size)
    have hF12 : LayF w.heap.size w A l.length c wd gap RH NN (.slice A1 NN c1) cs [] (w11.setCell ⟨w.heap.size + 1, 4, none⟩ (.int .i64 NN)) :=
      ⟨hb11.setCell (p := ⟨w.heap.size + 1, 4, none⟩) (by simp) _, (Below.heap_setCell w11 ⟨w.heap.size + 1, 4, none⟩ _ w.heap.size (by simp)).trans k11, (Below.heap_setCell w11 ⟨w.heap.size + 1, 4, none⟩ _ (w.heap.size + 2) (by simp)).trans y11,
        ⟨.slice none 0 0, blk_put g11 4 _ rfl, Kd.R_nil _ _ _ _ _⟩, Kd.R_set (Kd.R_lower hR15 HBc.out.size) g11 (by decide) 4 _⟩
    have HF12 := Aside0.mk hF12
    have yc1 : w11.cell? ⟨w.heap.size + 1 + 1, 0, none⟩ = some (.pointer (some ⟨w.heap.size + 1, 0, none⟩)) := (blk_cell y11 0).trans rfl
    have gf := fun j => blk_frozen g11 j
    have gc11 : w11.cell? ⟨w.heap.size + 1, 4, none⟩ = some (.int .i64 0) := (blk_cell g11 4).trans rfl
    have gl := blk_lt g11
    clear hF12 hcs hNN k11 g11 y11 hb11 hC1 hR15 HBc HKc HYc HGc hfl yc gc3 HR15
    go_wp2
    have hns : NN ≤ 200 := by
      have h := cols_len l RH l.length 0
      rw [← HNN.out]
      unfold fillA
      omega
    generalize w11.setCell ⟨w.heap.size + 1, 4, none⟩ (.int .i64 NN) = W12 at HF12 ⊢
    clear gc11 gf gl yc1 HB11 hwl hyl
    refine (wpIn_wide (n := 3)).1 ?_
    refine wpIn_loop_k (fun a' w' => ∃ (i : Nat) (x19 x20 x21 x104 x105 x106 x107 x108 x109 x110 x111 x112 x113 x114 x115 x116 x117 x118 x119 x120 x121 x122 x123 x124 x125 : Value) (Ds : List Nat), a' = Act.mk (List.toArray (Value.slice A l.length c :: Value.int IntKind.i64 n :: Value.int IntKind.i64 wd :: Value.int IntKind.i64 gap :: Value.int IntKind.i64 avail :: Value.bool auto :: undef :: undef :: undef :: undef :: undef :: undef :: Value.pointer (some { block := w.heap.size, off := 0 }) :: Value.int IntKind.i64 0 :: Value.pointer (some { block := w.heap.size + 1 + 1, off := 0 }) :: Value.slice A1 NN c1 :: u16 :: u17 :: u18 :: x19 :: x20 :: x21 :: u22 :: u23 :: u24 :: u25 :: u26 :: u27 :: u28 :: u29 :: u30 :: u31 :: u32 :: u33 :: u34 :: u35 :: u36 :: u37 :: u38 :: u39 :: u40 :: u41 :: u42 :: u43 :: u44 :: u45 :: u46 :: u47 :: u48 :: u49 :: u50 :: u51 :: u52 :: u53 :: u54 :: u55 :: u56 :: u57 :: u58 :: u59 :: u60 :: u61 :: u62 :: u63 :: u64 :: u65 :: u66 :: u67 :: u68 :: u69 :: u70 :: u71 :: u72 :: u73 :: u74 :: u75 :: u76 :: u77 :: u78 :: u79 :: u80 :: u81 :: u82 :: u83 :: u84 :: Value.tuple #[Value.slice A1 NN c1, Value.int IntKind.i64 0] :: Value.slice A l.length c :: Value.pointer (some { block := w.heap.size + 1, off := 0 }) :: Value.pointer (some { block := w.heap.size + 1, off := 0 }) :: Value.pointer (some { block := w.heap.size + 1, off := 3 }) :: Value.pointer (some { block := w.heap.size + 1, off := 3 }) :: Value.int IntKind.i64 RH :: Value.tuple #[Value.slice A1 NN c1, Value.int IntKind.i64 0] :: Value.slice A1 NN c1 :: Value.int IntKind.i64 0 :: Value.pointer (some { block := w.heap.size + 1, off := 0 }) :: Value.slice A1 NN c1 :: Value.int IntKind.i64 ↑NN :: Value.pointer (some { block := w.heap.size + 1, off := 0 }) :: Value.pointer (some { block := w.heap.size + 1, off := 3 }) :: Value.pointer (some { block := w.heap.size + 1, off := 4 }) :: Value.slice A1 NN c1 :: Value.int IntKind.i64 ↑NN :: Value.int IntKind.i64 ↑i :: x104 :: x105 :: x106 :: x107 :: x108 :: x109 :: x110 :: x111 :: x112 :: x113 :: x114 :: x115 :: x116 :: x117 :: x118 :: x119 :: x120 :: x121 :: x122 :: x123 :: x124 :: x125 :: u126 :: u127 :: u128 :: u129 :: u130 :: u131 :: u132 :: [])) (Ds.map mark) ∧ i ≤ NN ∧ Aside0 (Marks w.heap.size Ds w') ∧ Aside0 (LayF w.heap.size w A l.length c wd gap RH NN (.slice A1 NN c1) cs (rowA l wd gap 0 ((fillA l RH).take i)) w')) (fun a' _ => NN - (intOf (a'.tmps.getD 103 undef)).toNat) ⟨0, _, _, _, _, _, _, _, _, _, _, _, _, _, _, _, _, _, _, _, _, _, _, _, _, _, [], rfl, Nat.zero_le _, ⟨List.nodup_nil, fun D hD => by simp at hD⟩, HF12⟩ ?_
    rintro a wr ⟨i, x19, x20, x21, x104, x105, x106, x107, x108, x109, x110, x111, x112, x113, x114, x115, x116, x117, x118, x119, x120, x121, x122, x123, x124, x125, Ds, rfl, hi, HM, HF⟩ K hK
    have HKK := Lib.hid hK
    clear hK HF12
    have yr : wr.cell? ⟨w.heap.size + 1 + 1, 0, none⟩ = some (.pointer (some ⟨w.heap.size + 1, 0, none⟩)) := (blk_cell HF.out.yy 0).trans rfl
    have hwr := HF.out.bel.size
    have hyl := blk_lt HF.out.yy
    have hgl : w.heap.size + 1 < wr.heap.size := by omega
    by_cases hlt : i < NN
    · have hiF : i < (fillA l RH).length := by rw [HNN.out]; exact hlt
      have hfo := fill_ok l RH i hiF
      have hxo : cs.getD i z73 = ColA.out l ((fillA l RH)[i]) := by
        rw [← HCS.out]
        simp [List.getD_eq_getElem?_getD, List.getElem?_eq_getElem hiF]
      have hrt := row_take l wd gap (fillA l RH) i hiF
      obtain ⟨ca, hca⟩ : ∃ x, ((fillA l RH)[i]).a = x := ⟨_, rfl⟩
      obtain ⟨cb, hcb⟩ : ∃ x, ((fillA l RH)[i]).b = x := ⟨_, rfl⟩
      obtain ⟨cH, hcH⟩ : ∃ x, hiA l ca cb = x := ⟨_, rfl⟩
      have hxo2 : cs.getD i z73 = (⟨ca, cb, cH⟩ : S73) := by
        rw [hxo, ← hcH, ← hca, ← hcb]
        rfl
      rw [hca, hcb] at hrt hfo
      have HRT := Lib.hid hrt
      obtain ⟨e1, e2, hC1⟩ := Kd.R_reads' HF.out.cols
      obtain ⟨ad, rfl, c0, c1', c2⟩ := at_T73 hC1 (i : Int) (by omega) (by omega)
      have hrd : rd_T73 cs (i : Int) = (⟨ca, cb, cH⟩ : S73) := by
        unfold rd_T73
        rw [Int.toNat_natCast]
        exact hxo2
      rw [hrd] at c0 c1' c2
      rw [Int.toNat_natCast] at c0 c1' c2
      have hlt2 : (i : Int) < (NN : Int) := by omega
      clear hxo hxo2 hrd hC1 e1 e2 hca hcb hcH hrt hiF
      gi_wp2_with (refine ⟨trivial, ?_⟩; gi_at_call 79; refine (callsIn_wide.2 (pieces_calls _ _ _ _ _ _)).mono ?_; rintro e wp ⟨rfl, hWp⟩)
      have hF0 := (((HF.out.alloc (.cells #[.int .i64 ca, .int .i64 cb, .int .i64 cH] 73)).alloc (.cells #[.pointer (some ⟨w.heap.size + 1, 0, none⟩)] 101)).alloc (.cells #[.int .i64 i] 3)).alloc (.cells #[.int .i64 ca, .int .i64 cb, .int .i64 cH] 73)
      have hM0 : Marks w.heap.size Ds wp := HM.out.keep (hWp ▸ keepsFrom_below (below_alloc (below_alloc (below_alloc (below_alloc (Below.refl _ wr) _) _) _) _))
      have hps : wp.heap.size = wr.heap.size + 4 := by rw [← hWp]; simp
      have bY : wp.heap[wr.heap.size + 1]? = some (.cells #[.pointer (some ⟨w.heap.size + 1, 0, none⟩)] 101 (0, 0)) := by
        rw [← hWp]
        have := World.alloc_heap_new (wr.alloc (.cells #[.int .i64 ca, .int .i64 cb, .int .i64 cH] 73)) (.cells #[.pointer (some ⟨w.heap.size + 1, 0, none⟩)] 101)
        rw [World.size_alloc] at this
        exact blk_alloc (blk_alloc this _) _
      have bI : wp.heap[wr.heap.size + 1 + 1]? = some (.cells #[.int .i64 i] 3 (0, 0)) := by
        rw [← hWp]
        have := World.alloc_heap_new ((wr.alloc (.cells #[.int .i64 ca, .int .i64 cb, .int .i64 cH] 73)).alloc (.cells #[.pointer (some ⟨w.heap.size + 1, 0, none⟩)] 101)) (.cells #[.int .i64 i] 3)
        rw [World.size_alloc, World.size_alloc] at this
        exact blk_alloc this _
      have bC : wp.heap[wr.heap.size + 1 + 2]? = some (.cells #[.int .i64 ca, .int .i64 cb, .int .i64 cH] 73 (0, 0)) := by
        rw [← hWp]
        have := World.alloc_heap_new (((wr.alloc (.cells #[.int .i64 ca, .int .i64 cb, .int .i64 cH] 73)).alloc (.cells #[.pointer (some ⟨w.heap.size + 1, 0, none⟩)] 101)).alloc (.cells #[.int .i64 i] 3)) (.cells #[.int .i64 ca, .int .i64 cb, .int .i64 cH] 73)
        rw [World.size_alloc, World.size_alloc, World.size_alloc] at this
        exact this
      rw [hWp] at hF0
      clear hWp
      obtain ⟨v0, hg0, hR0⟩ := hF0.row
      have hrl : (rowA l wd gap 0 ((fillA l RH).take i)).length ≤ 40000 := by
        have h1 := row_len l wd gap ((fillA l RH).take i) 0 l.length (fun x hx => (cols_ok l RH l.length 0 (Nat.zero_le _) x (List.mem_of_mem_take hx)).2.2)
        have h2 : ((fillA l RH).take i).length ≤ 200 := by rw [List.length_take]; omega
        have h3 := Nat.mul_le_mul h2 p2
        omega
      have HM0 := Aside0.mk hM0
      clear hM0 HM HF c0 c1' c2 yr hyl
      refine wpIn_rangeFunc_ownH rfl (by omega) (gf := 102) (lb := #[.pointer (some ⟨wr.heap.size + 1, 0, none⟩), .pointer (some ⟨wr.heap.size + 1 + 2, 0, none⟩), .pointer (some ⟨wr.heap.size + 1 + 1, 0, none⟩)]) rfl trivial (enters_of Tryd.func102 (by kernel_rfl) rfl)
        (encs := fun x : S58 => #[S58.enc x]) (Kp := KpP w.heap.size (w.heap.size + 1)) (S := fun ys => ys = fragsA l wd gap i ca (cb - ca)) (Sp := fun pre => pre <+: fragsA l wd gap i ca (cb - ca)) (N := cb - ca)
        (w0 := wp) (pieces_stops 2 (by omega) (wr.heap.size + 1) (wr.heap.size + 1 + 2) (wr.heap.size + 1 + 1) w.heap.size (w.heap.size + 1) A c l p1 p2 hc wd gap hwd hgap i ca cb cH (by omega) (by omega) hfo.2 wp (by omega) bY bC bI ⟨_, _, _, hg0⟩ w rfl hF0.bel HC.out) KpP.t (KpP.b (n₀ := w.heap.size) (w := wp) (by omega)) (Below.refl _ _) (fun _ => rfl)
        (fun pre W => LayF w.heap.size w A l.length c wd gap RH NN (.slice (some ad) NN c1) cs (rowA l wd gap 0 ((fillA l RH).take i) ++ pre) W ∧ KeepsFrom 0 wp W)
        (fun _ _ _ => False)
        (OwnFrom.and (LayF.own (by omega) _) (ownFrom_keepsFrom (Nat.le_refl _)))
        (fun _ _ _ _ _ hs _ _ => hs)
        ⟨by rw [List.append_nil]; exact hF0, KeepsFrom.refl _ _⟩
        (fun x a' W => ∃ Bf, wr.heap.size + 4 ≤ Bf ∧ W.heap[Bf]? = some (.cells #[.int .i64 x.f0, .int .i64 x.f1, .int .i64 x.f2, .int .i64 x.f3.f0, .int .i64 x.f3.f1, .int .i64 x.f3.f2, .int .i64 x.f3.f3] 58 (0, 0)) ∧ (∀ (y0 y1 y2 y3 y4 v : Value), W.heap[w.heap.size + 1]? = some (.cells #[y0, y1, y2, y3, y4, v] 105 (0, 0)) → some Bf ≠ v.ownBlock) ∧ a' = Act.mk (List.toArray (Value.slice A l.length c :: Value.int IntKind.i64 n :: Value.int IntKind.i64 wd :: Value.int IntKind.i64 gap :: Value.int IntKind.i64 avail :: Value.bool auto :: undef :: undef :: undef :: undef :: undef :: undef :: Value.pointer (some { block := w.heap.size, off := 0 }) :: Value.int IntKind.i64 0 :: Value.pointer (some { block := w.heap.size + 1 + 1, off := 0 }) :: Value.slice (some ad) NN c1 :: u16 :: u17 :: u18 :: Value.int .i64 i :: Value.pointer (some { block := wr.heap.size, off := 0 }) :: (Value.pointer (some { block := Bf, off := 0 })) :: u22 :: u23 :: u24 :: u25 :: u26 :: u27 :: u28 :: u29 :: u30 :: u31 :: u32 :: u33 :: u34 :: u35 :: u36 :: u37 :: u38 :: u39 :: u40 :: u41 :: u42 :: u43 :: u44 :: u45 :: u46 :: u47 :: u48 :: u49 :: u50 :: u51 :: u52 :: u53 :: u54 :: u55 :: u56 :: u57 :: u58 :: u59 :: u60 :: u61 :: u62 :: u63 :: u64 :: u65 :: u66 :: u67 :: u68 :: u69 :: u70 :: u71 :: u72 :: u73 :: u74 :: u75 :: u76 :: u77 :: u78 :: u79 :: u80 :: u81 :: u82 :: u83 :: u84 :: Value.tuple #[Value.slice (some ad) NN c1, Value.int IntKind.i64 0] :: Value.slice A l.length c :: Value.pointer (some { block := w.heap.size + 1, off := 0 }) :: Value.pointer (some { block := w.heap.size + 1, off := 0 }) :: Value.pointer (some { block := w.heap.size + 1, off := 3 }) :: Value.pointer (some { block := w.heap.size + 1, off := 3 }) :: Value.int IntKind.i64 RH :: Value.tuple #[Value.slice (some ad) NN c1, Value.int IntKind.i64 0] :: Value.slice (some ad) NN c1 :: Value.int IntKind.i64 0 :: Value.pointer (some { block := w.heap.size + 1, off := 0 }) :: Value.slice (some ad) NN c1 :: Value.int IntKind.i64 ↑NN :: Value.pointer (some { block := w.heap.size + 1, off := 0 }) :: Value.pointer (some { block := w.heap.size + 1, off := 3 }) :: Value.pointer (some { block := w.heap.size + 1, off := 4 }) :: Value.slice (some ad) NN c1 :: Value.int IntKind.i64 ↑NN :: Value.int IntKind.i64 ↑i :: Value.bool true :: Value.int .i64 ↑i :: Value.pointer (some (ad.add (i * 3))) :: Value.agg #[.int .i64 ca, .int .i64 cb, .int .i64 cH] :: Value.pointer (some { block := w.heap.size + 1, off := 0 }) :: Value.int .i64 ↑i :: Value.agg #[.int .i64 ca, .int .i64 cb, .int .i64 cH] :: Value.func (Fn.func 102) #[] #[Value.pointer (some { block := wr.heap.size + 1, off := 0 }), Value.pointer (some { block := wr.heap.size + 1 + 2, off := 0 }), Value.pointer (some { block := wr.heap.size + 1 + 1, off := 0 })] :: S58.enc x :: x113 :: x114 :: x115 :: x116 :: x117 :: x118 :: x119 :: x120 :: x121 :: x122 :: x123 :: x124 :: x125 :: u126 :: u127 :: u128 :: u129 :: u130 :: u131 :: u132 :: [])) [])
        (fun x a' _ X Y row hs hg hr => by
          obtain ⟨Bf, h1, h2, h3, h4⟩ := hs
          have hlt := blk_lt h2
          exact ⟨Bf, h1, (grownBy_keeps_cells hg (fun r e => (hr r e).2) h2 rfl).trans h2, fun y0 y1 y2 y3 y4 v hv => h3 y0 y1 y2 y3 y4 v ((hg.block (w.heap.size + 1) (by omega) (fun e => by have := (hr _ e.symm).1; omega)).symm.trans hv), h4⟩)
        ?assign ?body ?done ?stop
      case assign =>
        rintro l1 pre x W K ⟨hF1, hk1⟩ hK
        have hsW := hk1.size
        obtain ⟨v, hg1, hR1⟩ := hF1.row
        dsimp only [S58.enc] at hK ⊢
        gi_wp2
        refine hK _ _ ((KeepsOthers.alloc _ _).from _) (KpP.alloc W (by omega) _) ⟨hF1.alloc _, hk1.trans ((KeepsOthers.alloc _ _).from 0)⟩ ⟨W.heap.size, by omega, World.alloc_heap_new _ _, fun y0 y1 y2 y3 y4 v' hv e => ?_, rfl⟩
        rw [Below.heap_alloc W _ (w.heap.size + 1) (blk_lt hg1), hg1] at hv
        cases hv
        have := Kd.R_lt hR1 _ e.symm
        omega
      case body =>
        rintro l1 pre x a' W hl1 ⟨r, hr⟩ ⟨hF1, hk1⟩ ⟨Bf, hBf, bF, hne0, rfl⟩ hlt3
        obtain ⟨v, hg1, hR1⟩ := hF1.row
        have hne := hne0 _ _ _ _ _ _ hg1
        have yy : W.cell? ⟨w.heap.size + 1 + 1, 0, none⟩ = some (.pointer (some ⟨w.heap.size + 1, 0, none⟩)) := (blk_cell hF1.yy 0).trans rfl
        have g5 : W.cell? ⟨w.heap.size + 1, 5, none⟩ = some v := (blk_cell hg1 5).trans rfl
        have z0 : W.cell? ⟨Bf, 0, none⟩ = some (.int .i64 x.f0) := (blk_cell bF 0).trans rfl
        have z1 : W.cell? ⟨Bf, 1, none⟩ = some (.int .i64 x.f1) := (blk_cell bF 1).trans rfl
        have z2 : W.cell? ⟨Bf, 2, none⟩ = some (.int .i64 x.f2) := (blk_cell bF 2).trans rfl
        have z3 : W.cell? ⟨Bf, 3, none⟩ = some (.int .i64 x.f3.f0) := (blk_cell bF 3).trans rfl
        have z4 : W.cell? ⟨Bf, 4, none⟩ = some (.int .i64 x.f3.f1) := (blk_cell bF 4).trans rfl
        have z5 : W.cell? ⟨Bf, 5, none⟩ = some (.int .i64 x.f3.f2) := (blk_cell bF 5).trans rfl
        have z6 : W.cell? ⟨Bf, 6, none⟩ = some (.int .i64 x.f3.f3) := (blk_cell bF 6).trans rfl
        clear hr hne0
        gi_wp2
        refine wpIn_last (R := fun _ W' => KeepsFrom wp.heap.size W W' ∧ KpP w.heap.size (w.heap.size + 1) W W' ∧ (LayF w.heap.size w A l.length c wd gap RH NN (.slice (some ad) NN c1) cs (rowA l wd gap 0 ((fillA l RH).take i) ++ (pre ++ [x])) W' ∧ KeepsFrom 0 wp W')) ?_ (fun a w h => h)
        rw [hps]
        refine start_round (m := 13) (S := fun w' => w'.cell? ⟨w.heap.size + 1 + 1, 0, none⟩ = some (.pointer (some ⟨w.heap.size + 1, 0, none⟩)) ∧ w'.cell? ⟨w.heap.size + 1, 5, none⟩ = some v ∧ w'.cell? ⟨Bf, 0, none⟩ = some (.int .i64 x.f0) ∧ w'.cell? ⟨Bf, 1, none⟩ = some (.int .i64 x.f1) ∧ w'.cell? ⟨Bf, 2, none⟩ = some (.int .i64 x.f2) ∧ w'.cell? ⟨Bf, 3, none⟩ = some (.int .i64 x.f3.f0) ∧ w'.cell? ⟨Bf, 4, none⟩ = some (.int .i64 x.f3.f1) ∧ w'.cell? ⟨Bf, 5, none⟩ = some (.int .i64 x.f3.f2) ∧ w'.cell? ⟨Bf, 6, none⟩ = some (.int .i64 x.f3.f3)) (ds := [12]) #[false, false, false, false, false, false, false, false, false, false, false, false, false] (by kernel_rfl) (by kernel_rfl) rfl rfl ⟨yy, g5, z0, z1, z2, z3, z4, z5, z6⟩ (fun hHeld => ?_); refine with_tab tab41 (fun HT_ => ?_)
        have HFD := Aside0.mk hF1.drew
        have hgd : W.drew.heap[w.heap.size + 1]? = some (.cells #[.slice A l.length c, .int .i64 wd, .int .i64 gap, .int .i64 RH, .int .i64 NN, v] 105 (0, 0)) := hg1
        have hRd : Kd.R k58 58 W.drew w.heap.size (fun _ => True) v (rowA l wd gap 0 ((fillA l RH).take i) ++ pre) := Kd.R_drew hR1
        have hyd : W.drew.heap[w.heap.size + 2]? = some (.cells #[.pointer (some ⟨w.heap.size + 1, 0, none⟩)] 101 (0, 0)) := hF1.yy
        have hfd : W.drew.heap[Bf]? = some (.cells #[.int .i64 x.f0, .int .i64 x.f1, .int .i64 x.f2, .int .i64 x.f3.f0, .int .i64 x.f3.f1, .int .i64 x.f3.f2, .int .i64 x.f3.f3] 58 (0, 0)) := bF
        have hKD : KeepsFrom (wr.heap.size + 4) W W.drew ∧ KpP w.heap.size (w.heap.size + 1) W W.drew ∧ KeepsFrom 0 W W.drew := ⟨⟨Nat.le_refl _, fun k o _ hk _ => hk⟩, KpP.drew1 W, ⟨Nat.le_refl _, fun k o _ hk _ => hk⟩⟩
        have HGD := Aside0.mk hgd
        have HRD := Aside0.mk hRd
        have HYD := Aside0.mk hyd
        have HFF := Aside0.mk hfd
        have HKD := Aside0.mk hKD
        have HK1 := Aside0.mk hk1
        have hsz : w.heap.size + 2 < W.drew.heap.size := blk_lt hyd
        obtain ⟨Wd, hWd⟩ : ∃ x, W.drew = x := ⟨_, rfl⟩
        rw [hWd] at HFD HGD HRD HYD HFF HKD hHeld hsz ⊢
        clear hWd hgd hRd hyd hfd hKD hF1 hg1 hR1 bF yy g5 z0 z1 z2 z3 z4 z5 z6 hk1
        refine take_ (i := 0) (N := some 113) (v := ?_) (a' := ?_) #[true, false, false, false, false, false, false, false, false, false, false, false, false] rfl rfl (take_of HT_.out (by kernel_rfl)) (fun _ _ _ h => h) (Or.inl ⟨by rfl, ?_⟩) hHeld ?_ ?_
        rotate_left
        · rintro w' ⟨s1, s2, s3, s4, s5, s6, s7, s8, s9⟩
          go_simp
          with_reducible rfl
        rotate_left
        · simp only [Act.put, List.setIfInBounds_toArray, List.set_cons_zero, List.set_cons_succ]
          rfl
        refine take_ (i := 1) (N := some 114) (v := ?_) (a' := ?_) #[true, true, false, false, false, false, false, false, false, false, false, false, false] rfl rfl (take_of HT_.out (by kernel_rfl)) (fun _ _ _ h => h) (Or.inl ⟨by rfl, ?_⟩) hHeld ?_ ?_
        rotate_left
        · rintro w' ⟨s1, s2, s3, s4, s5, s6, s7, s8, s9⟩
          go_simp
          with_reducible rfl
        rotate_left
        · simp only [Act.put, List.setIfInBounds_toArray, List.set_cons_zero, List.set_cons_succ]
          rfl
        refine pure_ (i := 2) (N := some 115) (v := ?_) (a' := ?_) #[true, true, true, false, false, false, false, false, false, false, false, false, false] rfl rfl (any_of HT_.out (by kernel_rfl)) (fun _ _ _ h => h) (Or.inl ⟨by rfl, ?_⟩) ?_ ?_
        rotate_left
        · intro w'
          go_simp
          with_reducible rfl
        rotate_left
        · simp only [Act.put, List.setIfInBounds_toArray, List.set_cons_zero, List.set_cons_succ]
          rfl
        refine pure_ (i := 3) (N := some 116) (v := ?_) (a' := ?_) #[true, true, true, true, false, false, false, false, false, false, false, false, false] rfl rfl (any_of HT_.out (by kernel_rfl)) (fun _ _ _ h => h) (Or.inl ⟨by rfl, ?_⟩) ?_ ?_
        rotate_left
        · intro w'
          go_simp
          with_reducible rfl
        rotate_left
        · simp only [Act.put, List.setIfInBounds_toArray, List.set_cons_zero, List.set_cons_succ]
          rfl
        refine pure_ (i := 4) (N := some 117) (v := ?_) (a' := ?_) #[true, true, true, true, true, false, false, false, false, false, false, false, false] rfl rfl (any_of HT_.out (by kernel_rfl)) (fun _ _ _ h => h) (Or.inl ⟨by rfl, ?_⟩) ?_ ?_
        rotate_left
        · intro w'
          go_simp
          with_reducible rfl
        rotate_left
        · simp only [Act.put, List.setIfInBounds_toArray, List.set_cons_zero, List.set_cons_succ]
          rfl
        refine take_ (i := 5) (N := some 118) (v := ?_) (a' := ?_) #[true, true, true, true, true, true, false, false, false, false, false, false, false] rfl rfl (take_of HT_.out (by kernel_rfl)) (fun _ _ _ h => h) (Or.inl ⟨by rfl, ?_⟩) hHeld ?_ ?_
        rotate_left
        · rintro w' ⟨s1, s2, s3, s4, s5, s6, s7, s8, s9⟩
          go_simp
          with_reducible rfl
        rotate_left
        · simp only [Act.put, List.setIfInBounds_toArray, List.set_cons_zero, List.set_cons_succ]
          rfl
        refine take_ (i := 6) (N := some 119) (v := ?_) (a' := ?_) #[true, true, true, true, true, true, true, false, false, false, false, false, false] rfl rfl (take_of HT_.out (by kernel_rfl)) (fun _ _ _ h => h) (Or.inl ⟨by rfl, ?_⟩) hHeld ?_ ?_
        rotate_left
        · rintro w' ⟨s1, s2, s3, s4, s5, s6, s7, s8, s9⟩
          go_simp
          with_reducible rfl
        rotate_left
        · simp only [Act.put, List.setIfInBounds_toArray, List.set_cons_zero, List.set_cons_succ]
          rfl
        refine one_ (i := 7) (N := some 120) #[true, true, true, true, true, true, true, true, false, false, false, false, false] rfl rfl (one_of HT_.out (by kernel_rfl)) (by decide) (fun K hK => ?_)
        refine value_ (w1 := Wd.alloc (.cells #[.int .i64 x.f0, .int .i64 x.f1, .int .i64 x.f2, .int .i64 x.f3.f0, .int .i64 x.f3.f1, .int .i64 x.f3.f2, .int .i64 x.f3.f3] 58)) (v := .slice (some ⟨Wd.heap.size, 0, none⟩) 1 1) (by rfl) rfl ?_ ?_
        · go_simp
        have hS2 := hHeld
        obtain ⟨s1, s2, s3, s4, s5, s6, s7, s8, s9⟩ := hS2
        refine hK.out _ _ ⟨cell_alloc' s1 _, cell_alloc' s2 _, cell_alloc' s3 _, cell_alloc' s4 _, cell_alloc' s5 _, cell_alloc' s6 _, cell_alloc' s7 _, cell_alloc' s8 _, cell_alloc' s9 _⟩ (fun _ => ?_)
        clear s1 s2 s3 s4 s5 s6 s7 s8 s9
        clear hK K
        refine norm_ (a' := ?_) ?_ ?_
        rotate_left
        · show Act.put _ (some 120) _ = _
          simp only [Act.put, List.setIfInBounds_toArray, List.set_cons_zero, List.set_cons_succ]
          rfl
        refine one_ (i := 8) (N := some 121) #[true, true, true, true, true, true, true, true, true, false, false, false, false] rfl rfl (one_of HT_.out (by kernel_rfl)) (by decide) (fun K hK => ?_)
        refine Kd.R_append_step k58 (w0 := Wd) w.heap.size (by rfl) (.tmp 118) (.tmp 120) 48 58 (.agg #[(.int .i64 0), (.int .i64 0), (.int .i64 0), (.int .i64 0), (.int .i64 0), (.int .i64 0), (.int .i64 0)]) 56 rfl Tryd.underlying48 info58 rfl (by decide) (by omega) v (rowA l wd gap 0 ((fillA l RH).take i) ++ pre) x [.int .i64 x.f0, .int .i64 x.f1, .int .i64 x.f2, .int .i64 x.f3.f0, .int .i64 x.f3.f1, .int .i64 x.f3.f2, .int .i64 x.f3.f3] (fun _ => True) (fun _ => False) rfl rfl (k58_mkM _ _ _ x) (fun _ hk => hk.elim) (fun _ _ => trivial) HRD.out (Below.refl _ _) (by omega) (by rw [List.length_append]; omega) ?_
        intro v1 w1 ho hb hg hat
        have hg2 := blk_grown HGD.out hg (Kd.R_ne HRD.out HGD.out (by decide))
        have hy2 := blk_grown HYD.out hg (Kd.R_ne HRD.out HYD.out (by decide))
        have hf2 := blk_grown HFF.out hg hne
        have HG2 := Aside0.mk hg2
        have HO2 := Aside0.mk ho
        have HGR := Aside0.mk hg
        obtain ⟨Ao, co, rfl⟩ := Kd.R_slice ho
        refine hK.out _ _ ⟨(blk_cell hy2 0).trans rfl, (blk_cell hg2 5).trans rfl, (blk_cell hf2 0).trans rfl, (blk_cell hf2 1).trans rfl, (blk_cell hf2 2).trans rfl, (blk_cell hf2 3).trans rfl, (blk_cell hf2 4).trans rfl, (blk_cell hf2 5).trans rfl, (blk_cell hf2 6).trans rfl⟩ (fun _ => ?_)
        have fz := blk_frozen hg2 5
        have cz : w1.cell? ⟨w.heap.size + 1, 5, none⟩ = some v := (blk_cell hg2 5).trans rfl
        clear hg2 hy2 hf2 ho hb hg hat
        clear hK K
        refine norm_ (a' := ?_) ?_ ?_
        rotate_left
        · show Act.put _ (some 121) _ = _
          simp only [Act.put, List.setIfInBounds_toArray, List.set_cons_zero, List.set_cons_succ]
          rfl
        refine pure_ (i := 9) (N := some 122) (v := ?_) (a' := ?_) #[true, true, true, true, true, true, true, true, true, true, false, false, false] rfl rfl (any_of HT_.out (by kernel_rfl)) (fun _ _ _ h => h) (Or.inl ⟨by rfl, ?_⟩) ?_ ?_
        rotate_left
        · intro w'
          go_simp
          with_reducible rfl
        rotate_left
        · simp only [Act.put, List.setIfInBounds_toArray, List.set_cons_zero, List.set_cons_succ]
          rfl
        refine pure_ (i := 10) (N := some 123) (v := ?_) (a' := ?_) #[true, true, true, true, true, true, true, true, true, true, true, false, false] rfl rfl (any_of HT_.out (by kernel_rfl)) (fun _ _ _ h => h) (Or.inl ⟨by rfl, ?_⟩) ?_ ?_
        rotate_left
        · intro w'
          go_simp
          with_reducible rfl
        rotate_left
        · simp only [Act.put, List.setIfInBounds_toArray, List.set_cons_zero, List.set_cons_succ]
          rfl
        refine pure_ (i := 11) (N := some 124) (v := ?_) (a' := ?_) #[true, true, true, true, true, true, true, true, true, true, true, true, false] rfl rfl (any_of HT_.out (by kernel_rfl)) (fun _ _ _ h => h) (Or.inl ⟨by rfl, ?_⟩) ?_ ?_
        rotate_left
        · intro w'
          go_simp
          with_reducible rfl
        rotate_left
        · simp only [Act.put, List.setIfInBounds_toArray, List.set_cons_zero, List.set_cons_succ]
          rfl
        refine last_ (i := 12) (N := none) #[true, true, true, true, true, true, true, true, true, true, true, true, true] rfl rfl (one_of HT_.out (by kernel_rfl)) (by decide) (fun K hK => ?_)
        refine skip_ (w1 := w1.setCell ⟨w.heap.size + 1, 5, none⟩ (.slice Ao (rowA l wd gap 0 ((fillA l RH).take i) ++ pre ++ [x]).length co)) (by rfl) rfl ?_ ?_
        · go_simp
        refine hK.out _ _ ?_
        clear hK K
        refine done_ (done_of HT_.out (by kernel_rfl)) ?_
        have hk3 := app_KeepsFrom (b := w.heap.size) HGD.out HRD.out HGR.out (.slice Ao (rowA l wd gap 0 ((fillA l RH).take i) ++ pre ++ [x]).length co)
        refine ⟨HKD.out.1.trans (hk3 _), HKD.out.2.1.t (app_KpP (b := w.heap.size) (by omega) HGD.out HRD.out HGR.out _), ?_, HK1.out.trans (HKD.out.2.2.trans (hk3 0))⟩
        rw [← List.append_assoc]
        exact HFD.out.appended HGD.out HRD.out HGR.out HO2.out
      case done =>
        rintro D xs W hD rfl ⟨hF1, hk1⟩ hKD
        rw [← HRT.out] at hF1
        have HF1 := Aside0.mk hF1
        have HM1 := Aside0.mk (HM0.out.cons hk1 hD (by omega) hKD)
        clear hF1 hk1 hKD
        gi_wp2
        refine HKK.out _ _ ⟨i + 1, _, _, _, _, _, _, _, _, _, _, _, _, _, _, _, _, _, _, _, _, _, _, _, _, _, D :: Ds, rfl, by omega, HM1, HF1⟩ ?_
        simp [intOf]
        omega
      case stop =>
        rintro D c' pre W _ _ h _
        exact h.elim
    · obtain rfl : i = NN := by omega
      have htk : (fillA l RH).take i = fillA l RH := List.take_of_length_le (by rw [HNN.out]; exact Nat.le_refl _)
      rw [htk] at HF
      obtain ⟨v, hg1, hR1⟩ := HF.out.row
      obtain ⟨A2, c2, rfl⟩ := Kd.R_slice hR1
      have r3 : wr.cell? ⟨w.heap.size + 1, 3, none⟩ = some (.int .i64 RH) := (blk_cell hg1 3).trans rfl
      have r4 : wr.cell? ⟨w.heap.size + 1, 4, none⟩ = some (.int .i64 i) := (blk_cell hg1 4).trans rfl
      have r5 : wr.cell? ⟨w.heap.size + 1, 5, none⟩ = some (.slice A2 (rowA l wd gap 0 (fillA l RH)).length c2) := (blk_cell hg1 5).trans rfl
      have q0 : wr.cell? ⟨w.heap.size, 0, none⟩ = some (.int .i64 0) := (blk_cell HF.out.res 0).trans rfl
      have q1 : wr.cell? ⟨w.heap.size, 1, none⟩ = some (.int .i64 0) := (blk_cell HF.out.res 1).trans rfl
      have q2 : wr.cell? ⟨w.heap.size, 2, none⟩ = some (.slice none 0 0) := (blk_cell HF.out.res 2).trans rfl
      have qf := fun j => blk_frozen HF.out.res j
      have hsl := blk_lt HF.out.res
      have hend : LayEnd w.heap.size w RH i (.slice A2 (rowA l wd gap 0 (fillA l RH)).length c2) (rowA l wd gap 0 (fillA l RH)) (((wr.setCell ⟨w.heap.size, 0, none⟩ (.int .i64 RH)).setCell ⟨w.heap.size, 1, none⟩ (.int .i64 i)).setCell ⟨w.heap.size, 2, none⟩ (.slice A2 (rowA l wd gap 0 (fillA l RH)).length c2)) := by
        have b0 := blk_put HF.out.res 0 (.int .i64 RH) rfl
        have b1 := blk_put b0 1 (.int .i64 i) rfl
        have b2 := blk_put b1 2 (.slice A2 (rowA l wd gap 0 (fillA l RH)).length c2) rfl
        exact ⟨below_set (below_set (below_set HF.out.bel (Nat.le_refl _)) (Nat.le_refl _)) (Nat.le_refl _), b2, Kd.R_set (Kd.R_set (Kd.R_set hR1 HF.out.res (by decide) 0 _) b0 (by decide) 1 _) b1 (by decide) 2 _⟩
      have hM1 : Marks w.heap.size Ds (((wr.setCell ⟨w.heap.size, 0, none⟩ (.int .i64 RH)).setCell ⟨w.heap.size, 1, none⟩ (.int .i64 i)).setCell ⟨w.heap.size, 2, none⟩ (.slice A2 (rowA l wd gap 0 (fillA l RH)).length c2)) := by
        refine HM.out.keep ⟨by simp, fun k o _ hk ho => ?_⟩
        have hne : k ≠ w.heap.size := fun e => by
          subst e
          rw [HF.out.res] at hk
          cases hk
          cases ho
        exact (Below.heap_setCell _ ⟨w.heap.size, 2, none⟩ _ k hne).trans ((Below.heap_setCell _ ⟨w.heap.size, 1, none⟩ _ k hne).trans ((Below.heap_setCell wr ⟨w.heap.size, 0, none⟩ _ k hne).trans hk))
      have HEND := Aside0.mk hend
      have HM1 := Aside0.mk hM1
      clear hend hM1 hg1 hR1 HM HF htk
      gi_wp2
      go_wp2
      refine Follow.ret 1 ?_
      refine leaves_marks (s := w.heap.size) (LayEnd w.heap.size w RH i (.slice A2 (rowA l wd gap 0 (fillA l RH)).length c2) (rowA l wd gap 0 (fillA l RH))) (fun W D h1 h2 h3 => h2.put (Nat.le_refl _) h1 h3) ?_ Ds _ HM1.out HEND.out
      rintro W ⟨e1, e2, e3⟩
      have w0 := (blk_cell e2 0).trans rfl
      have w1 := (blk_cell e2 1).trans rfl
      have w2 := (blk_cell e2 2).trans rfl
      rw [HNN.out]
      exact ⟨_, by simp [results, Tryd.results41, go_sem, w0, w1, w2], _, rfl, e3, e1⟩

theorem row_Lay.calls (A0 : Option Addr) (c0 : Nat) (l0 : List (S32)) (a1 : Int) (a2 : Int) (a3 : Int) (a4 : Int) (a5 : Bool) (r1 : Int) (r2 : Int) (r3 : List (S58)) (r4 : Int) (w : World) (hr0 : Kd.C k32 w A0 l0.length l0) (hc0 : l0.length ≤ c0) (hG : Gl 3 w) (h : row_Lay.f l0 a1 a2 a3 a4 a5 = some (r1, r2, r3, r4)) :
    Calls Tryd.prog 41 #[.slice A0 l0.length c0, .int .i64 a1, .int .i64 a2, .int .i64 a3, .int .i64 a4, .bool a5] w fun e w' => ∃ v2_ : Value, e = .returned (.tuple #[.agg #[.int .i64 r1, .int .i64 r2, v2_], .int .i64 r4]) ∧ Kd.R k58 58 w' w.heap.size (fun _ => True) v2_ r3 ∧ Below w.heap.size w w' := by
  unfold row_Lay.f at h
  split at h
  · next hf =>
    cases h
    exact lay_yes A0 c0 l0 a1 a2 a3 a4 a5 w hr0 hc0 hG hf
  · next hf =>
    cases h
    refine (lay_no A0 c0 l0 a1 a2 a3 a4 a5 w hr0 hc0 hG (amiss_of (by simpa using hf))).mono ?_
    rintro e w' ⟨rfl, hb⟩
    exact ⟨_, rfl, Kd.R_nil _ _ _ _ _, hb⟩

end Go.Proofs.YtjpifknencfipaaDoor.P
