/- slices.SortFunc at spans, by where they begin: the kit's contract, laid at this program; what it leaves of spans of the call's own. Conditions: the spans are right. -/
import Derived.Test.YtomgpbhkoellpaaDoorCl
import Derived.Shelf.SlSortCmp.WholeK
import Derived.Shelf.SlGeneric
import Derived.Ground.SlsfProg
set_option linter.unusedVariables false
set_option linter.unusedSimpArgs false
namespace Go.Proofs
open Go.Shelf
def Tryd.l30_ren : Go.Shelf.Ren := ⟨fun | 6 => 30 | 15 => 46 | 14 => 45 | 28 => 60 | 29 => 61 | 20 => 52 | 21 => 53 | 22 => 54 | 23 => 55 | 24 => 56 | 25 => 57 | 26 => 58 | 27 => 59 | 46 => 64 | 47 => 65 | 48 => 66 | 49 => 67 | 50 => 68 | 57 => 69 | n => n, fun | 22 => 22 | 24 => 24 | 25 => 43 | 3 => 3 | 39 => 66 | 0 => 0 | 53 => 79 | 55 => 81 | 4 => 4 | 46 => 72 | 45 => 71 | 50 => 76 | 5 => 5 | 9 => 9 | 66 => 86 | 70 => 90 | 76 => 103 | 77 => 104 | n => n, fun | n => n⟩
theorem Tryd.l30 : Go.Proofs.SlLaysF0.n6 Tryd.prog Tryd.l30_ren := {
  mixed := by kernel_rfl
  f6 := ⟨Tryd.f30.name, by decide, Tryd.func30.trans (congrArg some (by kernel_rfl))⟩
  f14 := ⟨Tryd.f45.name, by decide, Tryd.func45.trans (congrArg some (by kernel_rfl))⟩
  f15 := Tryd.func46.trans (congrArg some (by kernel_rfl))
  f20 := ⟨Tryd.f52.name, by decide, Tryd.func52.trans (congrArg some (by kernel_rfl))⟩
  f21 := ⟨Tryd.f53.name, by decide, Tryd.func53.trans (congrArg some (by kernel_rfl))⟩
  f22 := ⟨Tryd.f54.name, by decide, Tryd.func54.trans (congrArg some (by kernel_rfl))⟩
  f23 := ⟨Tryd.f55.name, by decide, Tryd.func55.trans (congrArg some (by kernel_rfl))⟩
  f24 := ⟨Tryd.f56.name, by decide, Tryd.func56.trans (congrArg some (by kernel_rfl))⟩
  f25 := ⟨Tryd.f57.name, by decide, Tryd.func57.trans (congrArg some (by kernel_rfl))⟩
  f26 := ⟨Tryd.f58.name, by decide, Tryd.func58.trans (congrArg some (by kernel_rfl))⟩
  f27 := ⟨Tryd.f59.name, by decide, Tryd.func59.trans (congrArg some (by kernel_rfl))⟩
  f28 := Tryd.func60.trans (congrArg some (by kernel_rfl))
  f29 := Tryd.func61.trans (congrArg some (by kernel_rfl))
  f46 := ⟨Tryd.f64.name, by decide, Tryd.func64.trans (congrArg some (by kernel_rfl))⟩
  f47 := Tryd.func65.trans (congrArg some (by kernel_rfl))
  f48 := Tryd.func66.trans (congrArg some (by kernel_rfl))
  f49 := ⟨Tryd.f67.name, by decide, Tryd.func67.trans (congrArg some (by kernel_rfl))⟩
  f50 := ⟨Tryd.f68.name, by decide, Tryd.func68.trans (congrArg some (by kernel_rfl))⟩
  f57 := ⟨Tryd.f69.name, by decide, Tryd.func69.trans (congrArg some (by kernel_rfl))⟩
  t0 := Tryd.underlying0
  a0 := Tryd.isAgg0
  z0 := Tryd.sizeOf0
  v0 := Tryd.zeroValue0
  t3 := Tryd.underlying3
  a3 := Tryd.isAgg3
  z3 := Tryd.sizeOf3
  v3 := Tryd.zeroValue3
  t4 := Tryd.underlying4
  a4 := Tryd.isAgg4
  z4 := Tryd.sizeOf4
  v4 := Tryd.zeroValue4
  t5 := Tryd.underlying5
  a5 := Tryd.isAgg5
  z5 := Tryd.sizeOf5
  v5 := Tryd.zeroValue5
  t9 := Tryd.underlying9
  a9 := Tryd.isAgg9
  z9 := Tryd.sizeOf9
  v9 := Tryd.zeroValue9
  t22 := Tryd.underlying22
  a22 := Tryd.isAgg22
  z22 := Tryd.sizeOf22
  v22 := Tryd.zeroValue22
  t25 := Tryd.underlying43
  a25 := Tryd.isAgg43
  z25 := Tryd.sizeOf43
  v25 := Tryd.zeroValue43
  t39 := Tryd.underlying66
  a39 := Tryd.isAgg66
  z39 := Tryd.sizeOf66
  v39 := Tryd.zeroValue66
  t45 := Tryd.underlying71
  a45 := Tryd.isAgg71
  z45 := Tryd.sizeOf71
  v45 := Tryd.zeroValue71
  t46 := Tryd.underlying72
  a46 := Tryd.isAgg72
  z46 := Tryd.sizeOf72
  v46 := Tryd.zeroValue72
  t50 := Tryd.underlying76
  a50 := Tryd.isAgg76
  z50 := Tryd.sizeOf76
  v50 := Tryd.zeroValue76
  t53 := Tryd.underlying79
  a53 := Tryd.isAgg79
  z53 := Tryd.sizeOf79
  v53 := Tryd.zeroValue79
  t55 := Tryd.underlying81
  a55 := Tryd.isAgg81
  z55 := Tryd.sizeOf81
  v55 := Tryd.zeroValue81
  t66 := Tryd.underlying86
  a66 := Tryd.isAgg86
  z66 := Tryd.sizeOf86
  v66 := Tryd.zeroValue86
  t70 := Tryd.underlying90
  a70 := Tryd.isAgg90
  z70 := Tryd.sizeOf90
  v70 := Tryd.zeroValue90
  t76 := Tryd.underlying103
  a76 := Tryd.isAgg103
  z76 := Tryd.sizeOf103
  v76 := Tryd.zeroValue103
  t77 := Tryd.underlying104
  a77 := Tryd.isAgg104
  z77 := Tryd.sizeOf104
  v77 := Tryd.zeroValue104 }
end Go.Proofs

namespace Go.Proofs.YtomgpbhkoellpaaDoor.P
open Go.RowKit Go.Shelf Go.Lib Go.Sort Go.Proofs.YtomgpbhkoellpaaDoorW.PrintWords Go.Proofs.YtomgpbhkoellpaaDoorW.PrintLast Go.Proofs.YtomgpbhkoellpaaDoorW.PrintMore

/-- A span that is right. -/
abbrev SpanV := {x : S24 // spanB x}
instance : Inhabited SpanV := ⟨⟨⟨0, 1⟩, by unfold spanB; decide⟩⟩
def encV (x : SpanV) : List Value := [.int .i64 x.1.f0, .int .i64 x.1.f1]
def cmpV (x y : SpanV) : Int := x.1.f0 - y.1.f0
theorem ltV (x y : SpanV) : ltOf cmpV x y = decide (x.1.f0 < y.1.f0) := by
  unfold ltOf cmpV
  by_cases h : x.1.f0 < y.1.f0
  · rw [decide_eq_true h, decide_eq_true (by omega)]
  · rw [decide_eq_false h, decide_eq_false (by omega)]
theorem swoV : SWO (ltOf cmpV) where
  irrefl x := by rw [ltV]; simp
  trans x y z h1 h2 := by rw [ltV] at *; simp at *; omega
  ntrans x y z h1 h2 := by rw [ltV] at *; simp at *; omega

set_option maxHeartbeats 1000000 in
set_option maxRecDepth 100000 in
/-- Plus's comparison. -/
theorem cmp_calls (x y : SpanV) (W : World) : Calls Tryd.prog 31 (#[.agg (encV x).toArray, .agg (encV y).toArray] ++ #[]) W fun e w' => e = .returned (.int .i64 (cmpV x y)) ∧ ∃ q os', w' = grow (W.drewN q) os' := by
  unfold encV cmpV
  have hx := x.2
  have hy := y.2
  unfold spanB at hx hy
  obtain ⟨a, ha⟩ : ∃ a, x.1.f0 = a := ⟨_, rfl⟩
  obtain ⟨b, hb⟩ : ∃ a, y.1.f0 = a := ⟨_, rfl⟩
  have e1 : IntKind.i64.wrap (a - b) = a - b := by rw [IntKind.wrap_i64]; omega
  rw [ha, hb]
  obtain ⟨a', _⟩ : ∃ a, x.1.f1 = a := ⟨_, rfl⟩
  generalize x.1.f1 = a'
  generalize y.1.f1 = b'
  clear hx hy ha hb
  simp only [List.append_toArray, List.append_nil]
  go_enter Tryd.func31, Tryd.ntmps31
  go_wp2
  go_ret
  exact ⟨rfl, 0, _, by rw [alloc_eq_grow, alloc_eq_grow, grow_grow]; rfl⟩

theorem mapBlock_other (w : World) (blk k : Nat) (f : Array Value → Array Value) (h : k ≠ blk) : (mapBlock w blk f).heap[k]? = w.heap[k]? := by
  unfold mapBlock
  simp only [Array.getElem?_modify]
  rw [if_neg (fun e => h e.symm)]

theorem getD_val (L : List SpanV) (l : List S24) (hL : L.map Subtype.val = l) (q : Nat) (hq : q < l.length) : (L.toArray[q]!).1 = l.getD q z24 := by
  subst hL
  rw [List.length_map] at hq
  simp [List.getD_eq_getElem?_getD, List.getElem?_eq_getElem hq, hq]
theorem flat_get (L : List SpanV) (l : List S24) (hL : L.map Subtype.val = l) (t : Nat) (ht : t < l.length * 2) : (cellsB l)[t]? = some (flatK encV 2 L.toArray)[t]! := by
  have hsz : L.toArray.size = l.length := by subst hL; simp
  rw [get_flatK _ _ _ t (by rw [hsz]; exact ht)]
  obtain ⟨q, hq⟩ : ∃ q, t / 2 = q := ⟨_, rfl⟩
  have hg := cellsB_get l q (by omega)
  have hv := getD_val L l hL q (by omega)
  rw [hq]
  unfold encV
  rw [hv]
  rcases (by omega : t = q * 2 ∨ t = q * 2 + 1) with e | e
  · subst e
    rw [hg.1, show q * 2 % 2 = 0 by omega]
    rfl
  · subst e
    rw [hg.2, show (q * 2 + 1) % 2 = 1 by omega]
    rfl
theorem C_of_cells {w : World} {ad : Addr} {l : List S24} (hm : l.length ≤ 9223372036854775807) (h : ∀ t, t < l.length * 2 → w.cell? (ad.add t) = (cellsB l)[t]?) : Kd.C k24 w (some ad) l.length l :=
  ⟨rfl, hm, fun _ => ⟨ad, rfl, fun j p hj => by
    have hjl : j < l.length := (List.getElem?_eq_some_iff.1 hj).1
    have hg := cellsB_get l j hjl
    have hp : l.getD j z24 = p := by rw [List.getD_eq_getElem?_getD, hj]; rfl
    rw [hp] at hg
    refine ⟨_, rfl, k24_mk w p, fun i u hu => ?_⟩
    have e0 := h (j * 2) (by omega)
    have e1 := h (j * 2 + 1) (by omega)
    rw [hg.1] at e0
    rw [hg.2] at e1
    match i, hu with
    | 0, hu => cases hu; exact e0
    | 1, hu => cases hu; exact e1⟩⟩

/-- What the sort leaves: the same spans, by where they begin; all else below lies as it lay. -/
theorem sort_calls (n₀ : Nat) (v : Value) (l : List S24) (W : World) (hn : n₀ ≤ W.heap.size) (hR : Kd.R k24 24 W n₀ (fun _ => True) v l) (hl : ∀ x ∈ l, spanB x) (h0 : 0 < l.length) (hlen : l.length ≤ 2000) :
    Calls Tryd.prog 30 #[v, .func (.func 31) #[] #[]] W fun e W' => e = .returned (.tuple #[]) ∧ ∃ (A : Option Addr) (c : Nat) (d : List S24), v = .slice A d.length c ∧ d.length ≤ c ∧ Up d ∧ (∀ z, z ∈ d ↔ z ∈ l) ∧ d.length = l.length ∧ Kd.C k24 W' A d.length d ∧ Below n₀ W W' := by
  obtain ⟨L, hL⟩ : ∃ L : List SpanV, L.map Subtype.val = l := ⟨l.attachWith spanB hl, by simp⟩
  have hLl : L.length = l.length := by rw [← hL, List.length_map]
  obtain ⟨A, c, hv, hc, hC⟩ := Kd.R_reads hR
  obtain ⟨_, cells, hown, _⟩ := hR
  rcases hown.2 with ⟨_, hz⟩ | ⟨blk, cap, cur, hv2, hb, hbk, hcap, _⟩
  · omega
  · rw [hv2] at hv
    cases hv
    have hrd := cells_of_C hC
    rw [hv2] at hown
    have hblk : blk < W.heap.size := blk_lt hbk
    have hH : HoldsK encV 2 W blk 0 L.toArray := fun t ht => by
      rw [size_flatK, List.size_toArray, hLl] at ht
      refine ⟨?_, by rw [Nat.zero_add]; exact hown.frozenAt t⟩
      have := hrd t _ (flat_get L l hL t ht)
      rwa [Addr.add_lit] at this
    have hcon := AnyQ.slices_SortFunc Tryd.l30 2 Tryd.isAgg24 Tryd.sizeOf24 encV (fun _ => rfl) (fun x v hv => by simp [encV] at hv; rcases hv with rfl | rfl <;> rfl) cmpV swoV 31 #[] blk 0 c L.toArray W (enters_of Tryd.func31 (by kernel_rfl) rfl) (fun _ _ _ _ x y => cmp_calls x y _) hH hblk (by rw [List.size_toArray]; omega)
    rw [List.size_toArray, hLl] at hcon
    change Calls Tryd.prog 30 _ _ _ at hcon
    rw [hv2]
    refine hcon.mono ?_
    rintro e W' ⟨rfl, d', n, os, hp, hs, rfl⟩
    obtain ⟨p1, _, p3⟩ := hp
    have hsz : d'.size = l.length := by rw [p1, List.size_toArray, hLl]
    have hperm : d'.toList.Perm L := by
      have e1 : (d'.extract 0 l.length).toList = d'.toList := by rw [← hsz]; simp
      have e2 : (L.toArray.extract 0 l.length).toList = L := by rw [← hLl]; simp
      rwa [e1, e2] at p3
    have hH' := holdsK_sortWorldK encV 2 W blk 0 n L.toArray d' os hblk hH p1
    have hd : d'.toList.toArray = d' := by simp
    have hdl : (d'.toList.map Subtype.val).length = l.length := by simp [hsz]
    refine ⟨rfl, some ⟨blk, 0, none⟩, c, d'.toList.map Subtype.val, by rw [hdl], by rw [hdl]; exact hcap, ?_, ?_, by simp [hsz], ?_, ?_⟩
    · refine List.pairwise_iff_getElem.2 fun i j hi hj hij => ?_
      have hi' : i < d'.size := by simpa using hi
      have hj' : j < d'.size := by simpa using hj
      have := hs i j (by omega) hij (by omega)
      rw [ltV, getElem!_pos d' i hi', getElem!_pos d' j hj'] at this
      simp at this ⊢
      exact this
    · intro z
      rw [← hL]
      exact (hperm.map Subtype.val).mem_iff
    · refine C_of_cells (by simp; omega) fun t ht => ?_
      have ht' : t < d'.size * 2 := by simpa using ht
      have h1 := (hH' t (by rw [size_flatK]; exact ht')).1
      rw [Addr.add_lit, h1, flat_get d'.toList _ rfl t ht, hd]
      rfl
    · have hbw : ∀ k, k < n₀ → (sortWorldK encV 2 W blk 0 n d' os).heap[k]? = W.heap[k]? := fun k hk => by
        unfold sortWorldK
        rw [heap_grow_old _ _ (by rw [size_putRowK]; show k < W.heap.size; omega)]
        exact mapBlock_other _ _ _ _ (by omega)
      refine ⟨rfl, rfl, rfl, ?_, hbw⟩
      exact size_sortWorldK_c encV 2 W blk 0 n d' os

end Go.Proofs.YtomgpbhkoellpaaDoor.P
