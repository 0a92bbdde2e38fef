/- slices.Sort at []int64: the kit's contract, laid at this program. Conditions: none. -/
import Derived.Test.YtjpifknencfipaaDoorE64w
import Derived.Shelf.SortM.Plain
import Derived.Shelf.SortM.SortNone
import Derived.Shelf.SlGeneric
import Derived.Ground.SlgmProg
set_option linter.unusedVariables false
namespace Go.Proofs
open Go.RowKit Go.Sort Go.Shelf Go.Proofs.YtjpifknencfipaaDoorW.PrintWords Go.Proofs.YtjpifknencfipaaDoorW.PrintLast Go.Proofs.YtjpifknencfipaaDoorW.PrintMore
def Tryd.sort90_ren : Go.Shelf.Ren := ⟨fun | 5 => 90 | 8 => 107 | 7 => 106 | 19 => 124 | 20 => 125 | 10 => 115 | 11 => 116 | 12 => 117 | 13 => 118 | 14 => 119 | 15 => 120 | 16 => 121 | 17 => 122 | 18 => 123 | 30 => 126 | 31 => 127 | 32 => 128 | 33 => 129 | 34 => 130 | 35 => 131 | 40 => 132 | n => n, fun | 23 => 38 | 25 => 2 | 3 => 3 | 32 => 146 | 22 => 38 | 0 => 0 | 44 => 164 | 46 => 166 | 4 => 4 | 36 => 157 | 35 => 156 | 41 => 133 | 5 => 5 | 9 => 9 | 53 => 178 | 57 => 182 | 63 => 184 | 64 => 121 | n => n, fun | n => n⟩
theorem Tryd.sort90 : Go.Proofs.SlLaysM.n5 Tryd.prog Tryd.sort90_ren := {
  mixed := by kernel_rfl
  f5 := ⟨Tryd.f90.name, by decide, Tryd.func90.trans (congrArg some (by kernel_rfl))⟩
  f7 := ⟨Tryd.f106.name, by decide, Tryd.func106.trans (congrArg some (by kernel_rfl))⟩
  f8 := Tryd.func107.trans (congrArg some (by kernel_rfl))
  f10 := ⟨Tryd.f115.name, by decide, Tryd.func115.trans (congrArg some (by kernel_rfl))⟩
  f11 := ⟨Tryd.f116.name, by decide, Tryd.func116.trans (congrArg some (by kernel_rfl))⟩
  f12 := ⟨Tryd.f117.name, by decide, Tryd.func117.trans (congrArg some (by kernel_rfl))⟩
  f13 := ⟨Tryd.f118.name, by decide, Tryd.func118.trans (congrArg some (by kernel_rfl))⟩
  f14 := ⟨Tryd.f119.name, by decide, Tryd.func119.trans (congrArg some (by kernel_rfl))⟩
  f15 := ⟨Tryd.f120.name, by decide, Tryd.func120.trans (congrArg some (by kernel_rfl))⟩
  f16 := ⟨Tryd.f121.name, by decide, Tryd.func121.trans (congrArg some (by kernel_rfl))⟩
  f17 := ⟨Tryd.f122.name, by decide, Tryd.func122.trans (congrArg some (by kernel_rfl))⟩
  f18 := ⟨Tryd.f123.name, by decide, Tryd.func123.trans (congrArg some (by kernel_rfl))⟩
  f19 := Tryd.func124.trans (congrArg some (by kernel_rfl))
  f20 := Tryd.func125.trans (congrArg some (by kernel_rfl))
  f30 := ⟨Tryd.f126.name, by decide, Tryd.func126.trans (congrArg some (by kernel_rfl))⟩
  f31 := Tryd.func127.trans (congrArg some (by kernel_rfl))
  f32 := Tryd.func128.trans (congrArg some (by kernel_rfl))
  f33 := ⟨Tryd.f129.name, by decide, Tryd.func129.trans (congrArg some (by kernel_rfl))⟩
  f34 := ⟨Tryd.f130.name, by decide, Tryd.func130.trans (congrArg some (by kernel_rfl))⟩
  f35 := ⟨Tryd.f131.name, by decide, Tryd.func131.trans (congrArg some (by kernel_rfl))⟩
  f40 := ⟨Tryd.f132.name, by decide, Tryd.func132.trans (congrArg some (by kernel_rfl))⟩
  t0 := Tryd.underlying0
  a0 := Tryd.isAgg0
  z0 := Tryd.sizeOf0
  v0 := Tryd.zeroValue0
  t3 := Tryd.underlying3
  a3 := Tryd.isAgg3
  z3 := Tryd.sizeOf3
  v3 := Tryd.zeroValue3
  t4 := Tryd.underlying4
  a4 := Tryd.isAgg4
  z4 := Tryd.sizeOf4
  v4 := Tryd.zeroValue4
  t5 := Tryd.underlying5
  a5 := Tryd.isAgg5
  z5 := Tryd.sizeOf5
  v5 := Tryd.zeroValue5
  t9 := Tryd.underlying9
  a9 := Tryd.isAgg9
  z9 := Tryd.sizeOf9
  v9 := Tryd.zeroValue9
  t22 := Tryd.underlying38
  a22 := Tryd.isAgg38
  z22 := Tryd.sizeOf38
  v22 := Tryd.zeroValue38
  t23 := Tryd.underlying38
  a23 := Tryd.isAgg38
  z23 := Tryd.sizeOf38
  v23 := Tryd.zeroValue38
  t25 := Tryd.underlying2
  a25 := Tryd.isAgg2
  z25 := Tryd.sizeOf2
  v25 := Tryd.zeroValue2
  t32 := Tryd.underlying146
  a32 := Tryd.isAgg146
  z32 := Tryd.sizeOf146
  v32 := Tryd.zeroValue146
  t35 := Tryd.underlying156
  a35 := Tryd.isAgg156
  z35 := Tryd.sizeOf156
  v35 := Tryd.zeroValue156
  t36 := Tryd.underlying157
  a36 := Tryd.isAgg157
  z36 := Tryd.sizeOf157
  v36 := Tryd.zeroValue157
  t41 := Tryd.underlying133
  a41 := Tryd.isAgg133
  z41 := Tryd.sizeOf133
  v41 := Tryd.zeroValue133
  t44 := Tryd.underlying164
  a44 := Tryd.isAgg164
  z44 := Tryd.sizeOf164
  v44 := Tryd.zeroValue164
  t46 := Tryd.underlying166
  a46 := Tryd.isAgg166
  z46 := Tryd.sizeOf166
  v46 := Tryd.zeroValue166
  t53 := Tryd.underlying178
  a53 := Tryd.isAgg178
  z53 := Tryd.sizeOf178
  v53 := Tryd.zeroValue178
  t57 := Tryd.underlying182
  a57 := Tryd.isAgg182
  z57 := Tryd.sizeOf182
  v57 := Tryd.zeroValue182
  t63 := Tryd.underlying184
  a63 := Tryd.isAgg184
  z63 := Tryd.sizeOf184
  v63 := Tryd.zeroValue184
  t64 := Tryd.underlying121
  a64 := Tryd.isAgg121
  z64 := Tryd.sizeOf121
  v64 := Tryd.zeroValue121 }
namespace YtjpifknencfipaaDoor.P
theorem sortI : SortI := ⟨fun blk off cap zs w hH hb hl => AnyM.slices_Sort_int Tryd.sort90 blk off cap zs w hH hb hl, fun p cap w => AnyM.slices_Sort_int_none Tryd.sort90 p cap w⟩

theorem fill_Heights.calls (A0 : Option Addr) (c0 : Nat) (l0 : List (S32)) (r1 : List Int) (r2 : Int) (w : World) (hr0 : Kd.C k32 w A0 l0.length l0) (hc0 : l0.length ≤ c0) (hG : Gl 1 w) (h : fill_Heights.f l0 = some (r1, r2)) :
    Calls Tryd.prog 64 #[.slice A0 l0.length c0] w fun e w' => ∃ v0_ : Value, e = .returned (.tuple #[v0_, .int .i64 r2]) ∧ Kd.R (Kd.int .i64) 2 w' w.heap.size (fun _ => True) v0_ r1 ∧ Below w.heap.size w w' := by
  unfold fill_Heights.f at h
  split at h
  · next hf =>
    cases h
    refine (heights_yes sortI A0 c0 l0 w hr0 hc0 hf.1 hf.2).mono ?_
    rintro e w' ⟨v, rfl, ho, hb⟩
    exact ⟨v, rfl, Kd.R_of_own ho (fun _ _ => trivial), hb⟩
  · next hf =>
    cases h
    refine (heights_no A0 c0 l0 w hr0 hc0 hG hf).mono ?_
    rintro e w' ⟨rfl, hb⟩
    exact ⟨_, rfl, Kd.R_nil _ _ _ _ _, hb⟩
end YtjpifknencfipaaDoor.P
end Go.Proofs
