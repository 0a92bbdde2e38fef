/- slices.Sort at []int64: the kit's contract, laid at this program. Conditions: none. -/
import Derived.Test.YtjpifknencfipaaDoorE64w
import Derived.Shelf.SortM.Plain
import Derived.Shelf.SortM.SortNone
import Derived.Shelf.Lay
import Derived.Ground.SlgmProg
set_option linter.unusedVariables false
namespace Go.Proofs
open Go.RowKit Go.Sort Go.Shelf Go.Proofs.YtjpifknencfipaaDoorW.PrintWords Go.Proofs.YtjpifknencfipaaDoorW.PrintLast Go.Proofs.YtjpifknencfipaaDoorW.PrintMore
shelf_lay_g SlLaysM.n5 Slgm 5 at Tryd 90 as Tryd.sort90
namespace YtjpifknencfipaaDoor.P
theorem sortI : SortI := ⟨fun blk off cap zs w hH hb hl => AnyM.slices_Sort_int Tryd.sort90 blk off cap zs w hH hb hl, fun p cap w => AnyM.slices_Sort_int_none Tryd.sort90 p cap w⟩

theorem fill_Heights.calls (A0 : Option Addr) (c0 : Nat) (l0 : List (S32)) (r1 : List Int) (r2 : Int) (w : World) (hr0 : Kd.C k32 w A0 l0.length l0) (hc0 : l0.length ≤ c0) (hG : Gl 1 w) (h : fill_Heights.f l0 = some (r1, r2)) :
    Calls Tryd.prog 64 #[.slice A0 l0.length c0] w fun e w' => ∃ v0_ : Value, e = .returned (.tuple #[v0_, .int .i64 r2]) ∧ Kd.R (Kd.int .i64) 2 w' w.heap.size (fun _ => True) v0_ r1 ∧ Below w.heap.size w w' := by
  unfold fill_Heights.f at h
  split at h
  · next hf =>
    cases h
    refine (heights_yes sortI A0 c0 l0 w hr0 hc0 hf.1 hf.2).mono ?_
    rintro e w' ⟨v, rfl, ho, hb⟩
    exact ⟨v, rfl, Kd.R_of_own ho (fun _ _ => trivial), hb⟩
  · next hf =>
    cases h
    refine (heights_no A0 c0 l0 w hr0 hc0 hG hf).mono ?_
    rintro e w' ⟨rfl, hb⟩
    exact ⟨_, rfl, Kd.R_nil _ _ _ _ _, hb⟩
end YtjpifknencfipaaDoor.P
end Go.Proofs
