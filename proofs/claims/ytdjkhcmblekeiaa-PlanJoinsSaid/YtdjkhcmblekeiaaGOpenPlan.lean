/- How a plan, and a row of ints, read as arguments. -/
import Derived.Test.YtdjkhcmblekeiaaGOpen
import Derived.Test.YtdjkhcmblekeiaaPx0
namespace Go.Proofs.Ytdjkhcmblekeiaa
open Go.RowKit Go.ChangeShapes Go.WideShapes Go.Deep Go.Proofs.YtdjkhcmblekeiaaW.PrintWords
namespace Open
namespace Plan
theorem cells_int : Try.prog.cellsOf 3 = 1 := by kernel_rfl
theorem opens_i64 : Opens Try.prog 3 (Kd.int .i64) (WfInt .i64) := opens_int Try.underlying3 cells_int
theorem opens_row : Opens Try.prog 33 (Kd.slice 3 (Kd.int .i64)) (WfRow (WfInt .i64)) := opens_slice Try.underlying33 (by kernel_rfl) opens_i64
theorem opens_rows : Opens Try.prog 22 (Kd.slice 33 (Kd.slice 3 (Kd.int .i64))) (WfRow (WfRow (WfInt .i64))) := opens_slice Try.underlying22 (by kernel_rfl) opens_row
theorem opens_plan : Opens Try.prog 24 (Kd.iso (Kd.slice 33 (Kd.slice 3 (Kd.int .i64))) (fun x : List (List Int) => x)) (WfRow (WfRow (WfInt .i64))) :=
  opens_struct (fun x : List (List Int) => x) (fun x => x) (fun _ => rfl) Try.underlying24 (by kernel_rfl) (fs_one rfl opens_rows)
end Plan
abbrev Plan.WfI (n : Int) : Prop := WfInt .i64 n
abbrev PlanGood (rs : List (List Int)) : Prop := WfRow (WfRow (WfInt .i64)) rs
theorem open_plan {H : Type} {enc : TypeId × Value → H} {w : World} {r : Reach} {b0 : Nat} {v : Value} {x : DataW H} {p : List MemPlace} (hok : Value.okWide Try.prog w r b0 24 v) (hv : DataW.Trod enc Try.prog w 0 (fun _ => true) true 24 v x p) :
    ∃ (rs : List (List Int)) (A : Option Addr) (c : Nat), v = .agg #[.slice A rs.length c] ∧ Kd.C (Kd.slice 3 (Kd.int .i64)) w A rs.length rs ∧ rs.length ≤ c ∧ PlanGood rs := by
  obtain ⟨a, hK, h1⟩ := opens_arg Plan.opens_plan hv
  obtain ⟨cs, rfl, _⟩ := okWide_struct Try.underlying24 hok
  obtain ⟨A, c, e1, g1, g2⟩ := hK
  refine ⟨a, A, c, ?_, g2, g1, h1⟩
  have e2 : cs.toList = _ := e1
  rw [← Array.toArray_toList (xs := cs), e2]
theorem open_row {H : Type} {enc : TypeId × Value → H} {w : World} {r : Reach} {b0 : Nat} {v : Value} {x : DataW H} {p : List MemPlace} (hok : Value.okWide Try.prog w r b0 33 v) (hv : DataW.Trod enc Try.prog w 0 (fun _ => true) true 33 v x p) :
    ∃ (l : List Int) (A : Option Addr) (c : Nat), v = .slice A l.length c ∧ Kd.C (Kd.int .i64) w A l.length l ∧ l.length ≤ c ∧ WfRow (WfInt .i64) l := by
  obtain ⟨a, hK, h1⟩ := opens_arg Plan.opens_row hv
  obtain ⟨a0, n0, c0, rfl⟩ := okWide_slice Try.underlying33 hok
  obtain ⟨A, c, e1, g1, g2⟩ := hK
  have e2 : [Value.slice a0 n0 c0] = [Value.slice A a.length c] := e1
  injection e2 with e3
  injection e3 with e4 e5 e6
  subst e4 e5 e6
  exact ⟨a, _, _, rfl, g2, g1, h1⟩
end Open
end Go.Proofs.Ytdjkhcmblekeiaa
