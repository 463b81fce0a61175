/- How a row of ints reads as an argument. -/
import Derived.Test.YtdgdhmglcpkkiaaDoorGOpen
import Derived.Test.YtdgdhmglcpkkiaaDoorPx0
namespace Go.Proofs.YtdgdhmglcpkkiaaDoor
open Go.RowKit Go.ChangeShapes Go.WideShapes Go.Deep Go.Proofs.YtdgdhmglcpkkiaaDoorW.PrintWords
namespace Open
namespace Plan
theorem cells_int : Tryd.prog.cellsOf 3 = 1 := by kernel_rfl
theorem opens_i64 : Opens Tryd.prog 3 (Kd.int .i64) (WfInt .i64) := opens_int Tryd.underlying3 cells_int
theorem opens_row : Opens Tryd.prog 22 (Kd.slice 3 (Kd.int .i64)) (WfRow (WfInt .i64)) := opens_slice Tryd.underlying22 (by kernel_rfl) opens_i64
end Plan
abbrev Plan.WfI (n : Int) : Prop := WfInt .i64 n
theorem open_row {H : Type} {enc : TypeId × Value → H} {w : World} {r : Reach} {b0 : Nat} {v : Value} {x : DataW H} {p : List MemPlace} (hok : Value.okWide Tryd.prog w r b0 22 v) (hv : DataW.Trod enc Tryd.prog w 0 (fun _ => true) true 22 v x p) :
    ∃ (l : List Int) (A : Option Addr) (c : Nat), v = .slice A l.length c ∧ Kd.C (Kd.int .i64) w A l.length l ∧ l.length ≤ c ∧ WfRow (WfInt .i64) l := by
  obtain ⟨a, hK, h1⟩ := opens_arg Plan.opens_row hv
  obtain ⟨a0, n0, c0, rfl⟩ := okWide_slice Tryd.underlying22 hok
  obtain ⟨A, c, e1, g1, g2⟩ := hK
  have e2 : [Value.slice a0 n0 c0] = [Value.slice A a.length c] := e1
  injection e2 with e3
  injection e3 with e4 e5 e6
  subst e4 e5 e6
  exact ⟨a, _, _, rfl, g2, g1, h1⟩
end Open
end Go.Proofs.YtdgdhmglcpkkiaaDoor
