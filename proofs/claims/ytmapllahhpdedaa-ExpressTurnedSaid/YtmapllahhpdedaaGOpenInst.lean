/- How an instance reads as an argument: its numbers, its name, its nodes and its matrix. -/
import Derived.Test.YtmapllahhpdedaaGOpen
import Derived.Test.YtmapllahhpdedaaPx0
namespace Go.Proofs.Ytmapllahhpdedaa
open Go.RowKit Go.ChangeShapes Go.WideShapes Go.Deep Go.Proofs.YtmapllahhpdedaaW.PrintWords
namespace Open
abbrev Node := P.S40
abbrev WfI (n : Int) : Prop := WfInt .i64 n
def WfNode (d : Node) : Prop := WfI d.f0 ∧ WfI d.f1 ∧ WfI d.f2 ∧ WfI d.f3 ∧ WfI d.f4 ∧ WfI d.f5 ∧ WfI d.f6

theorem cells_int : Try.prog.cellsOf 3 = 1 := by kernel_rfl
theorem opens_i64 : Opens Try.prog 3 (Kd.int .i64) WfI := opens_int Try.underlying3 cells_int
def WfStr (s : ByteArray) : Prop := s.size ≤ maxLen
theorem opens_str : Opens Try.prog 9 Kd.string WfStr := opens_string Try.underlying9 (by kernel_rfl)
theorem opens_node : Opens Try.prog 40 P.k40 WfNode :=
  opens_struct (fun x : Node => (x.f0, x.f1, x.f2, x.f3, x.f4, x.f5, x.f6)) (fun p => ⟨p.1, p.2.1, p.2.2.1, p.2.2.2.1, p.2.2.2.2.1, p.2.2.2.2.2.1, p.2.2.2.2.2.2⟩) (fun _ => rfl) Try.underlying40 (by kernel_rfl)
    (fs_cons rfl opens_i64 (fs_cons rfl opens_i64 (fs_cons rfl opens_i64 (fs_cons rfl opens_i64 (fs_cons rfl opens_i64 (fs_cons rfl opens_i64 (fs_one rfl opens_i64)))))))
theorem opens_nodes : Opens Try.prog 22 (Kd.slice 40 P.k40) (WfRow WfNode) := opens_slice Try.underlying22 (by kernel_rfl) opens_node
theorem opens_ints : Opens Try.prog 23 (Kd.slice 3 (Kd.int .i64)) (WfRow WfI) := opens_slice Try.underlying23 (by kernel_rfl) opens_i64
abbrev Tup := ByteArray × Int × Int × Int × Int × Int × List Node × List Int
def WfTup (x : Tup) : Prop := WfStr x.1 ∧ WfI x.2.1 ∧ WfI x.2.2.1 ∧ WfI x.2.2.2.1 ∧ WfI x.2.2.2.2.1 ∧ WfI x.2.2.2.2.2.1 ∧ WfRow WfNode x.2.2.2.2.2.2.1 ∧ WfRow WfI x.2.2.2.2.2.2.2
def kTup : Kd Tup := Kd.iso (Kd.pair Kd.string (Kd.pair (Kd.int .i64) (Kd.pair (Kd.int .i64) (Kd.pair (Kd.int .i64) (Kd.pair (Kd.int .i64) (Kd.pair (Kd.int .i64) (Kd.pair (Kd.slice 40 P.k40) (Kd.slice 3 (Kd.int .i64))))))))) (fun x : Tup => (x.1, x.2.1, x.2.2.1, x.2.2.2.1, x.2.2.2.2.1, x.2.2.2.2.2.1, x.2.2.2.2.2.2.1, x.2.2.2.2.2.2.2))
theorem opens_inst : Opens Try.prog 25 kTup WfTup :=
  opens_struct (fun x : Tup => (x.1, x.2.1, x.2.2.1, x.2.2.2.1, x.2.2.2.2.1, x.2.2.2.2.2.1, x.2.2.2.2.2.2.1, x.2.2.2.2.2.2.2)) (fun x => (x.1, x.2.1, x.2.2.1, x.2.2.2.1, x.2.2.2.2.1, x.2.2.2.2.2.1, x.2.2.2.2.2.2.1, x.2.2.2.2.2.2.2)) (fun _ => rfl) Try.underlying25 (by kernel_rfl)
    (fs_cons rfl opens_str (fs_cons rfl opens_i64 (fs_cons rfl opens_i64 (fs_cons rfl opens_i64 (fs_cons rfl opens_i64 (fs_cons rfl opens_i64 (fs_cons rfl opens_nodes (fs_one rfl opens_ints))))))))

/-- What an instance that came in is. -/
structure InstGood (name : ByteArray) (kind metric scale cap fleet : Int) (nodes : List Node) (matrix : List Int) : Prop where
  name : name.size ≤ maxLen
  kind : WfI kind
  metric : WfI metric
  scale : WfI scale
  cap : WfI cap
  fleet : WfI fleet
  nodes : WfRow WfNode nodes
  matrix : WfRow WfI matrix
theorem open_inst {H : Type} {enc : TypeId × Value → H} {w : World} {r : Reach} {b0 : Nat} {v : Value} {x : DataW H} {p : List MemPlace} (hok : Value.okWide Try.prog w r b0 25 v) (hv : DataW.Trod enc Try.prog w 0 (fun _ => true) true 25 v x p) :
    ∃ (name : ByteArray) (kind metric scale cap fleet : Int) (nodes : List Node) (matrix : List Int) (A : Option Addr) (c : Nat) (A' : Option Addr) (c' : Nat),
      v = .agg #[.string name, .int .i64 kind, .int .i64 metric, .int .i64 scale, .int .i64 cap, .int .i64 fleet, .slice A nodes.length c, .slice A' matrix.length c'] ∧
      Kd.C P.k40 w A nodes.length nodes ∧ nodes.length ≤ c ∧ Kd.C (Kd.int .i64) w A' matrix.length matrix ∧ matrix.length ≤ c' ∧ InstGood name kind metric scale cap fleet nodes matrix := by
  obtain ⟨a, hK, h1, h2, h3, h4, h5, h6, h7, h8⟩ := opens_arg opens_inst hv
  obtain ⟨cs, rfl, _⟩ := okWide_struct Try.underlying25 hok
  obtain ⟨_, _, e1, rfl, _, _, rfl, rfl, _, _, rfl, rfl, _, _, rfl, rfl, _, _, rfl, rfl, _, _, rfl, rfl, _, _, rfl, ⟨A, c, rfl, g1, g2⟩, ⟨A', c', rfl, g3, g4⟩⟩ := hK
  refine ⟨_, _, _, _, _, _, _, _, A, c, A', c', ?_, g2, g1, g4, g3, ⟨h1, h2, h3, h4, h5, h6, h7, h8⟩⟩
  have e2 : cs.toList = _ := e1
  rw [← Array.toArray_toList (xs := cs), e2]
  rfl
end Open
end Go.Proofs.Ytmapllahhpdedaa
