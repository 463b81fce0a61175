/- layout.Pack where it refuses: the walks; and the word that callers use. -/
import Derived.Test.YtdgdhmglcpkkiaaDoorGPack
import Derived.Test.YtdgdhmglcpkkiaaDoorGKeyword7
set_option linter.unusedVariables false
set_option linter.unusedSimpArgs false
namespace Go.Proofs.YtdgdhmglcpkkiaaDoor
open Go.RowKit
namespace LayWalk
open Go.RowKit Go.Proofs.YtdgdhmglcpkkiaaDoorW.PrintWords Go.Proofs.YtdgdhmglcpkkiaaDoorW.PrintLast Go.Proofs.YtdgdhmglcpkkiaaDoorW.PrintMore P KeyWalk
set_option maxRecDepth 100000 in
set_option maxHeartbeats 4000000 in
theorem pack_may (A : Option Addr) (cap : Nat) (a0 a1 : Int) (m : List Int) (w : World) (ht : Tab w) (hmay : layout_may.f a0 a1 = some false) :
    Calls Tryd.prog 13 #[.int .i64 a0, .int .i64 a1, .slice A m.length cap] w fun e w' => e = .returned (.tuple #[.slice none 0 0, .int .i64 1]) ∧ Below w.heap.size w w' := by
  have HM := Lib.hid hmay
  clear hmay
  have hB0 : Below w.heap.size w (((w.alloc (.cells #[.int .i64 a1] 3)).alloc (.cells #[.slice A m.length cap] 22)).alloc (.cells #[.slice none 0 0] 22)) :=
    (((Below.refl _ w).alloc (Nat.le_refl _) _).alloc (by simp) _).alloc (by simp; omega) _
  have bL0 := Boxed.new ((w.alloc (.cells #[.int .i64 a1] 3)).alloc (.cells #[.slice A m.length cap] 22)) 22 (.slice none 0 0)
  simp only [World.size_alloc] at bL0
  go_enter Tryd.func13, Tryd.ntmps13
  go_wp2_with fail
  refine (layout_may.calls a0 a1 false _ (tab_below ht hB0) HM.out).mono ?_
  rintro e w1 ⟨rfl, hb1⟩
  have hB1 := hB0.trans (hb1.mono hB0.size)
  have bL1 : Boxed w1 _ _ _ := (hb1.block _ bL0.lt).trans bL0
  clear hb1 bL0 hB0
  have cL := bL1.cell
  have fL := bL1.frozen
  go_wp2
  have c2 := (bL1.set (.slice none 0 0)).cell
  have hBe := hB1.setCell (p := ⟨w.heap.size + 1 + 1, 0, none⟩) (show w.heap.size ≤ w.heap.size + 1 + 1 by omega) (.slice none 0 0)
  refine ⟨rfl, .tuple #[.slice none 0 0, .int .i64 1], ?_, rfl, hBe⟩
  simp [results, Tryd.f13, go_sem, c2]
/-- A matrix of another size. -/
theorem pack_size (A : Option Addr) (cap : Nat) (a0 a1 : Int) (m : List Int) (w : World) (ht : Tab w) (hn : 1 ≤ a1 ∧ a1 ≤ 400) (hmay : layout_may.f a0 a1 = some true) (hl : (m.length : Int) ≠ a1 * a1) :
    Calls Tryd.prog 13 #[.int .i64 a0, .int .i64 a1, .slice A m.length cap] w fun e w' => e = .returned (.tuple #[.slice none 0 0, .int .i64 70]) ∧ Below w.heap.size w w' := by
  have HM := Lib.hid hmay
  have HW := Lib.hid (show wrap64 (a1 * a1) = a1 * a1 by
    obtain ⟨k, rfl⟩ : ∃ k : Nat, a1 = (k : Int) := ⟨a1.toNat, by omega⟩
    have : k * k ≤ 400 * 400 := Nat.mul_le_mul (by omega) (by omega)
    rw [← Int.natCast_mul]; unfold wrap64; omega)
  obtain ⟨q, hq⟩ : ∃ q, wrap64 (a1 * a1) = q := ⟨_, rfl⟩
  have hqw : IntKind.i64.wrap (a1 * a1) = q := (i64_w _).trans hq
  have hne : ((m.length : Int) != q) = true := bne_iff_ne.mpr (by rw [← hq, HW.out]; exact hl)
  clear hmay hl hn HW
  have hB0 : Below w.heap.size w (((w.alloc (.cells #[.int .i64 a1] 3)).alloc (.cells #[.slice A m.length cap] 22)).alloc (.cells #[.slice none 0 0] 22)) :=
    (((Below.refl _ w).alloc (Nat.le_refl _) _).alloc (by simp) _).alloc (by simp; omega) _
  have bN0 := ((Boxed.new w 3 (.int .i64 a1)).alloc (.cells #[.slice A m.length cap] 22)).alloc (.cells #[.slice none 0 0] 22)
  have bM0 := (Boxed.new (w.alloc (.cells #[.int .i64 a1] 3)) 22 (.slice A m.length cap)).alloc (.cells #[.slice none 0 0] 22)
  have bL0 := Boxed.new ((w.alloc (.cells #[.int .i64 a1] 3)).alloc (.cells #[.slice A m.length cap] 22)) 22 (.slice none 0 0)
  simp only [World.size_alloc] at bL0 bM0
  go_enter Tryd.func13, Tryd.ntmps13
  go_wp2_with fail
  refine (layout_may.calls a0 a1 true _ (tab_below ht hB0) HM.out).mono ?_
  rintro e w1 ⟨rfl, hb1⟩
  have hB1 := hB0.trans (hb1.mono hB0.size)
  have bN1 : Boxed w1 _ _ _ := (hb1.block _ bN0.lt).trans bN0
  have bM1 : Boxed w1 _ _ _ := (hb1.block _ bM0.lt).trans bM0
  have bL1 : Boxed w1 _ _ _ := (hb1.block _ bL0.lt).trans bL0
  clear hb1 bN0 bM0 bL0 hB0
  have cN := bN1.cell
  have cM := bM1.cell
  have cL := bL1.cell
  have fL := bL1.frozen
  go_wp2
  have c2 := (bL1.set (.slice none 0 0)).cell
  have hBe := hB1.setCell (p := ⟨w.heap.size + 1 + 1, 0, none⟩) (show w.heap.size ≤ w.heap.size + 1 + 1 by omega) (.slice none 0 0)
  refine ⟨rfl, .tuple #[.slice none 0 0, .int .i64 70], ?_, rfl, hBe⟩
  simp [results, Tryd.f13, go_sem, c2]
/-- A matrix that does not fit. -/
theorem pack_unfit (A : Option Addr) (cap : Nat) (a0 a1 : Int) (m : List Int) (kf : Nat) (w : World) (ht : Tab w) (hmay : layout_may.f a0 a1 = some true) (hfit : layout_fits.f kf a0 a1 m = some false) (hl : (m.length : Int) = wrap64 (a1 * a1))
    (hC : Kd.C (Kd.int .i64) w A m.length m) (hc : m.length ≤ cap) :
    Calls Tryd.prog 13 #[.int .i64 a0, .int .i64 a1, .slice A m.length cap] w fun e w' => e = .returned (.tuple #[.slice none 0 0, .int .i64 70]) ∧ Below w.heap.size w w' := by
  have HM := Lib.hid hmay
  have HF := Lib.hid hfit
  obtain ⟨q, hq⟩ : ∃ q, wrap64 (a1 * a1) = q := ⟨_, rfl⟩
  have hqw : IntKind.i64.wrap (a1 * a1) = q := (i64_w _).trans hq
  have hne : ((m.length : Int) != q) = false := bne_eq_false_iff_eq.mpr (by rw [← hq]; exact hl)
  clear hmay hfit hl
  have hB0 : Below w.heap.size w (((w.alloc (.cells #[.int .i64 a1] 3)).alloc (.cells #[.slice A m.length cap] 22)).alloc (.cells #[.slice none 0 0] 22)) :=
    (((Below.refl _ w).alloc (Nat.le_refl _) _).alloc (by simp) _).alloc (by simp; omega) _
  have bN0 := ((Boxed.new w 3 (.int .i64 a1)).alloc (.cells #[.slice A m.length cap] 22)).alloc (.cells #[.slice none 0 0] 22)
  have bM0 := (Boxed.new (w.alloc (.cells #[.int .i64 a1] 3)) 22 (.slice A m.length cap)).alloc (.cells #[.slice none 0 0] 22)
  have bL0 := Boxed.new ((w.alloc (.cells #[.int .i64 a1] 3)).alloc (.cells #[.slice A m.length cap] 22)) 22 (.slice none 0 0)
  simp only [World.size_alloc] at bL0 bM0
  go_enter Tryd.func13, Tryd.ntmps13
  go_wp2_with fail
  refine (layout_may.calls a0 a1 true _ (tab_below ht hB0) HM.out).mono ?_
  rintro e w1 ⟨rfl, hb1⟩
  have hB1 := hB0.trans (hb1.mono hB0.size)
  have bN1 : Boxed w1 _ _ _ := (hb1.block _ bN0.lt).trans bN0
  have bM1 : Boxed w1 _ _ _ := (hb1.block _ bM0.lt).trans bM0
  have bL1 : Boxed w1 _ _ _ := (hb1.block _ bL0.lt).trans bL0
  clear hb1 bN0 bM0 bL0 hB0
  have cN := bN1.cell
  have cM := bM1.cell
  go_wp2_with fail
  refine (layout_fits.calls kf a0 a1 A cap m false w1 (Kd.C_below hC hB1) hc (tab_below ht hB1) HF.out).mono ?_
  rintro e w2 ⟨rfl, hb2⟩
  have hB2 := hB1.trans (hb2.mono hB1.size)
  have bL2 : Boxed w2 _ _ _ := (hb2.block _ bL1.lt).trans bL1
  clear hb2 bN1 bM1 bL1 hB1 cN cM
  have cL := bL2.cell
  have fL := bL2.frozen
  go_wp2
  have c2 := (bL2.set (.slice none 0 0)).cell
  have hBe := hB2.setCell (p := ⟨w.heap.size + 1 + 1, 0, none⟩) (show w.heap.size ≤ w.heap.size + 1 + 1 by omega) (.slice none 0 0)
  refine ⟨rfl, .tuple #[.slice none 0 0, .int .i64 70], ?_, rfl, hBe⟩
  simp [results, Tryd.f13, go_sem, c2]
end LayWalk
end Go.Proofs.YtdgdhmglcpkkiaaDoor
