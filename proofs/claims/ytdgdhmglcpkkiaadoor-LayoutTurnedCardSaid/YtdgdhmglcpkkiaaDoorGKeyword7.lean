/- layout.Keyword: its walk. -/
import Derived.Test.YtdgdhmglcpkkiaaDoorShelf
import Derived.Test.YtdgdhmglcpkkiaaDoorGTab
import Derived.Test.YtdgdhmglcpkkiaaDoorGBlk
import Derived.Lib.Hide
namespace Go.Proofs.YtdgdhmglcpkkiaaDoor
open Go.RowKit Go.Proofs.YtdgdhmglcpkkiaaDoorW.PrintWords Go.Proofs.YtdgdhmglcpkkiaaDoorW.PrintLast Go.Proofs.YtdgdhmglcpkkiaaDoorW.PrintMore
set_option linter.unusedVariables false
set_option linter.unusedSimpArgs false
namespace KeyWalk
def text : ByteArray := ⟨([45, 32, 70, 85, 76, 76, 95, 77, 65, 84, 82, 73, 88, 32, 85, 80, 80, 69, 82, 95, 82, 79, 87, 32, 76, 79, 87, 69, 82, 95, 82, 79, 87, 32, 85, 80, 80, 69, 82, 95, 68].append [73, 65, 71, 95, 82, 79, 87, 32, 76, 79, 87, 69, 82, 95, 68, 73, 65, 71, 95, 82, 79, 87, 32, 85, 80, 80, 69, 82, 95, 67, 79, 76, 32, 76, 79, 87, 69, 82, 95, 67, 79, 76]).toArray⟩
def kwAt : Nat → ByteArray
  | 0 => ⟨#[45]⟩
  | 1 => ⟨#[70, 85, 76, 76, 95, 77, 65, 84, 82, 73, 88]⟩
  | 2 => ⟨#[85, 80, 80, 69, 82, 95, 82, 79, 87]⟩
  | 3 => ⟨#[76, 79, 87, 69, 82, 95, 82, 79, 87]⟩
  | 4 => ⟨#[85, 80, 80, 69, 82, 95, 68, 73, 65, 71, 95, 82, 79, 87]⟩
  | 5 => ⟨#[76, 79, 87, 69, 82, 95, 68, 73, 65, 71, 95, 82, 79, 87]⟩
  | 6 => ⟨#[85, 80, 80, 69, 82, 95, 67, 79, 76]⟩
  | _ => ⟨#[76, 79, 87, 69, 82, 95, 67, 79, 76]⟩
theorem fields_text : Lib.fields text.data.toList = [(kwAt 0).data.toList, (kwAt 1).data.toList, (kwAt 2).data.toList, (kwAt 3).data.toList, (kwAt 4).data.toList, (kwAt 5).data.toList, (kwAt 6).data.toList, (kwAt 7).data.toList] := by decide +kernel
def rowO : Obj := .cells #[.string (kwAt 0), .string (kwAt 1), .string (kwAt 2), .string (kwAt 3), .string (kwAt 4), .string (kwAt 5), .string (kwAt 6), .string (kwAt 7)] 9 (0, 0)
theorem fields_c (w : World) (ht : Tab w) : Calls Tryd.prog 29 #[.string text] w fun e w' => e = .returned (.slice (some ⟨w.heap.size, 0, none⟩) 8 8) ∧ w' = w.alloc rowO := by
  have h := Tryd.strings_Fields text w (by decide +kernel) (by
    intro j b hj
    have : ∀ b ∈ text.data.toList, b.toNat < 128 := by decide +kernel
    exact this b (List.mem_of_getElem? hj)) ht
  rw [fields_text] at h
  exact h
theorem row_cell (w : World) {i : Nat} (h : i < 8) : (w.alloc rowO).cell? ⟨w.heap.size, i, none⟩ = some (.string (kwAt i)) := by
  have hb := heap_alloc_new w rowO
  rw [blk_cell hb i]
  have : i = 0 ∨ i = 1 ∨ i = 2 ∨ i = 3 ∨ i = 4 ∨ i = 5 ∨ i = 6 ∨ i = 7 := by omega
  rcases this with rfl | rfl | rfl | rfl | rfl | rfl | rfl | rfl <;> rfl
theorem bytes_inj {a b : ByteArray} (h : a.toList = b.toList) : a = b := by
  rw [ByteArray.toList_eq, ByteArray.toList_eq] at h
  obtain ⟨a⟩ := a
  obtain ⟨b⟩ := b
  congr 1
  exact Array.toList_inj.1 h
def keyTxt (m : Int) : ByteArray := if 1 ≤ m ∧ m ≤ 7 then kwAt m.toNat else ⟨#[]⟩
set_option maxHeartbeats 1000000 in
set_option maxRecDepth 100000 in
theorem keyword_c (m : Int) (w : World) (ht : Tab w) : Calls Tryd.prog 19 #[.int .i64 m] w fun e w' => e = .returned (.string (keyTxt m)) ∧ Below w.heap.size w w' := by
  have HF := Lib.hid (fields_c w ht)
  clear ht
  by_cases c1 : m < 1
  · have b1 : decide (m < 1) = true := decide_eq_true c1
    have HE := Lib.hid (show keyTxt m = ⟨#[]⟩ from if_neg (by omega))
    clear c1
    go_enter Tryd.func19, Tryd.ntmps19
    go_wp2
    go_ret
    exact ⟨by rw [HE.out]; rfl, Below.refl _ w⟩
  · have b1 : decide (m < 1) = false := decide_eq_false c1
    by_cases c2 : m ≤ 7
    · obtain ⟨i, rfl⟩ : ∃ i : Nat, m = (i : Int) := ⟨m.toNat, by omega⟩
      have HC := Lib.hid (row_cell w (i := i) (by omega))
      have HE := Lib.hid (show keyTxt (i : Int) = kwAt i by unfold keyTxt; rw [if_pos ⟨by omega, c2⟩, Int.toNat_natCast])
      have b2 : decide (7 < (i : Int)) = false := decide_eq_false (by omega)
      have p1 : (0 : Int) ≤ (i : Int) := by omega
      have p2 : (i : Int) < 8 := by omega
      clear c1 c2
      generalize kwAt i = kw at *
      go_enter Tryd.func19, Tryd.ntmps19
      go_wp2_with fail
      refine HF.out.mono ?_
      rintro e w2 ⟨rfl, rfl⟩
      have hc := HC.out
      generalize hw2 : w.alloc rowO = w2 at *
      have HW := Lib.hid hw2
      clear hw2
      go_wp2
      go_ret
      exact ⟨by rw [HE.out]; rfl, by rw [← HW.out]; exact (Below.refl _ w).alloc (Nat.le_refl _) _⟩
    · have b2 : decide (7 < m) = true := decide_eq_true (by omega)
      have HE := Lib.hid (show keyTxt m = ⟨#[]⟩ from if_neg (by omega))
      clear c1 c2
      go_enter Tryd.func19, Tryd.ntmps19
      go_wp2
      go_ret
      exact ⟨by rw [HE.out]; rfl, Below.refl _ w⟩
end KeyWalk
open KeyWalk
/-- What layout.Keyword computes. -/
def layout_Keyword.f (m : Int) : Option ByteArray := some (keyTxt m)
theorem layout_Keyword.calls (m : Int) (r : ByteArray) (w : World) (ht : Tab w) (h : layout_Keyword.f m = some r) : Calls Tryd.prog 19 #[.int .i64 m] w fun e w' => e = .returned (.string r) ∧ Below w.heap.size w w' := by
  obtain rfl := Option.some.inj h
  exact keyword_c m w ht
end Go.Proofs.YtdgdhmglcpkkiaaDoor
