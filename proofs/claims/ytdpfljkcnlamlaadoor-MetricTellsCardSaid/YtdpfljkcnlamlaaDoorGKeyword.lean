/- metric.Keyword, metric.Of: their walks. -/
import Derived.Test.YtdpfljkcnlamlaaDoorShelf
import Derived.Test.YtdpfljkcnlamlaaDoorGTab
import Derived.Test.YtdpfljkcnlamlaaDoorGBlk
import Derived.Lib.Hide
namespace Go.Proofs.YtdpfljkcnlamlaaDoor
open Go.RowKit Go.Proofs.YtdpfljkcnlamlaaDoorW.PrintWords Go.Proofs.YtdpfljkcnlamlaaDoorW.PrintLast Go.Proofs.YtdpfljkcnlamlaaDoorW.PrintMore
set_option linter.unusedVariables false
set_option linter.unusedSimpArgs false
namespace KeyWalk
def text : ByteArray := ⟨#[32, 69, 88, 80, 76, 73, 67, 73, 84, 32, 69, 85, 67, 95, 50, 68, 32, 67, 69, 73, 76, 95, 50, 68, 32, 77, 65, 78, 95, 50, 68, 32, 77, 65, 88, 95, 50, 68, 32, 65, 84, 84, 32]⟩
def kwAt : Nat → ByteArray
  | 0 => ⟨#[69, 88, 80, 76, 73, 67, 73, 84]⟩
  | 1 => ⟨#[69, 85, 67, 95, 50, 68]⟩
  | 2 => ⟨#[67, 69, 73, 76, 95, 50, 68]⟩
  | 3 => ⟨#[77, 65, 78, 95, 50, 68]⟩
  | 4 => ⟨#[77, 65, 88, 95, 50, 68]⟩
  | _ => ⟨#[65, 84, 84]⟩
theorem fields_text : Lib.fields text.data.toList = [(kwAt 0).data.toList, (kwAt 1).data.toList, (kwAt 2).data.toList, (kwAt 3).data.toList, (kwAt 4).data.toList, (kwAt 5).data.toList] := by decide +kernel
def rowO : Obj := .cells #[.string (kwAt 0), .string (kwAt 1), .string (kwAt 2), .string (kwAt 3), .string (kwAt 4), .string (kwAt 5)] 9 (0, 0)
theorem fields_c (w : World) (ht : Tab w) : Calls Tryd.prog 35 #[.string text] w fun e w' => e = .returned (.slice (some ⟨w.heap.size, 0, none⟩) 6 6) ∧ w' = w.alloc rowO := by
  have h := Tryd.strings_Fields text w (by decide +kernel) (by
    intro j b hj
    have : ∀ b ∈ text.data.toList, b.toNat < 128 := by decide +kernel
    exact this b (List.mem_of_getElem? hj)) ht
  rw [fields_text] at h
  exact h
theorem row_cell (w : World) {i : Nat} (h : i < 6) : (w.alloc rowO).cell? ⟨w.heap.size, i, none⟩ = some (.string (kwAt i)) := by
  have hb := heap_alloc_new w rowO
  rw [blk_cell hb i]
  have : i = 0 ∨ i = 1 ∨ i = 2 ∨ i = 3 ∨ i = 4 ∨ i = 5 := by omega
  rcases this with rfl | rfl | rfl | rfl | rfl | rfl <;> rfl
theorem bytes_inj {a b : ByteArray} (h : a.toList = b.toList) : a = b := by
  rw [ByteArray.toList_eq, ByteArray.toList_eq] at h
  obtain ⟨a⟩ := a
  obtain ⟨b⟩ := b
  congr 1
  exact Array.toList_inj.1 h
def keyTxt (m : Int) : ByteArray := if 0 ≤ m ∧ m ≤ 5 then kwAt m.toNat else ⟨#[]⟩
set_option maxHeartbeats 1000000 in
set_option maxRecDepth 100000 in
theorem keyword_c (m : Int) (w : World) (ht : Tab w) : Calls Tryd.prog 17 #[.int .i64 m] w fun e w' => e = .returned (.string (keyTxt m)) ∧ Below w.heap.size w w' := by
  have HF := Lib.hid (fields_c w ht)
  clear ht
  by_cases c1 : m < 0
  · have b1 : decide (m < 0) = true := decide_eq_true c1
    have HE := Lib.hid (show keyTxt m = ⟨#[]⟩ from if_neg (by omega))
    clear c1
    go_enter Tryd.func17, Tryd.ntmps17
    go_wp2_with fail
    refine HF.out.mono ?_
    rintro e w2 ⟨rfl, rfl⟩
    go_wp2
    go_ret
    exact ⟨by rw [HE.out]; rfl, (Below.refl _ w).alloc (Nat.le_refl _) _⟩
  · have b1 : decide (m < 0) = false := decide_eq_false c1
    by_cases c2 : m ≤ 5
    · obtain ⟨i, rfl⟩ : ∃ i : Nat, m = (i : Int) := ⟨m.toNat, by omega⟩
      have HC := Lib.hid (row_cell w (i := i) (by omega))
      have HE := Lib.hid (show keyTxt (i : Int) = kwAt i by unfold keyTxt; rw [if_pos ⟨by omega, c2⟩, Int.toNat_natCast])
      have b2 : decide ((i : Int) ≥ 6) = false := decide_eq_false (by omega)
      have p1 : (0 : Int) ≤ (i : Int) := by omega
      have p2 : (i : Int) < 6 := by omega
      clear c1 c2
      generalize kwAt i = kw at *
      go_enter Tryd.func17, Tryd.ntmps17
      go_wp2_with fail
      refine HF.out.mono ?_
      rintro e w2 ⟨rfl, rfl⟩
      have hc := HC.out
      generalize hw2 : w.alloc rowO = w2 at *
      have HW := Lib.hid hw2
      clear hw2
      go_wp2
      go_ret
      exact ⟨by rw [HE.out]; rfl, by rw [← HW.out]; exact (Below.refl _ w).alloc (Nat.le_refl _) _⟩
    · have b2 : decide (m ≥ 6) = true := decide_eq_true (by omega)
      have HE := Lib.hid (show keyTxt m = ⟨#[]⟩ from if_neg (by omega))
      clear c1 c2
      go_enter Tryd.func17, Tryd.ntmps17
      go_wp2_with fail
      refine HF.out.mono ?_
      rintro e w2 ⟨rfl, rfl⟩
      go_wp2
      go_ret
      exact ⟨by rw [HE.out]; rfl, (Below.refl _ w).alloc (Nat.le_refl _) _⟩
def findK (s : ByteArray) (d : Nat) : Nat → Option Nat
  | i => match d with
    | 0 => none
    | d + 1 => if (kwAt i).toList = s.toList then some i else findK s d (i + 1)
def ofOut : Option Nat → Value
  | some i => .tuple #[.int .i64 (i : Int), .bool true]
  | none => .tuple #[.int .i64 0, .bool false]
set_option maxHeartbeats 1000000 in
set_option maxRecDepth 100000 in
theorem of_c (s : ByteArray) (w : World) (ht : Tab w) : Calls Tryd.prog 13 #[.string s] w fun e w' => e = .returned (ofOut (findK s 6 0)) ∧ Below w.heap.size w w' := by
  have HF := Lib.hid (fields_c w ht)
  clear ht
  have HC := Lib.hid (fun i (h : i < 6) => row_cell w h)
  have HB := Aside0.mk ((Below.refl w.heap.size w).alloc (Nat.le_refl _) rowO)
  go_enter Tryd.func13, Tryd.ntmps13
  go_wp2_with fail
  refine HF.out.mono ?_
  rintro e w2 ⟨rfl, rfl⟩
  go_wp2_with fail
  go_loop [8] (fun v => ∃ i : Nat, v = .int .i64 i ∧ i ≤ 6 ∧ Aside0 (findK s 6 0 = findK s (6 - i) i)) (fun v => 6 - (intOf v).toNat)
  case atStart => exact ⟨0, rfl, Nat.zero_le _, ⟨rfl⟩⟩
  case round =>
    obtain ⟨i, rfl, hi, HI⟩ := hrel
    by_cases hlt : i < 6
    · have hc := HC.out i hlt
      have p1 : (0 : Int) ≤ (i : Int) := by omega
      have p2 : (i : Int) < 6 := by omega
      by_cases hk : (kwAt i).toList = s.toList
      · have HE := Aside0.mk (show findK s 6 0 = some i by rw [HI.out, show 6 - i = (5 - i) + 1 by omega]; exact if_pos hk)
        have hk2 : ((kwAt i).toList == s.toList) = true := beq_iff_eq.2 hk
        clear HI hk
        generalize kwAt i = kw at *
        go_wp2_with fail
        go_ret2
        exact ⟨by rw [HE.out]; rfl, HB.out⟩
      · have HE := Aside0.mk (show findK s 6 0 = findK s (6 - (i + 1)) (i + 1) by rw [HI.out, show 6 - i = (5 - i) + 1 by omega, show 6 - (i + 1) = 5 - i by omega]; exact if_neg hk)
        have hk2 : ((kwAt i).toList == s.toList) = false := beq_eq_false_iff_ne.2 hk
        clear HI hk
        generalize kwAt i = kw at *
        go_wp2_with fail
        go_round
        case rel => exact ⟨i + 1, by go_num, by omega, HE⟩
        case measure => simp [intOf]; omega
    · have HE := Aside0.mk (show findK s 6 0 = none by rw [HI.out, show 6 - i = 0 by omega]; rfl)
      clear HI
      go_wp2_with fail
      go_ret2
      exact ⟨by rw [HE.out]; rfl, HB.out⟩
end KeyWalk
open KeyWalk
/-- What metric.Keyword and metric.Of compute. -/
def metric_Keyword.f (m : Int) : Option ByteArray := some (keyTxt m)
theorem metric_Keyword.calls (m : Int) (r : ByteArray) (w : World) (ht : Tab w) (h : metric_Keyword.f m = some r) : Calls Tryd.prog 17 #[.int .i64 m] w fun e w' => e = .returned (.string r) ∧ Below w.heap.size w w' := by
  unfold metric_Keyword.f at h
  obtain rfl := Option.some.inj h
  exact keyword_c m w ht
def metric_Of.f (s : ByteArray) : Option (Int × Bool) := some (match findK s 6 0 with | some i => ((i : Int), true) | none => (0, false))
theorem metric_Of.calls (s : ByteArray) (r1 : Int) (r2 : Bool) (w : World) (ht : Tab w) (h : metric_Of.f s = some (r1, r2)) : Calls Tryd.prog 13 #[.string s] w fun e w' => e = .returned (.tuple #[.int .i64 r1, .bool r2]) ∧ Below w.heap.size w w' := by
  unfold metric_Of.f at h
  have h := Option.some.inj h
  refine (of_c s w ht).mono ?_
  rintro e w' ⟨rfl, hb⟩
  refine ⟨?_, hb⟩
  generalize findK s 6 0 = o at *
  cases o <;> cases h <;> rfl
end Go.Proofs.YtdpfljkcnlamlaaDoor
