/- The places that a layout tells, in its order: the iterator's walk. -/
import Derived.Lib.Hide
import Derived.RangeFuncBox
import Derived.Shelf.Abstract
import Derived.Shelf.RegionOpen
import Derived.WalkKit
import Derived.OwnWalkIn
import Derived.TacticsInMore
import Derived.LoopNIn
import Derived.LoopIn
import Derived.RegionIn
import Derived.Test.YtdgdhmglcpkkiaaDoorGRangeE
import Derived.Test.YtdgdhmglcpkkiaaDoorPx0
set_option linter.unusedVariables false
set_option linter.unusedSimpArgs false
namespace Go.Proofs.YtdgdhmglcpkkiaaDoor
open Go.RowKit
namespace LayWalk
open Go.RowKit Go.Proofs.YtdgdhmglcpkkiaaDoorW.PrintWords RangeE P
attribute [local go_sem] Oper.semAt_some
abbrev Place := Nat × Nat
def encP (x : Place) : Array Value := #[.int .i64 (x.1 : Int), .int .i64 (x.2 : Int)]
/-- From which number on, and up to which, row a tells. -/
def frm (lay a : Nat) : Nat := if lay = 2 ∨ lay = 7 then a + 1 else if lay = 4 then a else 0
def til (lay n a : Nat) : Nat := if lay = 3 ∨ lay = 6 then a else if lay = 5 then a + 1 else n
theorem frm_le {lay n a : Nat} (ha : a < n) : frm lay a ≤ til lay n a ∧ til lay n a ≤ n := by
  unfold frm til
  repeat' split
  all_goals omega
def tagp (lay a b : Nat) : Place := if 6 ≤ lay then (b, a) else (a, b)
def rowTo (lay a f b : Nat) : List Place := (List.range' f (b - f)).map (tagp lay a)
def rowOf (lay n a : Nat) : List Place := rowTo lay a (frm lay a) (til lay n a)
def upTo (lay n i : Nat) : List Place := (List.range i).flatMap (rowOf lay n)
/-- All places of a layout, in its order. -/
def placesOf (lay n : Nat) : List Place := upTo lay n n
theorem upTo_succ (lay n i : Nat) : upTo lay n (i + 1) = upTo lay n i ++ rowOf lay n i := by simp [upTo, List.range_succ]
theorem upTo_pre (lay n : Nat) {i j : Nat} (h : i ≤ j) : upTo lay n i <+: upTo lay n j := by
  obtain ⟨d, rfl⟩ : ∃ d, j = i + d := ⟨j - i, by omega⟩
  clear h
  induction d with
  | zero => exact List.prefix_refl _
  | succ d ih => rw [show i + (d + 1) = (i + d) + 1 from rfl, upTo_succ]; exact ih.trans (List.prefix_append _ _)
theorem rowTo_start (lay a f : Nat) : rowTo lay a f f = [] := by simp [rowTo]
theorem rowTo_succ (lay a : Nat) {f b : Nat} (h : f ≤ b) : rowTo lay a f (b + 1) = rowTo lay a f b ++ [tagp lay a b] := by
  unfold rowTo
  rw [show b + 1 - f = (b - f) + 1 by omega, List.range'_concat, List.map_append, show f + 1 * (b - f) = b by omega]
  rfl
theorem row_pre (lay n : Nat) {i f b : Nat} (hi : i < n) (hf : f = frm lay i) (hb : b < til lay n i) (h : f ≤ b) : (upTo lay n i ++ rowTo lay i f b) ++ [tagp lay i b] <+: placesOf lay n := by
  subst hf
  rw [List.append_assoc, ← rowTo_succ lay i h]
  refine List.IsPrefix.trans ?_ (upTo_pre lay n (show i + 1 ≤ n by omega))
  rw [upTo_succ]
  refine (List.prefix_append_right_inj _).2 ?_
  unfold rowOf rowTo
  refine List.IsPrefix.map _ ?_
  refine ⟨List.range' (b + 1) (til lay n i - (b + 1)), ?_⟩
  rw [show til lay n i - frm lay i = (b + 1 - frm lay i) + (til lay n i - (b + 1)) by omega, ← List.range'_append]
  congr 2
  omega
theorem row_lt (lay n : Nat) {i f b : Nat} (hi : i < n) (hf : f = frm lay i) (hb : b < til lay n i) (h : f ≤ b) : (upTo lay n i ++ rowTo lay i f b).length < (placesOf lay n).length := by
  have := (row_pre lay n hi hf hb h).length_le
  rw [List.length_append] at this
  simp only [List.length_singleton] at this
  omega
theorem grown_drew (w : World) (row : Option Nat) : w.grownBy w.drew row := ⟨rfl, rfl, rfl, Nat.le_refl _, fun _ _ _ => rfl⟩
theorem OwnFrom.drew {β : Type} {B : Nat} {I : β → World → Prop} (h : OwnFrom B I) {s : β} {W : World} (hs : I s W) : I s W.drew := h s W _ none hs (grown_drew W none) (fun r e => by cases e)
theorem meas_lt {i n : Nat} (h : i < n) : n - ((i + 1 : Nat) : Int).toNat < n - (i : Int).toNat := by omega

set_option maxRecDepth 100000 in
set_option maxHeartbeats 8000000 in
theorem places1_in (m : Nat) (hm : 3 ≤ m) (l Bl Bn lay n : Nat) (hlay : lay = 1 ∨ lay = 2 ∨ lay = 3 ∨ lay = 4 ∨ lay = 5 ∨ lay = 6 ∨ lay = 7) (hn : n ≤ 400) (J Jx : List Place → World → Prop) (n₀ : Nat) (W : World)
    (hJ : OwnFrom W.heap.size J) (hJx : OwnFrom W.heap.size Jx) (hB : ∀ pre W', J pre W' → Boxed W' Bl 3 (.int .i64 (lay : Int)) ∧ Boxed W' Bn 3 (.int .i64 (n : Int)))
    (hY : ∀ pre x W1, J pre W1 → pre ++ [x] <+: placesOf lay n → YieldAt Fence.wide (m - 1) Tryd.prog l (encP x) W1 fun e W' =>
      (e = .returned (.bool true) ∧ J (pre ++ [x]) W' ∧ Below n₀ W1 W' ∧ Above W.heap.size W1 W') ∨ (e = .returned (.bool false) ∧ Jx (pre ++ [x]) W' ∧ Above W.heap.size W1 W'))
    (h0 : J [] W) :
    CallsIn Fence.wide m Tryd.prog 30 #[.func (.yield l) #[] #[], .pointer (some ⟨Bn, 0, none⟩), .pointer (some ⟨Bl, 0, none⟩)] W fun e W' => (∃ v, e = .returned v) ∧
      ((∃ ys, ys = placesOf lay n ∧ J ys W') ∨ (∃ pre, pre <+: placesOf lay n ∧ Jx pre W')) := by
  have hm1 : 1 ≤ m := by omega
  refine callsIn_of_wp Tryd.func30 rfl trivial ?_ rfl
  simp only [Tryd.ntmps30, List.size_toArray, List.length_cons, List.length_nil, Nat.reduceAdd, Nat.reduceSub, Array.replicate_succ, Array.replicate_zero, List.push_toArray, List.append_toArray, List.nil_append, List.cons_append]
  have c1 := (hB _ _ h0).2.cell
  gi_wp2
  clear c1
  refine wpIn_loop (fun a wr => ∃ (i : Nat) (u3 u4 u5 u6 u7 u8 u9 u12 u13 u14 u15 u16 u17 u18 u19 u20 u21 u22 u23 u24 u25 u26 u27 u28 u29 u30 u31 u32 u33 u34 u35 u36 u37 u38 u39 u40 u41 u42 u43 u44 u45 u46 u47 u48 u49 : Value), a = { tmps := #[.func (.yield l) #[] #[], .pointer (some ⟨Bn, 0, none⟩), .pointer (some ⟨Bl, 0, none⟩), u3, u4, u5, u6, u7, u8, u9, .int .i64 (n : Int), .int .i64 (i : Int), u12, u13, u14, u15, u16, u17, u18, u19, u20, u21, u22, u23, u24, u25, u26, u27, u28, u29, u30, u31, u32, u33, u34, u35, u36, u37, u38, u39, u40, u41, u42, u43, u44, u45, u46, u47, u48, u49], defers := [] } ∧ i ≤ n ∧ J (upTo lay n i) wr)
    (fun a _ => n - (intOf (a.tmps.getD 11 undef)).toNat) ?_ ?_
  · exact ⟨0, _, _, _, _, _, _, _, _, _, _, _, _, _, _, _, _, _, _, _, _, _, _, _, _, _, _, _, _, _, _, _, _, _, _, _, _, _, _, _, _, _, _, _, _, _, rfl, Nat.zero_le _, h0⟩
  · rintro _ wr ⟨i, u3, u4, u5, u6, u7, u8, u9, u12, u13, u14, u15, u16, u17, u18, u19, u20, u21, u22, u23, u24, u25, u26, u27, u28, u29, u30, u31, u32, u33, u34, u35, u36, u37, u38, u39, u40, u41, u42, u43, u44, u45, u46, u47, u48, u49, rfl, hi, hJi⟩
    by_cases hlt : i < n
    · have E := Lib.hid (upTo_succ lay n i)
      have cN := (hB _ _ hJi).2.cell
      have cL := (hB _ _ hJi).1.cell
      have e1 : wrap64 ((i : Int) + 1) = ((i + 1 : Nat) : Int) := by unfold wrap64; omega
      have HF := Lib.hid (@frm_le lay n i hlt)
      have HB := Lib.hid hB
      have HY := Lib.hid hY
      have HJ := Lib.hid hJ
      have HX := Lib.hid hJx
      have HI := Lib.hid hJi
      clear hB hY hJ hJx hJi h0
      rcases hlay with rfl | rfl | rfl | rfl | rfl | rfl | rfl
      · gi_wp2
        gi_region
        all_goals gi_wp2
        all_goals (try rw [e1])
        all_goals
          refine wpIn_loop (fun a wv => ∃ (b : Nat) (u3 u5 u8 u9 u12 u13 u14 u15 u16 u17 u18 u19 u20 u21 u22 u23 u24 u25 u26 u27 u28 u29 u30 u31 u32 u33 u34 u35 u36 u37 u38 u39 u40 u41 u42 u43 u44 u45 u46 u47 u48 u49 : Value), a = { tmps := #[.func (.yield l) #[] #[], .pointer (some ⟨Bn, 0, none⟩), .pointer (some ⟨Bl, 0, none⟩), u3, .int .i64 (i : Int), u5, .int .i64 ((til 1 n i : Nat) : Int), .int .i64 (b : Int), u8, u9, .int .i64 (n : Int), .int .i64 (i : Int), u12, u13, u14, u15, u16, u17, u18, u19, u20, u21, u22, u23, u24, u25, u26, u27, u28, u29, u30, u31, u32, u33, u34, u35, u36, u37, u38, u39, u40, u41, u42, u43, u44, u45, u46, u47, u48, u49], defers := [] } ∧ frm 1 i ≤ b ∧ b ≤ til 1 n i ∧ J (upTo 1 n i ++ rowTo 1 i (frm 1 i) b) wv) (fun a _ => til 1 n i - (intOf (a.tmps.getD 7 undef)).toNat) ?_ ?_
        all_goals first
          | exact ⟨frm 1 i, _, _, _, _, _, _, _, _, _, _, _, _, _, _, _, _, _, _, _, _, _, _, _, _, _, _, _, _, _, _, _, _, _, _, _, _, _, _, _, _, _, _, rfl, Nat.le_refl _, HF.out.1, by rw [rowTo_start, List.append_nil]; exact OwnFrom.drew HJ.out HI.out⟩
          | skip
        all_goals
          clear HI cN cL
          rintro _ wv ⟨b, v3, v5, v8, v9, v12, v13, v14, v15, v16, v17, v18, v19, v20, v21, v22, v23, v24, v25, v26, v27, v28, v29, v30, v31, v32, v33, v34, v35, v36, v37, v38, v39, v40, v41, v42, v43, v44, v45, v46, v47, v48, v49, rfl, hb1, hb2, hJv⟩
          by_cases hbt : b < til 1 n i
          · have HV := Lib.hid hJv
            have cL := (HB.out _ _ hJv).1.cell
            have e2 : wrap64 ((b : Int) + 1) = ((b + 1 : Nat) : Int) := by have := HF.out.2; unfold wrap64; omega
            obtain ⟨fn, tmps, assign, body, hy, hR⟩ := HY.out _ (tagp 1 i b) wv hJv (row_pre 1 n hlt rfl hbt hb1)
            clear hJv
            have hbd : decide ((b : Int) < ((til 1 n i : Nat) : Int)) = true := decide_eq_true (by omega)
            unfold tagp encP at hy
            simp only [Nat.reduceLeDiff, if_true, if_false] at hy
            gi_wp2
            refine hR.mono ?_
            rintro e W4 (⟨rfl, hJ4, hB4, hA4⟩ | ⟨rfl, hJ4, hA4⟩)
            · clear hy hR
              gi_wp2
              first | rw [e2] | rw [show (b : Int) + 1 = ((b + 1 : Nat) : Int) from rfl]
              refine ⟨⟨b + 1, _, _, _, _, _, _, _, _, _, _, _, _, _, _, _, _, _, _, _, _, _, _, _, _, _, _, _, _, _, _, _, _, _, _, _, _, _, _, _, _, _, _, rfl, by omega, by omega, ?_⟩, ?_⟩
              · rw [rowTo_succ _ _ hb1, ← List.append_assoc]; exact hJ4
              · show til 1 n i - ((b + 1 : Nat) : Int).toNat < til 1 n i - ((b : Nat) : Int).toNat
                omega
            · clear hy hR
              gi_wp2
              exact ⟨rfl, _, results_none rfl _ _ _, ⟨_, rfl⟩, .inr ⟨_, row_pre 1 n hlt rfl hbt hb1, hJ4⟩⟩
          · have hbd : decide ((b : Int) < ((til 1 n i : Nat) : Int)) = false := decide_eq_false (by omega)
            have hb : b = til 1 n i := by omega
            gi_wp2
            first | rw [e1] | rw [show (i : Int) + 1 = ((i + 1 : Nat) : Int) from rfl]
            refine ⟨⟨i + 1, _, _, _, _, _, _, _, _, _, _, _, _, _, _, _, _, _, _, _, _, _, _, _, _, _, _, _, _, _, _, _, _, _, _, _, _, _, _, _, _, _, _, _, _, _, rfl, hlt, ?_⟩, ?_⟩
            · rw [E.out]; unfold rowOf; rw [← hb]; exact hJv
            · exact meas_lt hlt
      · gi_wp2
        gi_region
        all_goals gi_wp2
        all_goals (try rw [e1])
        all_goals
          refine wpIn_loop (fun a wv => ∃ (b : Nat) (u3 u5 u8 u9 u12 u13 u14 u15 u16 u17 u18 u19 u20 u21 u22 u23 u24 u25 u26 u27 u28 u29 u30 u31 u32 u33 u34 u35 u36 u37 u38 u39 u40 u41 u42 u43 u44 u45 u46 u47 u48 u49 : Value), a = { tmps := #[.func (.yield l) #[] #[], .pointer (some ⟨Bn, 0, none⟩), .pointer (some ⟨Bl, 0, none⟩), u3, .int .i64 (i : Int), u5, .int .i64 ((til 2 n i : Nat) : Int), .int .i64 (b : Int), u8, u9, .int .i64 (n : Int), .int .i64 (i : Int), u12, u13, u14, u15, u16, u17, u18, u19, u20, u21, u22, u23, u24, u25, u26, u27, u28, u29, u30, u31, u32, u33, u34, u35, u36, u37, u38, u39, u40, u41, u42, u43, u44, u45, u46, u47, u48, u49], defers := [] } ∧ frm 2 i ≤ b ∧ b ≤ til 2 n i ∧ J (upTo 2 n i ++ rowTo 2 i (frm 2 i) b) wv) (fun a _ => til 2 n i - (intOf (a.tmps.getD 7 undef)).toNat) ?_ ?_
        all_goals first
          | exact ⟨frm 2 i, _, _, _, _, _, _, _, _, _, _, _, _, _, _, _, _, _, _, _, _, _, _, _, _, _, _, _, _, _, _, _, _, _, _, _, _, _, _, _, _, _, _, rfl, Nat.le_refl _, HF.out.1, by rw [rowTo_start, List.append_nil]; exact OwnFrom.drew HJ.out HI.out⟩
          | skip
        all_goals
          clear HI cN cL
          rintro _ wv ⟨b, v3, v5, v8, v9, v12, v13, v14, v15, v16, v17, v18, v19, v20, v21, v22, v23, v24, v25, v26, v27, v28, v29, v30, v31, v32, v33, v34, v35, v36, v37, v38, v39, v40, v41, v42, v43, v44, v45, v46, v47, v48, v49, rfl, hb1, hb2, hJv⟩
          by_cases hbt : b < til 2 n i
          · have HV := Lib.hid hJv
            have cL := (HB.out _ _ hJv).1.cell
            have e2 : wrap64 ((b : Int) + 1) = ((b + 1 : Nat) : Int) := by have := HF.out.2; unfold wrap64; omega
            obtain ⟨fn, tmps, assign, body, hy, hR⟩ := HY.out _ (tagp 2 i b) wv hJv (row_pre 2 n hlt rfl hbt hb1)
            clear hJv
            have hbd : decide ((b : Int) < ((til 2 n i : Nat) : Int)) = true := decide_eq_true (by omega)
            unfold tagp encP at hy
            simp only [Nat.reduceLeDiff, if_true, if_false] at hy
            gi_wp2
            refine hR.mono ?_
            rintro e W4 (⟨rfl, hJ4, hB4, hA4⟩ | ⟨rfl, hJ4, hA4⟩)
            · clear hy hR
              gi_wp2
              first | rw [e2] | rw [show (b : Int) + 1 = ((b + 1 : Nat) : Int) from rfl]
              refine ⟨⟨b + 1, _, _, _, _, _, _, _, _, _, _, _, _, _, _, _, _, _, _, _, _, _, _, _, _, _, _, _, _, _, _, _, _, _, _, _, _, _, _, _, _, _, _, rfl, by omega, by omega, ?_⟩, ?_⟩
              · rw [rowTo_succ _ _ hb1, ← List.append_assoc]; exact hJ4
              · show til 2 n i - ((b + 1 : Nat) : Int).toNat < til 2 n i - ((b : Nat) : Int).toNat
                omega
            · clear hy hR
              gi_wp2
              exact ⟨rfl, _, results_none rfl _ _ _, ⟨_, rfl⟩, .inr ⟨_, row_pre 2 n hlt rfl hbt hb1, hJ4⟩⟩
          · have hbd : decide ((b : Int) < ((til 2 n i : Nat) : Int)) = false := decide_eq_false (by omega)
            have hb : b = til 2 n i := by omega
            gi_wp2
            first | rw [e1] | rw [show (i : Int) + 1 = ((i + 1 : Nat) : Int) from rfl]
            refine ⟨⟨i + 1, _, _, _, _, _, _, _, _, _, _, _, _, _, _, _, _, _, _, _, _, _, _, _, _, _, _, _, _, _, _, _, _, _, _, _, _, _, _, _, _, _, _, _, _, _, rfl, hlt, ?_⟩, ?_⟩
            · rw [E.out]; unfold rowOf; rw [← hb]; exact hJv
            · exact meas_lt hlt
      · gi_wp2
        gi_region
        all_goals gi_wp2
        all_goals (try rw [e1])
        all_goals
          refine wpIn_loop (fun a wv => ∃ (b : Nat) (u3 u5 u8 u9 u12 u13 u14 u15 u16 u17 u18 u19 u20 u21 u22 u23 u24 u25 u26 u27 u28 u29 u30 u31 u32 u33 u34 u35 u36 u37 u38 u39 u40 u41 u42 u43 u44 u45 u46 u47 u48 u49 : Value), a = { tmps := #[.func (.yield l) #[] #[], .pointer (some ⟨Bn, 0, none⟩), .pointer (some ⟨Bl, 0, none⟩), u3, .int .i64 (i : Int), u5, .int .i64 ((til 3 n i : Nat) : Int), .int .i64 (b : Int), u8, u9, .int .i64 (n : Int), .int .i64 (i : Int), u12, u13, u14, u15, u16, u17, u18, u19, u20, u21, u22, u23, u24, u25, u26, u27, u28, u29, u30, u31, u32, u33, u34, u35, u36, u37, u38, u39, u40, u41, u42, u43, u44, u45, u46, u47, u48, u49], defers := [] } ∧ frm 3 i ≤ b ∧ b ≤ til 3 n i ∧ J (upTo 3 n i ++ rowTo 3 i (frm 3 i) b) wv) (fun a _ => til 3 n i - (intOf (a.tmps.getD 7 undef)).toNat) ?_ ?_
        all_goals first
          | exact ⟨frm 3 i, _, _, _, _, _, _, _, _, _, _, _, _, _, _, _, _, _, _, _, _, _, _, _, _, _, _, _, _, _, _, _, _, _, _, _, _, _, _, _, _, _, _, rfl, Nat.le_refl _, HF.out.1, by rw [rowTo_start, List.append_nil]; exact OwnFrom.drew HJ.out HI.out⟩
          | skip
        all_goals
          clear HI cN cL
          rintro _ wv ⟨b, v3, v5, v8, v9, v12, v13, v14, v15, v16, v17, v18, v19, v20, v21, v22, v23, v24, v25, v26, v27, v28, v29, v30, v31, v32, v33, v34, v35, v36, v37, v38, v39, v40, v41, v42, v43, v44, v45, v46, v47, v48, v49, rfl, hb1, hb2, hJv⟩
          by_cases hbt : b < til 3 n i
          · have HV := Lib.hid hJv
            have cL := (HB.out _ _ hJv).1.cell
            have e2 : wrap64 ((b : Int) + 1) = ((b + 1 : Nat) : Int) := by have := HF.out.2; unfold wrap64; omega
            obtain ⟨fn, tmps, assign, body, hy, hR⟩ := HY.out _ (tagp 3 i b) wv hJv (row_pre 3 n hlt rfl hbt hb1)
            clear hJv
            have hbd : decide ((b : Int) < ((til 3 n i : Nat) : Int)) = true := decide_eq_true (by omega)
            unfold tagp encP at hy
            simp only [Nat.reduceLeDiff, if_true, if_false] at hy
            gi_wp2
            refine hR.mono ?_
            rintro e W4 (⟨rfl, hJ4, hB4, hA4⟩ | ⟨rfl, hJ4, hA4⟩)
            · clear hy hR
              gi_wp2
              first | rw [e2] | rw [show (b : Int) + 1 = ((b + 1 : Nat) : Int) from rfl]
              refine ⟨⟨b + 1, _, _, _, _, _, _, _, _, _, _, _, _, _, _, _, _, _, _, _, _, _, _, _, _, _, _, _, _, _, _, _, _, _, _, _, _, _, _, _, _, _, _, rfl, by omega, by omega, ?_⟩, ?_⟩
              · rw [rowTo_succ _ _ hb1, ← List.append_assoc]; exact hJ4
              · show til 3 n i - ((b + 1 : Nat) : Int).toNat < til 3 n i - ((b : Nat) : Int).toNat
                omega
            · clear hy hR
              gi_wp2
              exact ⟨rfl, _, results_none rfl _ _ _, ⟨_, rfl⟩, .inr ⟨_, row_pre 3 n hlt rfl hbt hb1, hJ4⟩⟩
          · have hbd : decide ((b : Int) < ((til 3 n i : Nat) : Int)) = false := decide_eq_false (by omega)
            have hb : b = til 3 n i := by omega
            gi_wp2
            first | rw [e1] | rw [show (i : Int) + 1 = ((i + 1 : Nat) : Int) from rfl]
            refine ⟨⟨i + 1, _, _, _, _, _, _, _, _, _, _, _, _, _, _, _, _, _, _, _, _, _, _, _, _, _, _, _, _, _, _, _, _, _, _, _, _, _, _, _, _, _, _, _, _, _, rfl, hlt, ?_⟩, ?_⟩
            · rw [E.out]; unfold rowOf; rw [← hb]; exact hJv
            · exact meas_lt hlt
      · gi_wp2
        gi_region
        all_goals gi_wp2
        all_goals (try rw [e1])
        all_goals
          refine wpIn_loop (fun a wv => ∃ (b : Nat) (u3 u5 u8 u9 u12 u13 u14 u15 u16 u17 u18 u19 u20 u21 u22 u23 u24 u25 u26 u27 u28 u29 u30 u31 u32 u33 u34 u35 u36 u37 u38 u39 u40 u41 u42 u43 u44 u45 u46 u47 u48 u49 : Value), a = { tmps := #[.func (.yield l) #[] #[], .pointer (some ⟨Bn, 0, none⟩), .pointer (some ⟨Bl, 0, none⟩), u3, .int .i64 (i : Int), u5, .int .i64 ((til 4 n i : Nat) : Int), .int .i64 (b : Int), u8, u9, .int .i64 (n : Int), .int .i64 (i : Int), u12, u13, u14, u15, u16, u17, u18, u19, u20, u21, u22, u23, u24, u25, u26, u27, u28, u29, u30, u31, u32, u33, u34, u35, u36, u37, u38, u39, u40, u41, u42, u43, u44, u45, u46, u47, u48, u49], defers := [] } ∧ frm 4 i ≤ b ∧ b ≤ til 4 n i ∧ J (upTo 4 n i ++ rowTo 4 i (frm 4 i) b) wv) (fun a _ => til 4 n i - (intOf (a.tmps.getD 7 undef)).toNat) ?_ ?_
        all_goals first
          | exact ⟨frm 4 i, _, _, _, _, _, _, _, _, _, _, _, _, _, _, _, _, _, _, _, _, _, _, _, _, _, _, _, _, _, _, _, _, _, _, _, _, _, _, _, _, _, _, rfl, Nat.le_refl _, HF.out.1, by rw [rowTo_start, List.append_nil]; exact OwnFrom.drew HJ.out HI.out⟩
          | skip
        all_goals
          clear HI cN cL
          rintro _ wv ⟨b, v3, v5, v8, v9, v12, v13, v14, v15, v16, v17, v18, v19, v20, v21, v22, v23, v24, v25, v26, v27, v28, v29, v30, v31, v32, v33, v34, v35, v36, v37, v38, v39, v40, v41, v42, v43, v44, v45, v46, v47, v48, v49, rfl, hb1, hb2, hJv⟩
          by_cases hbt : b < til 4 n i
          · have HV := Lib.hid hJv
            have cL := (HB.out _ _ hJv).1.cell
            have e2 : wrap64 ((b : Int) + 1) = ((b + 1 : Nat) : Int) := by have := HF.out.2; unfold wrap64; omega
            obtain ⟨fn, tmps, assign, body, hy, hR⟩ := HY.out _ (tagp 4 i b) wv hJv (row_pre 4 n hlt rfl hbt hb1)
            clear hJv
            have hbd : decide ((b : Int) < ((til 4 n i : Nat) : Int)) = true := decide_eq_true (by omega)
            unfold tagp encP at hy
            simp only [Nat.reduceLeDiff, if_true, if_false] at hy
            gi_wp2
            refine hR.mono ?_
            rintro e W4 (⟨rfl, hJ4, hB4, hA4⟩ | ⟨rfl, hJ4, hA4⟩)
            · clear hy hR
              gi_wp2
              first | rw [e2] | rw [show (b : Int) + 1 = ((b + 1 : Nat) : Int) from rfl]
              refine ⟨⟨b + 1, _, _, _, _, _, _, _, _, _, _, _, _, _, _, _, _, _, _, _, _, _, _, _, _, _, _, _, _, _, _, _, _, _, _, _, _, _, _, _, _, _, _, rfl, by omega, by omega, ?_⟩, ?_⟩
              · rw [rowTo_succ _ _ hb1, ← List.append_assoc]; exact hJ4
              · show til 4 n i - ((b + 1 : Nat) : Int).toNat < til 4 n i - ((b : Nat) : Int).toNat
                omega
            · clear hy hR
              gi_wp2
              exact ⟨rfl, _, results_none rfl _ _ _, ⟨_, rfl⟩, .inr ⟨_, row_pre 4 n hlt rfl hbt hb1, hJ4⟩⟩
          · have hbd : decide ((b : Int) < ((til 4 n i : Nat) : Int)) = false := decide_eq_false (by omega)
            have hb : b = til 4 n i := by omega
            gi_wp2
            first | rw [e1] | rw [show (i : Int) + 1 = ((i + 1 : Nat) : Int) from rfl]
            refine ⟨⟨i + 1, _, _, _, _, _, _, _, _, _, _, _, _, _, _, _, _, _, _, _, _, _, _, _, _, _, _, _, _, _, _, _, _, _, _, _, _, _, _, _, _, _, _, _, _, _, rfl, hlt, ?_⟩, ?_⟩
            · rw [E.out]; unfold rowOf; rw [← hb]; exact hJv
            · exact meas_lt hlt
      · gi_wp2
        gi_region
        all_goals gi_wp2
        all_goals (try rw [e1])
        all_goals
          refine wpIn_loop (fun a wv => ∃ (b : Nat) (u3 u5 u8 u9 u12 u13 u14 u15 u16 u17 u18 u19 u20 u21 u22 u23 u24 u25 u26 u27 u28 u29 u30 u31 u32 u33 u34 u35 u36 u37 u38 u39 u40 u41 u42 u43 u44 u45 u46 u47 u48 u49 : Value), a = { tmps := #[.func (.yield l) #[] #[], .pointer (some ⟨Bn, 0, none⟩), .pointer (some ⟨Bl, 0, none⟩), u3, .int .i64 (i : Int), u5, .int .i64 ((til 5 n i : Nat) : Int), .int .i64 (b : Int), u8, u9, .int .i64 (n : Int), .int .i64 (i : Int), u12, u13, u14, u15, u16, u17, u18, u19, u20, u21, u22, u23, u24, u25, u26, u27, u28, u29, u30, u31, u32, u33, u34, u35, u36, u37, u38, u39, u40, u41, u42, u43, u44, u45, u46, u47, u48, u49], defers := [] } ∧ frm 5 i ≤ b ∧ b ≤ til 5 n i ∧ J (upTo 5 n i ++ rowTo 5 i (frm 5 i) b) wv) (fun a _ => til 5 n i - (intOf (a.tmps.getD 7 undef)).toNat) ?_ ?_
        all_goals first
          | exact ⟨frm 5 i, _, _, _, _, _, _, _, _, _, _, _, _, _, _, _, _, _, _, _, _, _, _, _, _, _, _, _, _, _, _, _, _, _, _, _, _, _, _, _, _, _, _, rfl, Nat.le_refl _, HF.out.1, by rw [rowTo_start, List.append_nil]; exact OwnFrom.drew HJ.out HI.out⟩
          | skip
        all_goals
          clear HI cN cL
          rintro _ wv ⟨b, v3, v5, v8, v9, v12, v13, v14, v15, v16, v17, v18, v19, v20, v21, v22, v23, v24, v25, v26, v27, v28, v29, v30, v31, v32, v33, v34, v35, v36, v37, v38, v39, v40, v41, v42, v43, v44, v45, v46, v47, v48, v49, rfl, hb1, hb2, hJv⟩
          by_cases hbt : b < til 5 n i
          · have HV := Lib.hid hJv
            have cL := (HB.out _ _ hJv).1.cell
            have e2 : wrap64 ((b : Int) + 1) = ((b + 1 : Nat) : Int) := by have := HF.out.2; unfold wrap64; omega
            obtain ⟨fn, tmps, assign, body, hy, hR⟩ := HY.out _ (tagp 5 i b) wv hJv (row_pre 5 n hlt rfl hbt hb1)
            clear hJv
            have hbd : decide ((b : Int) < ((til 5 n i : Nat) : Int)) = true := decide_eq_true (by omega)
            unfold tagp encP at hy
            simp only [Nat.reduceLeDiff, if_true, if_false] at hy
            gi_wp2
            refine hR.mono ?_
            rintro e W4 (⟨rfl, hJ4, hB4, hA4⟩ | ⟨rfl, hJ4, hA4⟩)
            · clear hy hR
              gi_wp2
              first | rw [e2] | rw [show (b : Int) + 1 = ((b + 1 : Nat) : Int) from rfl]
              refine ⟨⟨b + 1, _, _, _, _, _, _, _, _, _, _, _, _, _, _, _, _, _, _, _, _, _, _, _, _, _, _, _, _, _, _, _, _, _, _, _, _, _, _, _, _, _, _, rfl, by omega, by omega, ?_⟩, ?_⟩
              · rw [rowTo_succ _ _ hb1, ← List.append_assoc]; exact hJ4
              · show til 5 n i - ((b + 1 : Nat) : Int).toNat < til 5 n i - ((b : Nat) : Int).toNat
                omega
            · clear hy hR
              gi_wp2
              exact ⟨rfl, _, results_none rfl _ _ _, ⟨_, rfl⟩, .inr ⟨_, row_pre 5 n hlt rfl hbt hb1, hJ4⟩⟩
          · have hbd : decide ((b : Int) < ((til 5 n i : Nat) : Int)) = false := decide_eq_false (by omega)
            have hb : b = til 5 n i := by omega
            gi_wp2
            first | rw [e1] | rw [show (i : Int) + 1 = ((i + 1 : Nat) : Int) from rfl]
            refine ⟨⟨i + 1, _, _, _, _, _, _, _, _, _, _, _, _, _, _, _, _, _, _, _, _, _, _, _, _, _, _, _, _, _, _, _, _, _, _, _, _, _, _, _, _, _, _, _, _, _, rfl, hlt, ?_⟩, ?_⟩
            · rw [E.out]; unfold rowOf; rw [← hb]; exact hJv
            · exact meas_lt hlt
      · gi_wp2
        gi_region
        all_goals gi_wp2
        all_goals (try rw [e1])
        all_goals
          refine wpIn_loop (fun a wv => ∃ (b : Nat) (u3 u5 u8 u9 u12 u13 u14 u15 u16 u17 u18 u19 u20 u21 u22 u23 u24 u25 u26 u27 u28 u29 u30 u31 u32 u33 u34 u35 u36 u37 u38 u39 u40 u41 u42 u43 u44 u45 u46 u47 u48 u49 : Value), a = { tmps := #[.func (.yield l) #[] #[], .pointer (some ⟨Bn, 0, none⟩), .pointer (some ⟨Bl, 0, none⟩), u3, .int .i64 (i : Int), u5, .int .i64 ((til 6 n i : Nat) : Int), .int .i64 (b : Int), u8, u9, .int .i64 (n : Int), .int .i64 (i : Int), u12, u13, u14, u15, u16, u17, u18, u19, u20, u21, u22, u23, u24, u25, u26, u27, u28, u29, u30, u31, u32, u33, u34, u35, u36, u37, u38, u39, u40, u41, u42, u43, u44, u45, u46, u47, u48, u49], defers := [] } ∧ frm 6 i ≤ b ∧ b ≤ til 6 n i ∧ J (upTo 6 n i ++ rowTo 6 i (frm 6 i) b) wv) (fun a _ => til 6 n i - (intOf (a.tmps.getD 7 undef)).toNat) ?_ ?_
        all_goals first
          | exact ⟨frm 6 i, _, _, _, _, _, _, _, _, _, _, _, _, _, _, _, _, _, _, _, _, _, _, _, _, _, _, _, _, _, _, _, _, _, _, _, _, _, _, _, _, _, _, rfl, Nat.le_refl _, HF.out.1, by rw [rowTo_start, List.append_nil]; exact OwnFrom.drew HJ.out HI.out⟩
          | skip
        all_goals
          clear HI cN cL
          rintro _ wv ⟨b, v3, v5, v8, v9, v12, v13, v14, v15, v16, v17, v18, v19, v20, v21, v22, v23, v24, v25, v26, v27, v28, v29, v30, v31, v32, v33, v34, v35, v36, v37, v38, v39, v40, v41, v42, v43, v44, v45, v46, v47, v48, v49, rfl, hb1, hb2, hJv⟩
          by_cases hbt : b < til 6 n i
          · have HV := Lib.hid hJv
            have cL := (HB.out _ _ hJv).1.cell
            have e2 : wrap64 ((b : Int) + 1) = ((b + 1 : Nat) : Int) := by have := HF.out.2; unfold wrap64; omega
            obtain ⟨fn, tmps, assign, body, hy, hR⟩ := HY.out _ (tagp 6 i b) wv hJv (row_pre 6 n hlt rfl hbt hb1)
            clear hJv
            have hbd : decide ((b : Int) < ((til 6 n i : Nat) : Int)) = true := decide_eq_true (by omega)
            unfold tagp encP at hy
            simp only [Nat.reduceLeDiff, if_true, if_false] at hy
            gi_wp2
            refine hR.mono ?_
            rintro e W4 (⟨rfl, hJ4, hB4, hA4⟩ | ⟨rfl, hJ4, hA4⟩)
            · clear hy hR
              gi_wp2
              first | rw [e2] | rw [show (b : Int) + 1 = ((b + 1 : Nat) : Int) from rfl]
              refine ⟨⟨b + 1, _, _, _, _, _, _, _, _, _, _, _, _, _, _, _, _, _, _, _, _, _, _, _, _, _, _, _, _, _, _, _, _, _, _, _, _, _, _, _, _, _, _, rfl, by omega, by omega, ?_⟩, ?_⟩
              · rw [rowTo_succ _ _ hb1, ← List.append_assoc]; exact hJ4
              · show til 6 n i - ((b + 1 : Nat) : Int).toNat < til 6 n i - ((b : Nat) : Int).toNat
                omega
            · clear hy hR
              gi_wp2
              exact ⟨rfl, _, results_none rfl _ _ _, ⟨_, rfl⟩, .inr ⟨_, row_pre 6 n hlt rfl hbt hb1, hJ4⟩⟩
          · have hbd : decide ((b : Int) < ((til 6 n i : Nat) : Int)) = false := decide_eq_false (by omega)
            have hb : b = til 6 n i := by omega
            gi_wp2
            first | rw [e1] | rw [show (i : Int) + 1 = ((i + 1 : Nat) : Int) from rfl]
            refine ⟨⟨i + 1, _, _, _, _, _, _, _, _, _, _, _, _, _, _, _, _, _, _, _, _, _, _, _, _, _, _, _, _, _, _, _, _, _, _, _, _, _, _, _, _, _, _, _, _, _, rfl, hlt, ?_⟩, ?_⟩
            · rw [E.out]; unfold rowOf; rw [← hb]; exact hJv
            · exact meas_lt hlt
      · gi_wp2
        gi_region
        all_goals gi_wp2
        all_goals (try rw [e1])
        all_goals
          refine wpIn_loop (fun a wv => ∃ (b : Nat) (u3 u5 u8 u9 u12 u13 u14 u15 u16 u17 u18 u19 u20 u21 u22 u23 u24 u25 u26 u27 u28 u29 u30 u31 u32 u33 u34 u35 u36 u37 u38 u39 u40 u41 u42 u43 u44 u45 u46 u47 u48 u49 : Value), a = { tmps := #[.func (.yield l) #[] #[], .pointer (some ⟨Bn, 0, none⟩), .pointer (some ⟨Bl, 0, none⟩), u3, .int .i64 (i : Int), u5, .int .i64 ((til 7 n i : Nat) : Int), .int .i64 (b : Int), u8, u9, .int .i64 (n : Int), .int .i64 (i : Int), u12, u13, u14, u15, u16, u17, u18, u19, u20, u21, u22, u23, u24, u25, u26, u27, u28, u29, u30, u31, u32, u33, u34, u35, u36, u37, u38, u39, u40, u41, u42, u43, u44, u45, u46, u47, u48, u49], defers := [] } ∧ frm 7 i ≤ b ∧ b ≤ til 7 n i ∧ J (upTo 7 n i ++ rowTo 7 i (frm 7 i) b) wv) (fun a _ => til 7 n i - (intOf (a.tmps.getD 7 undef)).toNat) ?_ ?_
        all_goals first
          | exact ⟨frm 7 i, _, _, _, _, _, _, _, _, _, _, _, _, _, _, _, _, _, _, _, _, _, _, _, _, _, _, _, _, _, _, _, _, _, _, _, _, _, _, _, _, _, _, rfl, Nat.le_refl _, HF.out.1, by rw [rowTo_start, List.append_nil]; exact OwnFrom.drew HJ.out HI.out⟩
          | skip
        all_goals
          clear HI cN cL
          rintro _ wv ⟨b, v3, v5, v8, v9, v12, v13, v14, v15, v16, v17, v18, v19, v20, v21, v22, v23, v24, v25, v26, v27, v28, v29, v30, v31, v32, v33, v34, v35, v36, v37, v38, v39, v40, v41, v42, v43, v44, v45, v46, v47, v48, v49, rfl, hb1, hb2, hJv⟩
          by_cases hbt : b < til 7 n i
          · have HV := Lib.hid hJv
            have cL := (HB.out _ _ hJv).1.cell
            have e2 : wrap64 ((b : Int) + 1) = ((b + 1 : Nat) : Int) := by have := HF.out.2; unfold wrap64; omega
            obtain ⟨fn, tmps, assign, body, hy, hR⟩ := HY.out _ (tagp 7 i b) wv hJv (row_pre 7 n hlt rfl hbt hb1)
            clear hJv
            have hbd : decide ((b : Int) < ((til 7 n i : Nat) : Int)) = true := decide_eq_true (by omega)
            unfold tagp encP at hy
            simp only [Nat.reduceLeDiff, if_true, if_false] at hy
            gi_wp2
            refine hR.mono ?_
            rintro e W4 (⟨rfl, hJ4, hB4, hA4⟩ | ⟨rfl, hJ4, hA4⟩)
            · clear hy hR
              gi_wp2
              first | rw [e2] | rw [show (b : Int) + 1 = ((b + 1 : Nat) : Int) from rfl]
              refine ⟨⟨b + 1, _, _, _, _, _, _, _, _, _, _, _, _, _, _, _, _, _, _, _, _, _, _, _, _, _, _, _, _, _, _, _, _, _, _, _, _, _, _, _, _, _, _, rfl, by omega, by omega, ?_⟩, ?_⟩
              · rw [rowTo_succ _ _ hb1, ← List.append_assoc]; exact hJ4
              · show til 7 n i - ((b + 1 : Nat) : Int).toNat < til 7 n i - ((b : Nat) : Int).toNat
                omega
            · clear hy hR
              gi_wp2
              exact ⟨rfl, _, results_none rfl _ _ _, ⟨_, rfl⟩, .inr ⟨_, row_pre 7 n hlt rfl hbt hb1, hJ4⟩⟩
          · have hbd : decide ((b : Int) < ((til 7 n i : Nat) : Int)) = false := decide_eq_false (by omega)
            have hb : b = til 7 n i := by omega
            gi_wp2
            first | rw [e1] | rw [show (i : Int) + 1 = ((i + 1 : Nat) : Int) from rfl]
            refine ⟨⟨i + 1, _, _, _, _, _, _, _, _, _, _, _, _, _, _, _, _, _, _, _, _, _, _, _, _, _, _, _, _, _, _, _, _, _, _, _, _, _, _, _, _, _, _, _, _, _, rfl, hlt, ?_⟩, ?_⟩
            · rw [E.out]; unfold rowOf; rw [← hb]; exact hJv
            · exact meas_lt hlt
    · obtain rfl : i = n := by omega
      gi_wp2
      exact ⟨rfl, _, results_none rfl _ _ _, ⟨_, rfl⟩, .inl ⟨_, rfl, hJi⟩⟩
/-- The places come as a value that gives them all, in their order: the boxes Bl, Bn hold the layout and the size. -/
theorem places_seq (m : Nat) (hm : 3 ≤ m) (Bl Bn lay n : Nat) (hlay : lay = 1 ∨ lay = 2 ∨ lay = 3 ∨ lay = 4 ∨ lay = 5 ∨ lay = 6 ∨ lay = 7) (hn : n ≤ 400) (n₀ : Nat) (W : World) :
    SeqE m Tryd.prog 30 #[.pointer (some ⟨Bn, 0, none⟩), .pointer (some ⟨Bl, 0, none⟩)] encP n₀ (fun ys => ys = placesOf lay n) (fun pre => pre <+: placesOf lay n) 
      (fun W' => Boxed W' Bl 3 (.int .i64 (lay : Int)) ∧ Boxed W' Bn 3 (.int .i64 (n : Int))) W := fun l J Jx V _ hJ hJx hBx hY h0 =>
  places1_in m hm l Bl Bn lay n hlay hn J Jx n₀ V hJ hJx hBx hY h0
set_option maxHeartbeats 1000000 in
theorem places_in (m : Nat) (lay n : Int) (w : World) :
    CallsIn Fence.wide m Tryd.prog 27 #[.int .i64 lay, .int .i64 n] w fun e w' => e = .returned (.func (.func 30) #[] #[.pointer (some ⟨w.heap.size + 1, 0, none⟩), .pointer (some ⟨w.heap.size, 0, none⟩)]) ∧ w' = (w.alloc (.cells #[.int .i64 lay] 3)).alloc (.cells #[.int .i64 n] 3) := by
  refine callsIn_of_wp Tryd.func27 rfl trivial ?_ rfl
  simp only [Tryd.ntmps27, List.size_toArray, List.length_cons, List.length_nil, Nat.reduceAdd, Nat.reduceSub, Array.replicate_succ, Array.replicate_zero, List.push_toArray, List.append_toArray, List.nil_append, List.cons_append]
  gi_wp2
  go_ret
  exact ⟨rfl, rfl⟩
end LayWalk
end Go.Proofs.YtdgdhmglcpkkiaaDoor
