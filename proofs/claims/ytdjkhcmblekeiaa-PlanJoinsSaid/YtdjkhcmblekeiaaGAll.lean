/- slices.All over a slice of ints, and its closure: what comes, in its order, whatever the loop does with it. -/
import Derived.RangeFuncBox
import Derived.Shelf.Abstract
import Derived.Shelf.RegionOpen
import Derived.WalkKit
import Derived.OwnWalkIn
import Derived.TacticsInMore
import Derived.LoopNIn
import Derived.LoopIn
import Derived.Test.YtdjkhcmblekeiaaGRangeD
import Derived.Test.YtdjkhcmblekeiaaPx0
namespace Go.Proofs.Ytdjkhcmblekeiaa
open Go.RowKit
namespace AllWalk
open Go.RowKit Go.Shelf Go.Proofs.YtdjkhcmblekeiaaW.PrintWords RangeD
attribute [local go_sem] Oper.semAt_some

/-- What has come when k rounds are over. -/
def upto {α : Type} (f : Nat → α) (k : Nat) : List α := (List.range k).map f
theorem upto_succ {α : Type} (f : Nat → α) (k : Nat) : upto f (k + 1) = upto f k ++ [f k] := by simp [upto, List.range_succ]
theorem upto_length {α : Type} (f : Nat → α) (k : Nat) : (upto f k).length = k := by simp [upto]
theorem upto_pre {α : Type} (f : Nat → α) {j k : Nat} (h : j ≤ k) : upto f j <+: upto f k := by
  obtain ⟨d, rfl⟩ : ∃ d, k = j + d := ⟨k - j, by omega⟩
  clear h
  induction d with
  | zero => exact List.prefix_refl _
  | succ d ih => rw [show j + (d + 1) = (j + d) + 1 from rfl, upto_succ]; exact ih.trans (List.prefix_append _ _)
/-- The rounds of a slice of ints. -/
def inner (zs : List Int) : Nat → Nat × Int := fun j => (j, rd zs (j : Int))
def encI (x : Nat × Int) : Array Value := #[.int .i64 (x.1 : Int), .int .i64 x.2]

set_option maxRecDepth 100000 in
set_option maxHeartbeats 2000000 in
theorem all1_in (m : Nat) (hm : 1 ≤ m) (l Bs : Nat) (A : Option Addr) (cap : Nat) (zs : List Int) (w : World) (hz : zs.length ≤ 65536) (hC : Kd.C (Kd.int .i64) w A zs.length zs) (J Jx : List (Nat × Int) → World → Prop) (W : World)
    (hY : ∀ pre x W1, J pre W1 → pre.length < zs.length → YieldAt Fence.wide (m - 1) Try.prog l #[.int .i64 (x.1 : Int), .int .i64 x.2] W1 fun e W' =>
      (e = .returned (.bool true) ∧ J (pre ++ [x]) W' ∧ Below w.heap.size W1 W') ∨ (e = .returned (.bool false) ∧ Jx (pre ++ [x]) W'))
    (hwW : Below w.heap.size w W) (hBs : W.cell? ⟨Bs, 0, none⟩ = some (.slice A zs.length cap)) (h0 : J [] W) :
    CallsIn Fence.wide m Try.prog 30 #[.func (.yield l) #[] #[], .pointer (some ⟨Bs, 0, none⟩)] W fun e W' => (∃ v, e = .returned v) ∧
      ((∃ ys, ys = upto (inner zs) zs.length ∧ J ys W') ∨ (∃ pre, pre <+: upto (inner zs) zs.length ∧ Jx pre W')) := by
  refine callsIn_of_wp Try.func30 rfl trivial ?_ rfl
  simp only [Try.ntmps30, List.size_toArray, List.length_cons, List.length_nil, Nat.reduceAdd, Nat.reduceSub, Array.replicate_succ, Array.replicate_zero, List.push_toArray, List.append_toArray, List.nil_append, List.cons_append]
  gi_wp2
  gi_loopw [7] (fun i wr => ∃ k : Nat, k ≤ zs.length ∧ i = .int .i64 k ∧ J (upto (inner zs) k) wr ∧ Below w.heap.size w wr)
    (fun i _ => zs.length - (intOf i).toNat)
  case atStart => exact ⟨0, Nat.zero_le _, rfl, h0, hwW⟩
  case round =>
    obtain ⟨k, hk, rfl, hJs, hnx⟩ := hrel
    by_cases hlt : k < zs.length
    · obtain ⟨ad, rfl, hcx⟩ := Kd.at_int hC (k : Int) (by omega) (by omega)
      have hcx' := (hnx.cell (World.block_lt_of_cell? w _ hcx)).trans hcx
      clear hcx
      rw [Int.toNat_natCast] at hcx'
      obtain ⟨fn, tmps, assign, body, hy, hR⟩ := hY _ (inner zs k) wr hJs (by rw [upto_length]; exact hlt)
      simp only [inner] at hy
      gi_wp2
      refine hR.mono ?_
      rintro e W3 (⟨rfl, hJ3, hk3⟩ | ⟨rfl, hJx3⟩)
      · gi_wp2
        go_roundw
        case rel => exact ⟨k + 1, by omega, rfl, by rw [upto_succ]; exact hJ3, hnx.trans hk3⟩
        case measure => simp [intOf]; omega
      · gi_wp2
        refine bodyPost_ret (results_none rfl _ _ _) rfl ?_
        exact ⟨⟨_, rfl⟩, .inr ⟨_, by rw [← upto_succ]; exact upto_pre _ (by omega), hJx3⟩⟩
    · obtain rfl : k = zs.length := by omega
      gi_wp2
      go_end0
      exact ⟨⟨_, rfl⟩, .inl ⟨_, rfl, hJs⟩⟩
set_option maxHeartbeats 1000000 in
theorem all_in (m : Nat) (a : Option Addr) (len cap : Nat) (w : World) :
    CallsIn Fence.wide m Try.prog 29 #[.slice a len cap] w fun e w' => e = .returned (.func (.func 30) #[] #[.pointer (some ⟨w.heap.size, 0, none⟩)]) ∧ w' = w.alloc (.cells #[.slice a len cap] 33) := by
  refine callsIn_of_wp Try.func29 rfl trivial ?_ rfl
  simp only [Try.ntmps29, List.size_toArray, List.length_cons, List.length_nil, Nat.reduceAdd, Nat.reduceSub, Array.replicate_succ, Array.replicate_zero, List.push_toArray, List.append_toArray, List.nil_append, List.cons_append]
  gi_wp2
  go_ret
  exact ⟨rfl, rfl⟩
/-- slices.All hands back a value that gives all of zs, in order, with the places. w: the world in which the slice came in. -/
theorem all_seq (m : Nat) (hm : 1 ≤ m) (Bs : Nat) (A : Option Addr) (cap : Nat) (zs : List Int) (w W : World) (hz : zs.length ≤ 65536) (hC : Kd.C (Kd.int .i64) w A zs.length zs) (hwW : Below w.heap.size w W) (hB : Bs < W.heap.size) (hBs : W.cell? ⟨Bs, 0, none⟩ = some (.slice A zs.length cap)) :
    SeqD m Try.prog 30 #[.pointer (some ⟨Bs, 0, none⟩)] encI w.heap.size (fun ys => ys = upto (inner zs) zs.length) (fun pre => pre <+: upto (inner zs) zs.length) zs.length W := fun l J Jx V hV _ _ hY h0 =>
  all1_in m hm l Bs A cap zs w hz hC J Jx V (fun pre x W1 hj hl => (hY pre x W1 hj hl).mono fun _ _ hr => hr.imp (fun ⟨a, b, c, _⟩ => ⟨a, b, c⟩) (fun ⟨a, b, _⟩ => ⟨a, b⟩)) (hwW.trans (hV.mono hwW.size)) ((hV.cell (p := ⟨Bs, 0, none⟩) hB).trans hBs) h0
end AllWalk
end Go.Proofs.Ytdjkhcmblekeiaa
