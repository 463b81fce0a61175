/- Plain lemmas of layouts: which there are, and at which place a number stands. -/
import Derived.Test.YtdgdhmglcpkkiaaDoorGKeyword7
import Derived.Test.YtdgdhmglcpkkiaaDoorGEv
import Derived.Test.YtdgdhmglcpkkiaaDoorGLayM
import Derived.Test.YtdgdhmglcpkkiaaDoorMlb
set_option linter.unusedVariables false
set_option linter.unusedSimpArgs false
namespace Go.Proofs.YtdgdhmglcpkkiaaDoor
open Go.RowKit
namespace LayWalk
open Go.RowKit Go.Proofs.YtdgdhmglcpkkiaaDoorW.PrintWords Go.Proofs.YtdgdhmglcpkkiaaDoorW.PrintLast P KeyWalk
theorem bind_s {α β : Type} (a : α) (f : α → Option β) : (some a).bind f = f a := rfl
theorem kw_nil (a : Int) : (keyTxt a).toList = ([] : List UInt8) ↔ ¬ (1 ≤ a ∧ a ≤ 7) := by
  unfold keyTxt
  by_cases h : 1 ≤ a ∧ a ≤ 7
  · rw [if_pos h]
    refine ⟨fun e => ?_, fun hn => absurd h hn⟩
    exfalso
    rw [ByteArray.toList_eq] at e
    have : a = 1 ∨ a = 2 ∨ a = 3 ∨ a = 4 ∨ a = 5 ∨ a = 6 ∨ a = 7 := by omega
    rcases this with rfl | rfl | rfl | rfl | rfl | rfl | rfl <;> exact absurd e (by decide)
  · rw [if_neg h]
    exact ⟨fun _ => h, fun _ => by rw [ByteArray.toList_eq]⟩
def mayB (a0 a1 : Int) : Bool := decide (1 ≤ a0 ∧ a0 ≤ 7) && decide (1 ≤ a1 ∧ a1 ≤ 400)
theorem may_eq (a0 a1 : Int) : layout_may.f a0 a1 = some (mayB a0 a1) := by
  unfold layout_may.f layout_Keyword.f mayB
  rw [bind_s]
  by_cases h : 1 ≤ a0 ∧ a0 ≤ 7
  · rw [if_neg (mt (kw_nil a0).1 (by simpa using h)), decide_eq_true h, Bool.true_and]
    by_cases h1 : a1 ≥ 1
    · rw [if_pos h1]; congr 1; apply decide_eq_decide.2; omega
    · rw [if_neg h1, decide_eq_false (by omega)]
  · rw [if_pos ((kw_nil a0).2 h), decide_eq_false h, Bool.false_and]
theorem may_yes {lay n : Nat} (h1 : 1 ≤ lay ∧ lay ≤ 7) (h2 : 1 ≤ n ∧ n ≤ 400) : layout_may.f (lay : Int) (n : Int) = some true := by
  rw [may_eq]; unfold mayB; rw [decide_eq_true (by omega), decide_eq_true (by omega)]; rfl
theorem wid {z : Int} (h1 : -9000000 ≤ z) (h2 : z ≤ 9000000) : wrap64 z = z := by unfold wrap64; omega
theorem w4 {p q h l : Int} (b : 0 ≤ p ∧ p ≤ 170000) (c : 0 ≤ q ∧ q ≤ 170000) (d : 0 ≤ h ∧ h ≤ 1000) (e : 0 ≤ l ∧ l ≤ 1000) : wrap64 (wrap64 (wrap64 (wrap64 p - q) + h) - l) = p - q + h - l := by
  have e1 : wrap64 p = p := wid (by omega) (by omega)
  have e2 : wrap64 (p - q) = p - q := wid (by omega) (by omega)
  have e3 : wrap64 (p - q + h) = p - q + h := wid (by omega) (by omega)
  have e4 : wrap64 (p - q + h - l) = p - q + h - l := wid (by omega) (by omega)
  simp only [e1, e2, e3, e4]
theorem mn_nat (a b : Nat) : mn (a : Int) (b : Int) = ((min a b : Nat) : Int) := by unfold mn; omega
theorem mx_nat (a b : Nat) : mx (a : Int) (b : Int) = ((max a b : Nat) : Int) := by unfold mx; omega
theorem tri_cast (k : Nat) (h : k ≤ 401) : wrap64 (Int.tdiv (wrap64 ((k : Int) * (wrap64 ((k : Int) - 1)))) 2) = (tri k : Int) ∧ tri k ≤ 160801 := by
  have e : (k : Int) * ((k : Int) - 1) = ((k * (k - 1) : Nat) : Int) := by
    cases k with
    | zero => rfl
    | succ k => rw [show ((k + 1 : Nat) : Int) - 1 = (k : Int) by omega, ← Int.natCast_mul]; rfl
  have b : k * (k - 1) ≤ 401 * 401 := Nat.mul_le_mul h (by omega)
  unfold tri
  rw [wid (z := (k : Int) - 1) (by omega) (by omega), e]
  generalize k * (k - 1) = p at *
  rw [wid (z := ((p : Nat) : Int)) (by omega) (by omega), show Int.tdiv ((p : Nat) : Int) 2 = ((p / 2 : Nat) : Int) from rfl, wid (by omega) (by omega)]
  exact ⟨rfl, by omega⟩
theorem tri_cast' (k : Nat) (h : k ≤ 400) : wrap64 (Int.tdiv (wrap64 ((k : Int) * (wrap64 ((k : Int) + 1)))) 2) = (tri (k + 1) : Int) ∧ tri (k + 1) ≤ 160801 := by
  have e : (k : Int) * ((k : Int) + 1) = (((k + 1) * (k + 1 - 1) : Nat) : Int) := by
    rw [show (k : Int) + 1 = ((k + 1 : Nat) : Int) by omega, ← Int.natCast_mul, Nat.mul_comm]; rfl
  have b : (k + 1) * (k + 1 - 1) ≤ 401 * 401 := Nat.mul_le_mul (by omega) (by omega)
  unfold tri
  rw [wid (z := (k : Int) + 1) (by omega) (by omega), e]
  generalize (k + 1) * (k + 1 - 1) = p at *
  rw [wid (z := ((p : Nat) : Int)) (by omega) (by omega), show Int.tdiv ((p : Nat) : Int) 2 = ((p / 2 : Nat) : Int) from rfl, wid (by omega) (by omega)]
  exact ⟨rfl, by omega⟩
theorem wa {p q : Int} (b : 0 ≤ p ∧ p ≤ 170000) (c : 0 ≤ q ∧ q ≤ 170000) : wrap64 (wrap64 p + q) = p + q := by
  have e1 : wrap64 p = p := wid (by omega) (by omega)
  rw [e1]; exact wid (by omega) (by omega)
theorem wb {p q : Int} (b : 0 ≤ p ∧ p ≤ 170000) (c : 0 ≤ q ∧ q ≤ 170000) : wrap64 (p + q) = p + q := wid (by omega) (by omega)
theorem w5 {p q h l : Int} (b : 0 ≤ p ∧ p ≤ 170000) (c : 0 ≤ q ∧ q ≤ 170000) (d : 0 ≤ h ∧ h ≤ 1000) (e : 0 ≤ l ∧ l ≤ 1000) : wrap64 (wrap64 (wrap64 (wrap64 (wrap64 p - q) + h) - l) - 1) = p - q + h - l - 1 := by
  rw [w4 b c d e]; exact wid (by omega) (by omega)
theorem mul_b {a n : Nat} (ha : a ≤ 400) (hn : n ≤ 400) : 0 ≤ (a : Int) * (n : Int) ∧ (a : Int) * (n : Int) ≤ 170000 := by
  have h : a * n ≤ 400 * 400 := Nat.mul_le_mul ha hn
  rw [← Int.natCast_mul]
  omega
theorem index_j {lay n i j lo hh : Nat} (hl : 1 ≤ lay ∧ lay ≤ 7) (elo : min i j = lo) (ehh : max i j = hh) (hn : n ≤ 400) (hi : i ≤ 400) (hj : j ≤ 400) (k : Nat) : layout_Index.j0 (k + 1) (lay : Int) (n : Int) (i : Int) (j : Int) false = some (idx lay n i j) := by
  simp only [layout_Index.j0]
  rw [if_neg (by decide), mn_nat, mx_nat, elo, ehh]
  have l0 : lo ≤ 400 := by omega
  have h0 : hh ≤ 400 := by omega
  have lh : lo ≤ hh := by omega
  have B1 := mul_b hi hn
  have B2 := mul_b l0 hn
  have t1 := tri_cast lo (by omega)
  have t2 := tri_cast' hh (by omega)
  have t3 := tri_cast' lo (by omega)
  have t4 := tri_cast hh (by omega)
  have c1 : 0 ≤ (tri lo : Int) ∧ (tri lo : Int) ≤ 170000 := by have := t1.2; omega
  have c2 : 0 ≤ (tri (hh + 1) : Int) ∧ (tri (hh + 1) : Int) ≤ 170000 := by have := t2.2; omega
  have c3 : 0 ≤ (tri (lo + 1) : Int) ∧ (tri (lo + 1) : Int) ≤ 170000 := by have := t3.2; omega
  have c4 : 0 ≤ (tri hh : Int) ∧ (tri hh : Int) ≤ 170000 := by have := t4.2; omega
  rw [t1.1, t2.1, t3.1, t4.1]
  have bl : 0 ≤ (lo : Int) ∧ (lo : Int) ≤ 1000 := by omega
  have bh : 0 ≤ (hh : Int) ∧ (hh : Int) ≤ 1000 := by omega
  have bj : 0 ≤ (j : Int) ∧ (j : Int) ≤ 170000 := by omega
  have bl' : 0 ≤ (lo : Int) ∧ (lo : Int) ≤ 170000 := by omega
  clear t1 t2 t3 t4
  have e1 := wa B1 bj
  have e2 := w4 B2 c1 bh bl
  have e3 := wb c2 bl'
  have e4 := w5 B2 c3 bh bl
  have e5 := wb c4 bl'
  rw [e1, e2, e3, e4, e5]
  unfold idx
  rw [elo, ehh, Int.natCast_add, Int.natCast_mul, Int.natCast_mul]
  clear e1 e2 e3 e4 e5 B1 B2 c1 c2 c3 c4 bl bh bj bl' elo ehh hi hj hn l0 h0
  have hc : lay = 1 ∨ lay = 2 ∨ lay = 3 ∨ lay = 4 ∨ lay = 5 ∨ lay = 6 ∨ lay = 7 := by omega
  have hq : ((lo : Int) = (hh : Int)) ↔ (lo = hh) := by omega
  rcases hc with rfl | rfl | rfl | rfl | rfl | rfl | rfl
  · rfl
  · by_cases h : lo = hh <;> simp [hq, h]
  · by_cases h : lo = hh <;> simp [hq, h]
  · rfl
  · rfl
  · by_cases h : lo = hh <;> simp [hq, h]
  · by_cases h : lo = hh <;> simp [hq, h]
theorem index_eq {lay n i j : Nat} (hl : 1 ≤ lay ∧ lay ≤ 7) (hn : 1 ≤ n ∧ n ≤ 400) (hi : i < n) (hj : j < n) (k : Nat) : layout_Index.f (k + 1) (lay : Int) (n : Int) (i : Int) (j : Int) = some (idx lay n i j) := by
  unfold layout_Index.f
  rw [may_yes hl hn, bind_s, if_pos rfl, if_neg (by omega), if_neg (by omega), if_neg (by omega), decide_eq_false (by omega)]
  exact index_j hl rfl rfl (by omega) (by omega) (by omega) k
/-- Elsewhere there is none. -/
theorem index_no {a0 a1 a2 a3 : Int} (h : ¬ (mayB a0 a1 = true ∧ 0 ≤ a2 ∧ a2 < a1 ∧ 0 ≤ a3 ∧ a3 < a1)) (k : Nat) : layout_Index.f (k + 1) a0 a1 a2 a3 = some (-1) := by
  unfold layout_Index.f
  rw [may_eq, bind_s]
  have go : layout_Index.j0 (k + 1) a0 a1 a2 a3 true = some (-1) := by simp only [layout_Index.j0]; rw [if_pos trivial]
  by_cases h0 : mayB a0 a1 = true
  · rw [if_pos h0]
    by_cases h1 : a2 < 0
    · rw [if_pos h1, go]
    rw [if_neg h1]
    by_cases h2 : a2 ≥ a1
    · rw [if_pos h2, go]
    rw [if_neg h2]
    by_cases h3 : a3 < 0
    · rw [if_pos h3, go]
    rw [if_neg h3, decide_eq_true (by
      apply Classical.byContradiction; intro h4
      exact h ⟨h0, by omega, by omega, by omega, by omega⟩), go]
  · rw [if_neg h0, go]
theorem sq_b {n : Nat} (hn : n ≤ 400) : 0 ≤ (n : Int) * (n : Int) ∧ (n : Int) * (n : Int) ≤ 170000 := mul_b hn hn
theorem tri_mul (n : Nat) : n * n + n = tri (n + 1) * 2 ∧ n * n = tri n * 2 + n := by
  have h1 := tri2 n
  have h2 := tri_succ n
  omega
theorem count_eq {lay n : Nat} (hl : 1 ≤ lay ∧ lay ≤ 7) (hn : 1 ≤ n ∧ n ≤ 400) : layout_Count.f (lay : Int) (n : Int) = some (cnt lay n : Int) := by
  unfold layout_Count.f cnt
  rw [may_yes hl hn, bind_s, if_pos rfl]
  have b := sq_b hn.2
  have e := tri_mul n
  rw [← Int.natCast_mul] at *
  generalize n * n = p at *
  generalize tri (n + 1) = q at *
  generalize tri n = r at *
  have e1 : wrap64 (p : Int) = (p : Int) := wid (by omega) (by omega)
  have e2 : wrap64 (Int.tdiv (wrap64 ((p : Int) + n)) 2) = (q : Int) := by
    rw [wid (z := (p : Int) + n) (by omega) (by omega), show (p : Int) + n = ((q * 2 : Nat) : Int) by omega, show Int.tdiv ((q * 2 : Nat) : Int) 2 = ((q * 2 / 2 : Nat) : Int) from rfl, Nat.mul_div_cancel _ (by decide)]
    exact wid (by omega) (by omega)
  have e3 : wrap64 (Int.tdiv (wrap64 ((p : Int) - n)) 2) = (r : Int) := by
    rw [wid (z := (p : Int) - n) (by omega) (by omega), show (p : Int) - n = ((r * 2 : Nat) : Int) by omega, show Int.tdiv ((r * 2 : Nat) : Int) 2 = ((r * 2 / 2 : Nat) : Int) from rfl, Nat.mul_div_cancel _ (by decide)]
    exact wid (by omega) (by omega)
  rw [e1, e2, e3]
  clear e1 e2 e3 e b hn
  have hc : lay = 1 ∨ lay = 2 ∨ lay = 3 ∨ lay = 4 ∨ lay = 5 ∨ lay = 6 ∨ lay = 7 := by omega
  rcases hc with rfl | rfl | rfl | rfl | rfl | rfl | rfl <;> rfl
theorem count_no {a0 a1 : Int} (h : mayB a0 a1 = false) : layout_Count.f a0 a1 = some 0 := by
  unfold layout_Count.f
  rw [may_eq, bind_s, h, if_neg (by decide)]
theorem may_nat {a0 a1 : Int} (h : mayB a0 a1 = true) : ∃ lay n : Nat, a0 = lay ∧ a1 = n ∧ (1 ≤ lay ∧ lay ≤ 7) ∧ (1 ≤ n ∧ n ≤ 400) := by
  unfold mayB at h
  rw [Bool.and_eq_true] at h
  have h1 := of_decide_eq_true h.1
  have h2 := of_decide_eq_true h.2
  exact ⟨a0.toNat, a1.toNat, by omega, by omega, by omega, by omega⟩
end LayWalk
end Go.Proofs.YtdgdhmglcpkkiaaDoor
