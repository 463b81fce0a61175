/- Rounded roots of quotients: what root.Near, root.Down and root.Ceil compute, as natural numbers, and what these are least or greatest of. -/
import Derived.Test.YtdpfljkcnlamlaaDoorGFloor
import Derived.Test.YtdpfljkcnlamlaaDoorPxRootNear
import Derived.Test.YtdpfljkcnlamlaaDoorPxRootDown
import Derived.Test.YtdpfljkcnlamlaaDoorPxRootCeil
namespace Go.Proofs.YtdpfljkcnlamlaaDoor
open Go.RowKit Go.Proofs.YtdpfljkcnlamlaaDoorW.PrintWords

/-- Told by an equation that the kernel need not reckon through. -/
theorem bind_s {α β : Type} (a : α) (f : α → Option β) : (some a).bind f = f a := Eq.symm (Eq.symm rfl)
theorem wrap64_id {a : Int} (h0 : -9223372036854775808 ≤ a) (h1 : a ≤ 9223372036854775807) : wrap64 a = a := by unfold wrap64; omega

/-- a divided by b, rounded up. -/
def cd (a b : Nat) : Nat := (a + b - 1) / b
theorem cd_le {a b q : Nat} (hb : 1 ≤ b) : cd a b ≤ q ↔ a ≤ q * b := by
  unfold cd
  rw [← Nat.lt_succ_iff, Nat.div_lt_iff_lt_mul (by omega), Nat.succ_mul]
  omega
/-- The least number whose square is c at least. -/
def csq (c : Nat) : Nat := if isq c * isq c < c then isq c + 1 else isq c
theorem csq_le {c q : Nat} : csq c ≤ q ↔ c ≤ q * q := by
  unfold csq
  have h1 := isq_le c
  have h2 := isq_lt c
  split
  · rename_i h
    constructor
    · intro hq; have := sq_mono hq; omega
    · intro hq
      refine Nat.lt_of_not_le fun hle => ?_
      have := sq_mono hle; omega
  · rename_i h
    constructor
    · intro hq; have := sq_mono hq; omega
    · intro hq; exact isq_le_of (by have : q * q < (q + 1) * (q + 1) := by simp only [Nat.add_mul, Nat.mul_add, Nat.mul_one, Nat.one_mul]; omega
                                    omega)
theorem le_isq_iff {n q : Nat} : q ≤ isq n ↔ q * q ≤ n := ⟨fun h => Nat.le_trans (sq_mono h) (isq_le n), le_isq⟩

def near (n d : Nat) : Nat := (isq (4 * n) / d + 1) / 2
def down (n m d : Nat) : Nat := isq (m * m * n) / d
def ceil (n k d : Nat) : Nat := cd (csq (cd n k)) d

theorem le_down {n m d q : Nat} (hd : 1 ≤ d) : q ≤ down n m d ↔ (q * d) * (q * d) ≤ m * m * n := by
  unfold down; rw [Nat.le_div_iff_mul_le (by omega), le_isq_iff]
theorem le_near {n d q : Nat} (hd : 1 ≤ d) : q ≤ near n d ↔ q = 0 ∨ ((2 * q - 1) * d) * ((2 * q - 1) * d) ≤ 4 * n := by
  unfold near
  rw [← le_isq_iff, ← Nat.le_div_iff_mul_le (by omega)]
  generalize isq (4 * n) / d = y
  omega
theorem ceil_le {n k d q : Nat} (hk : 1 ≤ k) (hd : 1 ≤ d) : ceil n k d ≤ q ↔ n ≤ (q * d) * (q * d) * k := by
  unfold ceil; rw [cd_le hd, csq_le, cd_le hk]

/-- Two numbers that are below the same numbers are one. -/
theorem eq_of_le_iff {a b : Nat} (h : ∀ q, q ≤ a ↔ q ≤ b) : a = b := Nat.le_antisymm ((h a).1 (Nat.le_refl _)) ((h b).2 (Nat.le_refl _))
theorem eq_of_ge_iff {a b : Nat} (h : ∀ q, a ≤ q ↔ b ≤ q) : a = b := Nat.le_antisymm ((h b).2 (Nat.le_refl _)) ((h a).1 (Nat.le_refl _))

theorem isq_bd {n : Nat} (h : n ≤ 9223372036854775807) : isq n ≤ 3037000499 := by
  refine isq_le_of ?_
  omega

theorem floor_eq {n : Nat} (h : n ≤ 9223372036854775807) : root_Floor.f (n : Int) = some (isq n : Int) := by
  unfold root_Floor.f; rw [if_pos (by omega)]; rfl
theorem near_eq {n d : Nat} (h : 4 * n ≤ 9223372036854775807) (hd : 1 ≤ d) : P.root_Near.f (n : Int) (d : Int) = some (near n d : Int) := by
  unfold P.root_Near.f near
  have hb := isq_bd h
  rw [wrap64_id (by omega) (by omega), show (4 : Int) * (n : Int) = ((4 * n : Nat) : Int) by omega, floor_eq h]
  simp only [bind_s]
  generalize isq (4 * n) = s at *
  rw [if_neg (by omega), Int.tdiv_eq_ediv_of_nonneg (a := (s : Int)) (by omega), ← Int.natCast_ediv]
  have h1 : s / d ≤ s := Nat.div_le_self _ _
  generalize s / d = z at *
  rw [wrap64_id (a := ((z : Nat) : Int)) (by omega) (by omega), wrap64_id (a := ((z : Nat) : Int) + 1) (by omega) (by omega), Int.tdiv_eq_ediv_of_nonneg (by omega), wrap64_id (by omega) (by omega)]
  congr 1
theorem down_eq {n m d : Nat} (hm : m ≤ 1000) (h : m * m * n ≤ 9223372036854775807) (hd : 1 ≤ d) : P.root_Down.f (n : Int) (m : Int) (d : Int) = some (down n m d : Int) := by
  unfold P.root_Down.f down
  have hb := isq_bd h
  have h2 : m * m ≤ 1000 * 1000 := Nat.mul_le_mul hm hm
  rw [show (m : Int) * (m : Int) = ((m * m : Nat) : Int) by simp, wrap64_id (a := ((m * m : Nat) : Int)) (by omega) (by omega), show ((m * m : Nat) : Int) * (n : Int) = ((m * m * n : Nat) : Int) by simp, wrap64_id (by omega) (by omega), floor_eq h]
  simp only [bind_s]
  generalize isq (m * m * n) = s at *
  rw [if_neg (by omega), Int.tdiv_eq_ediv_of_nonneg (a := (s : Int)) (by omega), ← Int.natCast_ediv]
  have h1 : s / d ≤ s := Nat.div_le_self _ _
  generalize s / d = z at *
  rw [wrap64_id (by omega) (by omega)]
theorem up_eq {a b : Nat} (ha : a ≤ 9000000000000000000) (hb : 1 ≤ b) (hb2 : b ≤ 100000000000) : P.root_up.f (a : Int) (b : Int) = some (cd a b : Int) := by
  unfold P.root_up.f cd
  rw [if_neg (by omega), wrap64_id (a := (a : Int) + b) (by omega) (by omega), wrap64_id (a := (a : Int) + b - 1) (by omega) (by omega), show (a : Int) + b - 1 = ((a + b - 1 : Nat) : Int) by omega, Int.tdiv_eq_ediv_of_nonneg (by omega), ← Int.natCast_ediv]
  have h1 : (a + b - 1) / b ≤ a + b - 1 := Nat.div_le_self _ _
  generalize (a + b - 1) / b = z at *
  rw [wrap64_id (by omega) (by omega)]
theorem csq_sq (c : Nat) : (isq c * isq c < c → csq c = isq c + 1) ∧ (¬ isq c * isq c < c → csq c = isq c) := by
  unfold csq
  exact ⟨fun h => if_pos h, fun h => if_neg h⟩
theorem ceil_eq {n k d : Nat} (hn : n ≤ 9000000000000000000) (hk : 1 ≤ k) (hk2 : k ≤ 100000000000) (hd : 1 ≤ d) (hd2 : d ≤ 100000000000) : P.root_Ceil.f (n : Int) (k : Int) (d : Int) = some (ceil n k d : Int) := by
  unfold P.root_Ceil.f ceil
  rw [up_eq hn hk hk2]
  simp only [bind_s]
  have h1 : cd n k ≤ n := (cd_le hk).2 (Nat.le_mul_of_pos_right _ (by omega))
  generalize cd n k = c at *
  have hc : c ≤ 9223372036854775807 := by omega
  rw [floor_eq hc]
  simp only [bind_s]
  obtain ⟨q1, q2⟩ := csq_sq c
  have hb := isq_bd hc
  have h2 := isq_le c
  generalize isq c = s at *
  generalize csq c = t at *
  have h3 : s * s ≤ 9223372036854775807 := by omega
  have e : ((s : Int) * (s : Int)) = ((s * s : Nat) : Int) := (Int.natCast_mul s s).symm
  rw [e]
  generalize s * s = ss at *
  rw [wrap64_id (a := (ss : Int)) (by omega) (by omega)]
  by_cases hs : ss < c
  · rw [if_pos (by omega), wrap64_id (by omega) (by omega), show (s : Int) + 1 = ((s + 1 : Nat) : Int) by omega, up_eq (by omega) hd hd2, q1 hs]
    simp only [bind_s]
  · rw [if_neg (by omega), up_eq (by omega) hd hd2, q2 hs]
    simp only [bind_s]
end Go.Proofs.YtdpfljkcnlamlaaDoor
