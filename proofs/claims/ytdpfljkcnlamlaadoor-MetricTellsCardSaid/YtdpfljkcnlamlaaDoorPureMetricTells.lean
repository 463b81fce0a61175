/- Any distance, in any scale, is the document's, or its error. -/
import Derived.Test.YtdpfljkcnlamlaaDoorPxEntrepotlaw06MetricTells
import Derived.Test.YtdpfljkcnlamlaaDoorGMet
namespace Go.Proofs.YtdpfljkcnlamlaaDoor.Pure
open Go.RowKit Go.Proofs.YtdpfljkcnlamlaaDoor.P Go.Proofs.YtdpfljkcnlamlaaDoorW.PrintWords Go.Proofs.YtdpfljkcnlamlaaDoorW.PrintLast
open DistWalk
/-- The greatest number of which something holds, bit by bit. -/
theorem great {wy n m d : Int} {G : Nat} (hH : ∀ q : Nat, 1 ≤ q → q < 4294967296 → entrepotref05_holds.f wy (q : Int) n m d = some (decide (q ≤ G))) :
    ∀ (j k q : Nat), j + 3 ≤ k → q ≤ G → G < q + 2 ^ (j + 1) → q + 2 ^ (j + 1) ≤ 4294967296 → entrepotref05_greatest.l0 k wy n m d (q : Int) ((2 ^ j : Nat) : Int) = some (G : Int) := by
  intro j
  induction j with
  | zero =>
    intro k q hk h1 h2 h3
    obtain ⟨k, rfl⟩ : ∃ k', k = k' + 1 + 1 := ⟨k - 2, by omega⟩
    simp only [entrepotref05_greatest.l0]
    rw [if_pos (by omega), show (q : Int) + ((2 ^ 0 : Nat) : Int) = ((q + 1 : Nat) : Int) by omega, wrap64_id (by omega) (by omega), hH (q + 1) (by omega) (by omega), bind_s,
      show wrap64 (Int.tdiv ((2 ^ 0 : Nat) : Int) 2) = 0 from wrap64_id (a := 0) (by omega) (by omega)]
    by_cases hg : q + 1 ≤ G
    · rw [if_pos (decide_eq_true hg), if_neg (by omega)]; congr 2; omega
    · rw [if_neg (by simpa using hg), if_neg (by omega)]; congr 2; omega
  | succ j ih =>
    intro k q hk h1 h2 h3
    obtain ⟨k, rfl⟩ : ∃ k', k = k' + 1 := ⟨k - 1, by omega⟩
    have e : 2 ^ (j + 1 + 1) = 2 ^ (j + 1) * 2 := Nat.pow_succ ..
    have e2 : 2 ^ (j + 1) = 2 ^ j * 2 := Nat.pow_succ ..
    have e3 : 1 ≤ 2 ^ j := Nat.pow_pos (by omega)
    have e4 : wrap64 (Int.tdiv ((2 ^ (j + 1) : Nat) : Int) 2) = ((2 ^ j : Nat) : Int) := by
      rw [Int.tdiv_eq_ediv_of_nonneg (by omega), wrap64_id (by omega) (by omega)]; omega
    simp only [entrepotref05_greatest.l0]
    rw [if_pos (by omega), show (q : Int) + ((2 ^ (j + 1) : Nat) : Int) = ((q + 2 ^ (j + 1) : Nat) : Int) by omega, wrap64_id (by omega) (by omega), hH (q + 2 ^ (j + 1)) (by omega) (by omega), bind_s, e4]
    by_cases hg : q + 2 ^ (j + 1) ≤ G
    · rw [if_pos (decide_eq_true hg)]; exact ih k _ (by omega) hg (by omega) (by omega)
    · rw [if_neg (by simpa using hg)]; exact ih k _ (by omega) h1 (by omega) (by omega)
theorem great_f {wy n m d : Int} {G : Nat} (hG : G < 4294967296) (hH : ∀ q : Nat, 1 ≤ q → q < 4294967296 → entrepotref05_holds.f wy (q : Int) n m d = some (decide (q ≤ G))) (k : Nat) (hk : 34 ≤ k) :
    entrepotref05_greatest.f k wy n m d = some (G : Int) := by
  unfold entrepotref05_greatest.f
  exact great hH 31 k 0 (by omega) (by omega) (by omega) (by omega)
theorem quo (a d : Nat) (ha : a ≤ 3000000000) : wrap64 (Int.tdiv (a : Int) (d : Int)) = ((a / d : Nat) : Int) := by
  have : a / d ≤ a := Nat.div_le_self _ _
  rw [Int.tdiv_eq_ediv_of_nonneg (by omega), ← Int.natCast_ediv]
  generalize a / d = z at *
  rw [wrap64_id (by omega) (by omega)]
theorem sq_lt {a b c : Nat} (h : a * a ≤ c) (hc : c < (b + 1) * (b + 1)) : a ≤ b := by
  refine Nat.le_of_not_lt fun hn => ?_
  have := sq_mono (show b + 1 ≤ a from hn)
  omega
theorem holds0 {n d q : Nat} (hn : n ≤ 80000000000000000) (hd : 1 ≤ d ∧ d ≤ 1000000) (hq : 1 ≤ q) : entrepotref05_holds.f 0 (q : Int) (n : Int) 0 (d : Int) = some (decide (q ≤ near n d)) := by
  unfold entrepotref05_holds.f
  have hb : q ≤ near n d → q * d ≤ 600000000 := fun h => by
    rcases (le_near hd.1).1 h with h | h
    · omega
    · have h1 := sq_lt (b := 600000000) h (by omega)
      have h2 : q * d ≤ (2 * q - 1) * d := Nat.mul_le_mul_right _ (by omega)
      omega
  have q1 : wrap64 (Int.tdiv (3000000000 : Int) (d : Int)) = ((3000000000 / d : Nat) : Int) := quo 3000000000 d (by omega)
  have q2 : wrap64 (Int.tdiv (1000000000 : Int) (d : Int)) = ((1000000000 / d : Nat) : Int) := quo 1000000000 d (by omega)
  rw [if_neg (by omega), q1, q2, if_pos rfl]
  by_cases h1 : q ≤ 3000000000 / d
  · rw [if_neg (by omega)]
    by_cases h2 : q < 1000000000 / d
    · rw [if_pos (by omega)]
      have h3 : (q + 1) * d ≤ 1000000000 := (Nat.le_div_iff_mul_le (by omega)).1 h2
      have h4 : (2 * q - 1) * d ≤ 2000000000 := by
        have : (2 * q - 1) * d ≤ 2 * ((q + 1) * d) := by rw [← Nat.mul_assoc]; exact Nat.mul_le_mul_right _ (by omega)
        omega
      have h5 : (2 * q - 1) * d * ((2 * q - 1) * d) ≤ 2000000000 * 2000000000 := Nat.mul_le_mul h4 h4
      have hq9 : q ≤ 3000000000 := Nat.le_trans h1 (Nat.div_le_self _ _)
      rw [wrap64_id (a := 2 * (q : Int)) (by omega) (by omega), show 2 * (q : Int) - 1 = ((2 * q - 1 : Nat) : Int) by omega, wrap64_id (a := ((2 * q - 1 : Nat) : Int)) (by omega) (by omega), ← Int.natCast_mul,
        wrap64_id (a := (((2 * q - 1) * d : Nat) : Int)) (by omega) (by omega), ← Int.natCast_mul, wrap64_id (by omega) (by omega), show 4 * (n : Int) = ((4 * n : Nat) : Int) by omega, wrap64_id (by omega) (by omega)]
      congr 1
      apply decide_eq_decide.2
      rw [le_near hd.1]
      omega
    · rw [if_neg (by omega)]
      congr 1
      refine (decide_eq_false fun h => h2 ?_).symm
      have := hb h
      refine (Nat.le_div_iff_mul_le (by omega)).2 ?_
      rw [Nat.succ_mul]; omega
  · rw [if_pos (by omega)]
    congr 1
    refine (decide_eq_false fun h => h1 ?_).symm
    have := hb h
    exact (Nat.le_div_iff_mul_le (by omega)).2 (by omega)
theorem holds1 {n d q : Nat} (hn : n ≤ 80000000000000000) (hd : 1 ≤ d ∧ d ≤ 1000000) : entrepotref05_holds.f 1 (q : Int) (n : Int) 10 (d : Int) = some (decide (q ≤ down n 10 d)) := by
  unfold entrepotref05_holds.f
  have q1 : wrap64 (Int.tdiv (3000000000 : Int) (d : Int)) = ((3000000000 / d : Nat) : Int) := quo 3000000000 d (by omega)
  rw [if_neg (by omega), q1]
  by_cases h1 : q ≤ 3000000000 / d
  · rw [if_neg (by omega), if_neg (by decide), if_pos rfl]
    have h3 : q * d ≤ 3000000000 := (Nat.le_div_iff_mul_le (by omega)).1 h1
    have h5 : q * d * (q * d) ≤ 3000000000 * 3000000000 := Nat.mul_le_mul h3 h3
    rw [← Int.natCast_mul, wrap64_id (a := ((q * d : Nat) : Int)) (by omega) (by omega), ← Int.natCast_mul, wrap64_id (by omega) (by omega), show wrap64 (10 * 10) = 100 from wrap64_id (a := 100) (by omega) (by omega), wrap64_id (by omega) (by omega)]
    congr 1
    apply decide_eq_decide.2
    rw [le_down hd.1]
    omega
  · rw [if_pos (by omega)]
    congr 1
    refine (decide_eq_false fun h => h1 ?_).symm
    have := sq_lt (b := 2900000000) ((le_down hd.1).1 h) (by omega)
    exact (Nat.le_div_iff_mul_le (by omega)).2 (by omega)
theorem holds2 {n d k q : Nat} (hn : n ≤ 80000000000000000) (hd : 1 ≤ d ∧ d ≤ 1000000) (hk : 1 ≤ k ∧ k ≤ 10) : entrepotref05_holds.f 2 (q : Int) (n : Int) (k : Int) (d : Int) = some (decide (q + 1 ≤ ceil n k d)) := by
  unfold entrepotref05_holds.f
  have hc : q + 1 ≤ ceil n k d ↔ q * d * (q * d) * k < n := by
    have := ceil_le (n := n) (q := q) hk.1 hd.1
    omega
  have hb : q + 1 ≤ ceil n k d → q * d ≤ 290000000 := fun h => by
    have h1 := hc.1 h
    have h2 : q * d * (q * d) ≤ q * d * (q * d) * k := Nat.le_mul_of_pos_right _ (by omega)
    exact sq_lt (b := 290000000) (show q * d * (q * d) ≤ 80000000000000000 by omega) (by omega)
  have q1 : wrap64 (Int.tdiv (3000000000 : Int) (d : Int)) = ((3000000000 / d : Nat) : Int) := quo 3000000000 d (by omega)
  have q2 : wrap64 (Int.tdiv (300000000 : Int) (d : Int)) = ((300000000 / d : Nat) : Int) := quo 300000000 d (by omega)
  rw [if_neg (by omega), q1, q2]
  by_cases h1 : q ≤ 3000000000 / d
  · rw [if_neg (by omega), if_neg (by decide), if_neg (by decide)]
    by_cases h2 : q ≤ 300000000 / d
    · rw [if_pos (by omega)]
      have h3 : q * d ≤ 300000000 := (Nat.le_div_iff_mul_le (by omega)).1 h2
      have h5 : q * d * (q * d) ≤ 300000000 * 300000000 := Nat.mul_le_mul h3 h3
      have h6 : q * d * (q * d) * k ≤ 300000000 * 300000000 * 10 := Nat.mul_le_mul h5 hk.2
      rw [← Int.natCast_mul, wrap64_id (a := ((q * d : Nat) : Int)) (by omega) (by omega), ← Int.natCast_mul, wrap64_id (a := ((q * d * (q * d) : Nat) : Int)) (by omega) (by omega), ← Int.natCast_mul, Nat.mul_comm k, wrap64_id (by omega) (by omega)]
      congr 1
      apply decide_eq_decide.2
      rw [hc]
      omega
    · rw [if_neg (by omega)]
      congr 1
      refine (decide_eq_false fun h => h2 ?_).symm
      have := hb h
      exact (Nat.le_div_iff_mul_le (by omega)).2 (by omega)
  · rw [if_pos (by omega)]
    congr 1
    refine (decide_eq_false fun h => h1 ?_).symm
    have := hb h
    exact (Nat.le_div_iff_mul_le (by omega)).2 (by omega)
theorem near_ref {n d : Nat} (hn : n ≤ 80000000000000000) (hd : 1 ≤ d ∧ d ≤ 1000000) (k : Nat) (hk : 34 ≤ k) : entrepotref05_Near.f k (n : Int) (d : Int) = some (near n d : Int) := by
  unfold entrepotref05_Near.f
  have hG : near n d < 4294967296 := by
    rcases (le_near (n := n) hd.1).1 (Nat.le_refl _) with h | h
    · omega
    · have h1 := sq_lt (b := 600000000) h (by omega)
      have h2 : (2 * near n d - 1) * 1 ≤ (2 * near n d - 1) * d := Nat.mul_le_mul_left _ hd.1
      omega
  rw [great_f hG (fun q h1 _ => holds0 hn hd h1) k hk]; rfl
theorem down_ref {n d : Nat} (hn : n ≤ 80000000000000000) (hd : 1 ≤ d ∧ d ≤ 1000000) (k : Nat) (hk : 34 ≤ k) : entrepotref05_Down.f k (n : Int) 10 (d : Int) = some (down n 10 d : Int) := by
  unfold entrepotref05_Down.f
  have hG : down n 10 d < 4294967296 := by
    have h1 := sq_lt (b := 2900000000) ((le_down (n := n) (m := 10) hd.1).1 (Nat.le_refl _)) (by omega)
    have h2 : down n 10 d * 1 ≤ down n 10 d * d := Nat.mul_le_mul_left _ hd.1
    omega
  rw [great_f hG (fun q _ _ => holds1 hn hd) k hk]; rfl
theorem ceil_ref {n d c : Nat} (hn : n ≤ 80000000000000000) (hd : 1 ≤ d ∧ d ≤ 1000000) (hc : 1 ≤ c ∧ c ≤ 10) (k : Nat) (hk : 34 ≤ k) : entrepotref05_Ceil.f k (n : Int) (c : Int) (d : Int) = some (ceil n c d : Int) := by
  unfold entrepotref05_Ceil.f
  by_cases h0 : n = 0
  · subst h0
    have : ceil 0 c d = 0 := Nat.le_zero.1 ((ceil_le hc.1 hd.1).2 (by omega))
    rw [if_pos (by omega), this]; rfl
  · have hp : 1 ≤ ceil n c d := by
      refine Nat.le_of_not_lt fun h => ?_
      have := (ceil_le (n := n) (q := 0) hc.1 hd.1).1 (by omega)
      omega
    have hG : ceil n c d ≤ 1000000000 := by
      rw [ceil_le hc.1 hd.1]
      have h1 : 1000000000 ≤ 1000000000 * d := Nat.le_mul_of_pos_right _ (by omega)
      have h2 : 1000000000 * 1000000000 ≤ 1000000000 * d * (1000000000 * d) := Nat.mul_le_mul h1 h1
      have h3 : 1000000000 * d * (1000000000 * d) ≤ 1000000000 * d * (1000000000 * d) * c := Nat.le_mul_of_pos_right _ (by omega)
      omega
    have hg := great_f (wy := 2) (n := (n : Int)) (m := (c : Int)) (d := (d : Int)) (G := ceil n c d - 1) (by omega) (fun q _ _ => by
      rw [holds2 hn hd hc]; congr 1; apply decide_eq_decide.2; omega) k hk
    rw [if_neg (by omega), hg, bind_s, wrap64_id (by omega) (by omega)]
    congr 1; omega
theorem nst_ref {a t : Nat} (ha : a ≤ 400000000) (ht : 1 ≤ t ∧ t ≤ 1000000) (he : t = 1 ∨ t % 2 = 0) : entrepotref06_nearest.f (a : Int) (t : Int) = some (nst a t : Int) := by
  unfold entrepotref06_nearest.f
  rw [wrap64_id (a := 2 * (t : Int)) (by omega) (by omega), wrap64_id (a := 2 * (a : Int)) (by omega) (by omega), wrap64_id (a := 2 * (a : Int) + (t : Int)) (by omega) (by omega), if_neg (by omega),
    show 2 * (a : Int) + (t : Int) = ((2 * a + t : Nat) : Int) by omega, show 2 * (t : Int) = ((2 * t : Nat) : Int) by omega, Int.tdiv_eq_ediv_of_nonneg (by omega), ← Int.natCast_ediv]
  have e : (2 * a + t) / (2 * t) = nst a t := by
    unfold nst
    rcases he with rfl | h
    · omega
    · rw [show 2 * a + t = 2 * (a + t / 2) by omega, Nat.mul_div_mul_left _ _ (by omega)]
  have h1 : (2 * a + t) / (2 * t) ≤ 2 * a + t := Nat.div_le_self _ _
  rw [e] at *
  generalize nst a t = z at *
  rw [wrap64_id (by omega) (by omega)]
theorem ten_even (k : Nat) : ten k = 1 ∨ ten k % 2 = 0 := by
  cases k with
  | zero => left; rfl
  | succ k => right; rw [ten_succ]; omega
theorem nst_mono {a b t : Nat} (ht : 1 ≤ t) (h : a ≤ b) : nst a t ≤ nst b t := by
  rw [le_nst ht]
  have := (le_nst (a := a) ht).1 (Nat.le_refl _)
  omega
theorem nst_max {a b t : Nat} (ht : 1 ≤ t) : max (nst a t) (nst b t) = nst (max a b) t := by
  rcases Nat.le_total a b with h | h
  · rw [Nat.max_eq_right h, Nat.max_eq_right (nst_mono ht h)]
  · rw [Nat.max_eq_left h, Nat.max_eq_left (nst_mono ht h)]
theorem mx_nat (a b : Nat) : mx (a : Int) (b : Int) = ((max a b : Nat) : Int) := by unfold mx; omega
/-- The document's way, at its scale's last round. -/
theorem ref_way {m s : Int} {x y : Int} (hb : ¬ badK m s) (hx : ¬ far x) (hy : ¬ far y) : ∀ (j k : Nat), s.toNat - j + 40 ≤ k → j ≤ s.toNat →
    entrepotref06_Dist.l0 k m s (x.natAbs : Int) (y.natAbs : Int) (sq2 x y : Int) (ten j : Int) (j : Int) = some ((way m (ten s.toNat) x y : Int), 0) := by
  have hs : s.toNat ≤ 6 ∧ 0 ≤ s := by unfold badK at hb; omega
  have hm : 1 ≤ m ∧ m ≤ 6 := by unfold badK at hb; omega
  intro j k
  obtain ⟨e, he⟩ : ∃ e, e = s.toNat - j := ⟨_, rfl⟩
  induction e generalizing j k with
  | zero =>
    intro hk hj
    obtain rfl : j = s.toNat := by omega
    obtain ⟨k, rfl⟩ : ∃ k', k = k' + 1 := ⟨k - 1, by omega⟩
    have ht := ten_le hs.1
    have hn := sum_sq hx hy
    simp only [entrepotref06_Dist.l0]
    rw [if_neg (by omega)]
    unfold way
    have hab : x.natAbs ≤ 200000000 ∧ y.natAbs ≤ 200000000 := by unfold far at hx hy; omega
    have hev := ten_even s.toNat
    by_cases m1 : m = 1
    · rw [if_pos m1, if_pos m1, near_ref hn.2 ht k (by omega)]; rfl
    rw [if_neg m1, if_neg m1]
    by_cases m2 : m = 2
    · rw [if_pos m2, if_pos m2, show (1 : Int) = ((1 : Nat) : Int) from rfl, ceil_ref hn.2 ht (by omega) k (by omega)]; rfl
    rw [if_neg m2, if_neg m2]
    by_cases m3 : m = 3
    · rw [if_pos m3, if_pos m3, show (x.natAbs : Int) + (y.natAbs : Int) = ((x.natAbs + y.natAbs : Nat) : Int) by omega, wrap64_id (by omega) (by omega), nst_ref (by omega) ht hev]; rfl
    rw [if_neg m3, if_neg m3]
    by_cases m4 : m = 4
    · rw [if_pos m4, if_pos m4, nst_ref (by omega) ht hev, bind_s, nst_ref (by omega) ht hev, bind_s, mx_nat, nst_max ht.1]
    rw [if_neg m4, if_neg m4]
    by_cases m5 : m = 5
    · rw [if_pos m5, if_pos m5, show (10 : Int) = ((10 : Nat) : Int) from rfl, ceil_ref hn.2 ht (by omega) k (by omega)]; rfl
    rw [if_neg m5, if_neg m5, down_ref hn.2 ht k (by omega)]; rfl
  | succ e ih =>
    intro hk hj
    obtain ⟨k, rfl⟩ : ∃ k', k = k' + 1 := ⟨k - 1, by omega⟩
    have ht := ten_le (show j ≤ 6 by omega)
    simp only [entrepotref06_Dist.l0]
    rw [if_pos (by omega), show 10 * ((ten j : Nat) : Int) = ((ten (j + 1) : Nat) : Int) by rw [ten_succ]; omega, show (j : Int) + 1 = ((j + 1 : Nat) : Int) by omega]
    have ht2 : ten (j + 1) ≤ 10000000 := by rw [ten_succ]; omega
    rw [wrap64_id (by omega) (by omega), wrap64_id (by omega) (by omega)]
    exact ih (j + 1) k (by omega) (by omega) (by omega)
theorem ref_far (a : Int) : entrepotref06_far.f a = some (decide (far a)) := by
  unfold entrepotref06_far.f
  by_cases h : a < -200000000
  · rw [if_pos h, decide_eq_true (show far a from Or.inl h)]
  · rw [if_neg h]; congr 1; apply decide_eq_decide.2; unfold far; omega
theorem mx_abs {a : Int} (h : ¬ far a) : mx a (wrap64 (-a)) = (a.natAbs : Int) := by
  rw [(far_neg h).2]; unfold mx; omega
theorem ref_dist (m s x y : Int) : entrepotref06_Dist.f 60 m s x y = metric_Dist.f m s x y := by
  have bad : badK m s → entrepotref06_Dist.j0 60 m s x y true = metric_Dist.f m s x y := fun h => by rw [dist_bad x y h]; rfl
  unfold entrepotref06_Dist.f
  by_cases h1 : m < 1
  · rw [if_pos h1]; exact bad (by unfold badK; omega)
  rw [if_neg h1]
  by_cases h2 : m > 6
  · rw [if_pos h2]; exact bad (by unfold badK; omega)
  rw [if_neg h2]
  by_cases h3 : s < 0
  · rw [if_pos h3]; exact bad (by unfold badK; omega)
  rw [if_neg h3]
  by_cases h4 : s > 6
  · rw [decide_eq_true h4]; exact bad (by unfold badK; omega)
  rw [decide_eq_false h4]
  have hb : ¬ badK m s := by unfold badK; omega
  simp only [entrepotref06_Dist.j0]
  rw [if_neg (by decide), ref_far, bind_s]
  by_cases h5 : far x
  · rw [if_pos (decide_eq_true h5), dist_far hb (Or.inl h5)]; rfl
  rw [if_neg (by simpa using h5), ref_far, bind_s]
  by_cases h6 : far y
  · rw [decide_eq_true h6, dist_far hb (Or.inr h6)]; rfl
  rw [decide_eq_false h6]
  simp only [entrepotref06_Dist.j1]
  rw [if_neg (by decide), mx_abs h5, mx_abs h6, dist_ok hb h5 h6]
  have e : wrap64 (wrap64 ((x.natAbs : Int) * (x.natAbs : Int)) + wrap64 ((y.natAbs : Int) * (y.natAbs : Int))) = (sq2 x y : Int) := by
    have := (sum_sq h5 h6).1
    rw [← Int.natAbs_mul_self, ← Int.natAbs_mul_self, Int.natCast_mul, Int.natCast_mul] at this
    exact this
  rw [e]
  exact ref_way hb h5 h6 0 58 (by unfold badK at hb; omega) (by omega)
theorem MetricTells (m s x y : Int) (_ : (Lit.int .i64 m).wf = true) (_ : (Lit.int .i64 s).wf = true) (_ : (Lit.int .i64 x).wf = true) (_ : (Lit.int .i64 y).wf = true) : ∃ k, entrepotlaw06_MetricTells.f k m s x y = some true := by
  refine ⟨60, ?_⟩
  unfold entrepotlaw06_MetricTells.f
  rw [ref_dist]
  have : ∃ r, metric_Dist.f m s x y = some r := by
    by_cases hb : badK m s
    · exact ⟨_, dist_bad x y hb⟩
    by_cases hf : far x ∨ far y
    · exact ⟨_, dist_far hb hf⟩
    · exact ⟨_, dist_ok hb (fun h => hf (Or.inl h)) (fun h => hf (Or.inr h))⟩
  obtain ⟨r, hr⟩ := this
  rw [hr, bind_s, bind_s, if_pos rfl, if_pos rfl, shown6, bind_s]
end Go.Proofs.YtdpfljkcnlamlaaDoor.Pure
