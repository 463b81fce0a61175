/- layout.fits, and layout.Pack whole: what it answers, and the word that callers use. -/
import Derived.Test.YtdgdhmglcpkkiaaDoorGPackE
import Derived.Test.YtdgdhmglcpkkiaaDoorGLayP
set_option linter.unusedVariables false
set_option linter.unusedSimpArgs false
namespace Go.Proofs.YtdgdhmglcpkkiaaDoor
open Go.RowKit
namespace LayWalk
open Go.RowKit Go.Proofs.YtdgdhmglcpkkiaaDoorW.PrintWords Go.Proofs.YtdgdhmglcpkkiaaDoorW.PrintLast Go.Proofs.YtdgdhmglcpkkiaaDoorW.PrintMore P KeyWalk
theorem rd_nat (m : List Int) (t : Nat) : rd m (t : Int) = m.getD t 0 := by unfold rd; rw [Int.toNat_natCast]
theorem cell_int (i n j : Nat) : (i : Int) * (n : Int) + (j : Int) = ((i * n + j : Nat) : Int) := by rw [Int.natCast_add, Int.natCast_mul]
theorem cell_w {i n j : Nat} (hi : i ≤ 400) (hn : n ≤ 400) (hj : j ≤ 400) : wrap64 (wrap64 ((i : Int) * (n : Int)) + (j : Int)) = ((i * n + j : Nat) : Int) := by
  rw [wa (mul_b hi hn) (by omega)]; exact cell_int i n j
theorem valAt_eq (m : List Int) (n : Nat) : valAt m n = valN m n := by
  funext x
  unfold valAt valN
  rw [cell_int, rd_nat]
theorem index_ev {lay n i j : Nat} (hl : 1 ≤ lay ∧ lay ≤ 7) (hn : 1 ≤ n ∧ n ≤ 400) (hi : i < n) (hj : j < n) : Ev (fun k => layout_Index.f k (lay : Int) (n : Int) (i : Int) (j : Int)) (idx lay n i j) :=
  ⟨1, fun k hk => by obtain ⟨k, rfl⟩ : ∃ m, k = m + 1 := ⟨k - 1, by omega⟩; exact index_eq hl hn hi hj k⟩
theorem nat_succ {i : Nat} (h : i ≤ 1000) : wrap64 ((i : Int) + 1) = ((i + 1 : Nat) : Int) := by unfold wrap64; omega
/-- A pair of a row that is alike its mirrored one, and a number of the diagonal that may be. -/
def Chk (lay n : Nat) (m : List Int) (i j : Nat) : Prop := lay ≠ 1 → valN m n (i, j) = valN m n (j, i)
def Dia (lay n : Nat) (m : List Int) (i : Nat) : Prop := idx lay n i i < 0 → valN m n (i, i) = 0
theorem fits_row {lay n : Nat} (hl : 1 ≤ lay ∧ lay ≤ 7) (hn : 1 ≤ n ∧ n ≤ 400) {m : List Int} (hm : m.length = n * n) {i : Nat} (hi : i < n) {Q : Prop}
    (ih : ∃ b, Ev (fun k => layout_fits.l0 k (lay : Int) (n : Int) m (n : Int) ((i + 1 : Nat) : Int)) b ∧ (b = true ↔ Q)) (d : Nat) : ∀ j : Nat, j + d = i →
    ∃ b, Ev (fun k => layout_fits.l1 k (lay : Int) (n : Int) m (i : Int) (n : Int) (i : Int) (i : Int) (j : Int)) b ∧ (b = true ↔ (∀ j', j ≤ j' → j' < i → Chk lay n m i j') ∧ Dia lay n m i ∧ Q) := by
  induction d with
  | zero =>
    intro j hj
    obtain rfl : j = i := by omega
    have hc := cell_lt hi hi
    by_cases h0 : idx lay n j j < 0
    · by_cases h1 : valN m n (j, j) = 0
      · obtain ⟨b, hb, hq⟩ := ih
        refine ⟨b, ?_, ?_⟩
        · refine Ev.step (fun _ => layout_fits.l1.eq_2 ..) (Ev.neg (by omega) (Ev.bind (index_ev hl hn hi hi) (Ev.pos h0 ?_)))
          rw [cell_w (by omega) hn.2 (by omega), nat_succ (by omega), rd_nat]
          refine Ev.pos (by omega) (Ev.pos (by omega) (Ev.pos h1 hb))
        · rw [hq]
          exact ⟨fun q => ⟨fun j' a b => by omega, fun _ => h1, q⟩, fun q => q.2.2⟩
      · refine ⟨false, ?_, ⟨fun e => (by cases e), fun q => absurd (q.2.1 h0) h1⟩⟩
        refine Ev.step (fun _ => layout_fits.l1.eq_2 ..) (Ev.neg (by omega) (Ev.bind (index_ev hl hn hi hi) (Ev.pos h0 ?_)))
        rw [cell_w (by omega) hn.2 (by omega), rd_nat]
        exact Ev.pos (by omega) (Ev.pos (by omega) (Ev.neg h1 (Ev.now _)))
    · obtain ⟨b, hb, hq⟩ := ih
      refine ⟨b, ?_, ?_⟩
      · refine Ev.step (fun _ => layout_fits.l1.eq_2 ..) (Ev.neg (by omega) (Ev.bind (index_ev hl hn hi hi) (Ev.neg h0 ?_)))
        rw [nat_succ (by omega)]; exact hb
      · rw [hq]
        exact ⟨fun q => ⟨fun j' a b => by omega, fun h => absurd h h0, q⟩, fun q => q.2.2⟩
  | succ d ihd =>
    intro j hj
    have hlt : j < i := by omega
    obtain ⟨b, hb, hq⟩ := ihd (j + 1) (by omega)
    by_cases h1 : lay = 1
    · refine ⟨b, ?_, ?_⟩
      · refine Ev.step (fun _ => layout_fits.l1.eq_2 ..) (Ev.pos (by omega) (Ev.pos (by omega) ?_))
        rw [nat_succ (by omega)]; exact hb
      · rw [hq]
        exact ⟨fun q => ⟨fun j' _ _ hne => absurd h1 hne, q.2⟩, fun q => ⟨fun j' _ _ hne => absurd h1 hne, q.2⟩⟩
    · have hc1 := cell_lt hi (show j < n by omega)
      have hc2 := cell_lt (show j < n by omega) hi
      by_cases h2 : valN m n (i, j) = valN m n (j, i)
      · refine ⟨b, ?_, ?_⟩
        · refine Ev.step (fun _ => layout_fits.l1.eq_2 ..) (Ev.pos (by omega) (Ev.neg (by omega) ?_))
          rw [cell_w (by omega) hn.2 (by omega), cell_w (by omega) hn.2 (by omega), nat_succ (by omega), rd_nat, rd_nat]
          exact Ev.pos (by omega) (Ev.pos (by omega) (Ev.pos (by omega) (Ev.pos (by omega) (Ev.pos h2 hb))))
        · rw [hq]
          refine ⟨fun q => ⟨fun j' a c => ?_, q.2⟩, fun q => ⟨fun j' a c => q.1 j' (by omega) c, q.2⟩⟩
          by_cases e : j' = j
          · subst e; exact fun _ => h2
          · exact q.1 j' (by omega) c
      · refine ⟨false, ?_, ⟨fun e => (by cases e), fun q => absurd (q.1 j (Nat.le_refl _) hlt h1) h2⟩⟩
        refine Ev.step (fun _ => layout_fits.l1.eq_2 ..) (Ev.pos (by omega) (Ev.neg (by omega) ?_))
        rw [cell_w (by omega) hn.2 (by omega), cell_w (by omega) hn.2 (by omega), rd_nat, rd_nat]
        exact Ev.pos (by omega) (Ev.pos (by omega) (Ev.pos (by omega) (Ev.pos (by omega) (Ev.neg h2 (Ev.now _)))))
theorem fits_from {lay n : Nat} (hl : 1 ≤ lay ∧ lay ≤ 7) (hn : 1 ≤ n ∧ n ≤ 400) {m : List Int} (hm : m.length = n * n) (d : Nat) : ∀ i : Nat, i + d = n →
    ∃ b, Ev (fun k => layout_fits.l0 k (lay : Int) (n : Int) m (n : Int) (i : Int)) b ∧ (b = true ↔ ∀ i', i ≤ i' → i' < n → (∀ j', j' < i' → Chk lay n m i' j') ∧ Dia lay n m i') := by
  induction d with
  | zero =>
    intro i hi
    exact ⟨true, Ev.step (fun _ => layout_fits.l0.eq_2 ..) (Ev.neg (by omega) (Ev.now _)), fun _ i' a b => by omega, fun _ => rfl⟩
  | succ d ih =>
    intro i hi
    obtain ⟨b, hb, hq⟩ := fits_row hl hn hm (show i < n by omega) (ih (i + 1) (by omega)) i 0 (by omega)
    refine ⟨b, Ev.step (fun _ => layout_fits.l0.eq_2 ..) (Ev.pos (by omega) hb), ?_⟩
    rw [hq]
    constructor
    · rintro ⟨q1, q2, q3⟩ i' a c
      by_cases e : i' = i
      · subst e; exact ⟨fun j' h => q1 j' (Nat.zero_le _) h, q2⟩
      · exact q3 i' (by omega) c
    · intro q
      exact ⟨fun j' _ h => (q i (Nat.le_refl _) (by omega)).1 j' h, (q i (Nat.le_refl _) (by omega)).2, fun i' a c => q i' (by omega) c⟩
/-- May a layout tell a matrix? -/
def fitsD (lay n : Nat) (m : List Int) : Bool := (List.range n).all fun i => (List.range n).all fun j => (lay == 1 || valN m n (i, j) == valN m n (j, i)) && (decide (0 ≤ idx lay n i i) || valN m n (i, i) == 0)
theorem fitsD_iff (lay n : Nat) (m : List Int) : fitsD lay n m = true ↔ FitsB lay n m := by
  unfold fitsD FitsB
  simp only [List.all_eq_true, List.mem_range, Bool.and_eq_true, Bool.or_eq_true, beq_iff_eq, decide_eq_true_eq]
  constructor
  · intro h i j hi hj
    obtain ⟨a, b⟩ := h i hi j hj
    exact ⟨fun n1 => a.resolve_left n1, fun n2 => b.resolve_left (by omega)⟩
  · intro h i hi j hj
    obtain ⟨a, b⟩ := h i j hi hj
    refine ⟨?_, ?_⟩
    · by_cases e : lay = 1
      · exact .inl e
      · exact .inr (a e)
    · by_cases e : 0 ≤ idx lay n i i
      · exact .inl e
      · exact .inr (b (by omega))
theorem fits_ev {lay n : Nat} (hl : 1 ≤ lay ∧ lay ≤ 7) (hn : 1 ≤ n ∧ n ≤ 400) {m : List Int} (hm : m.length = n * n) : Ev (fun k => layout_fits.f k (lay : Int) (n : Int) m) (fitsD lay n m) := by
  obtain ⟨b, hb, hq⟩ := fits_from hl hn hm n 0 (by omega)
  have : b = fitsD lay n m := by
    rw [Bool.eq_iff_iff, hq, fitsD_iff]
    constructor
    · intro h i j hi hj
      refine ⟨fun n1 => ?_, (h i (Nat.zero_le _) hi).2⟩
      rcases Nat.lt_trichotomy i j with l | e | g
      · exact ((h j (Nat.zero_le _) hj).1 i l n1).symm
      · rw [e]
      · exact (h i (Nat.zero_le _) hi).1 j g n1
    · intro h i' _ hi
      exact ⟨fun j' hj => (h i' j' hi (by omega)).1, (h i' i' hi hi).2⟩
  rw [← this]; exact hb
end LayWalk
namespace P
open LayWalk Go.Proofs.YtdgdhmglcpkkiaaDoorW.PrintWords Go.Proofs.YtdgdhmglcpkkiaaDoorW.PrintLast Go.Proofs.YtdgdhmglcpkkiaaDoorW.PrintMore
/-- What layout.Pack answers. -/
def layout_Pack.f (a0 a1 : Int) (l2 : List Int) : Option (List Int × Int) :=
  if mayB a0 a1 = true then (if (l2.length : Int) = a1 * a1 then (if fitsD a0.toNat a1.toNat l2 = true then some (told a0.toNat a1.toNat l2, 0) else some ([], 70)) else some ([], 70)) else some ([], 1)
theorem layout_Pack.calls (a0 a1 : Int) (A2 : Option Addr) (c2 : Nat) (l2 : List Int) (r1 : List Int) (r2 : Int) (w : World) (hr2 : Kd.C (Kd.int .i64) w A2 l2.length l2) (hc2 : l2.length ≤ c2) (ht : Tab w) (h : layout_Pack.f a0 a1 l2 = some (r1, r2)) :
    Calls Tryd.prog 13 #[.int .i64 a0, .int .i64 a1, .slice A2 l2.length c2] w fun e w' => ∃ v0_ : Value, e = .returned (.tuple #[v0_, .int .i64 r2]) ∧ Kd.R (Kd.int .i64) 3 w' w.heap.size (fun _ => True) v0_ r1 ∧ Below w.heap.size w w' := by
  unfold layout_Pack.f at h
  by_cases hm : mayB a0 a1 = true
  · rw [if_pos hm] at h
    obtain ⟨lay, n, rfl, rfl, hl, hn⟩ := may_nat hm
    rw [Int.toNat_natCast, Int.toNat_natCast] at h
    have hmay := may_yes hl hn
    have hb := mul_b hn.2 hn.2
    by_cases h1 : (l2.length : Int) = (n : Int) * (n : Int)
    · rw [if_pos h1] at h
      have hln : l2.length = n * n := by rw [← Int.natCast_mul] at h1; omega
      obtain ⟨kf, hf⟩ := Ev.rounds (fits_ev hl hn hln)
      by_cases h2 : fitsD lay n l2 = true
      · rw [if_pos h2] at h
        cases h
        rw [h2] at hf
        refine (callsIn_wide.1 (pack_in A2 c2 lay n l2 kf w ht (by omega) hn.2 hln hmay hf hr2 hc2)).mono ?_
        rintro e w' ⟨v, rfl, hR, hB⟩
        rw [valAt_eq] at hR
        exact ⟨v, rfl, hR, hB⟩
      · rw [if_neg h2] at h
        cases h
        rw [Bool.not_eq_true] at h2
        rw [h2] at hf
        refine (pack_unfit A2 c2 lay n l2 kf w ht hmay hf (by rw [wid (by omega) (by omega)]; exact h1) hr2 hc2).mono ?_
        rintro e w' ⟨rfl, hB⟩
        exact ⟨_, rfl, Kd.R_nil .., hB⟩
    · rw [if_neg h1] at h
      cases h
      refine (pack_size A2 c2 lay n l2 w ht (by omega) hmay h1).mono ?_
      rintro e w' ⟨rfl, hB⟩
      exact ⟨_, rfl, Kd.R_nil .., hB⟩
  · rw [if_neg hm] at h
    cases h
    rw [Bool.not_eq_true] at hm
    refine (pack_may A2 c2 a0 a1 l2 w ht ((may_eq a0 a1).trans (congrArg some hm))).mono ?_
    rintro e w' ⟨rfl, hB⟩
    exact ⟨_, rfl, Kd.R_nil .., hB⟩
end P
end Go.Proofs.YtdgdhmglcpkkiaaDoor
