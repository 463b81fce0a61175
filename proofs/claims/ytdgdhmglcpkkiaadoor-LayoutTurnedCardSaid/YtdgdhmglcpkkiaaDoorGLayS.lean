/- What the laws of layouts show, and their guards. Plain lemmas. -/
import Derived.Test.YtdgdhmglcpkkiaaDoorGLayR
import Derived.Test.YtdgdhmglcpkkiaaDoorGInts
import Derived.Test.YtdgdhmglcpkkiaaDoorPxEntrepotlaw07shown
set_option linter.unusedVariables false
namespace Go.Proofs.YtdgdhmglcpkkiaaDoor
open Go.RowKit
namespace LayWalk
open Go.RowKit Go.Proofs.YtdgdhmglcpkkiaaDoorW.PrintWords Go.Proofs.YtdgdhmglcpkkiaaDoorW.PrintLast P KeyWalk
theorem shown_ev : Ev (fun k => entrepotlaw07_shown.f k) true := Ev.of (fun k => entrepotlaw07_shown.mono k) entrepotlaw07_shown.only
theorem ints_ev (a b : List Int) (h : a.length ≤ 4611686018427387904) : Ev (fun k => entrepotref07_Ints.f k a b) (decide (a = b)) := Ev.at (K := a.length + 1) fun k hk => ints_tells a b k h hk
/-- The laws' guards: too much to look at, or what an example shows; then the law. -/
theorem guard_ev {J : Nat → Bool → Option Bool} (c d : Prop) [Decidable c] [Decidable d] {e : Prop} [Decidable e] (h1 : Ev (fun k => J k true) true) (h2 : Ev (fun k => J k false) true) :
    Ev (fun k => if c then J k true else (if d then (if e then J k true else (entrepotlaw07_shown.f k).bind fun t => J k (!t)) else (entrepotlaw07_shown.f k).bind fun t => J k (!t))) true := by
  by_cases hc : c
  · exact Ev.pos hc h1
  refine Ev.neg hc ?_
  by_cases hd : d
  · refine Ev.pos hd ?_
    by_cases he : e
    · exact Ev.pos he h1
    · exact Ev.neg he (Ev.bind shown_ev h2)
  · exact Ev.neg hd (Ev.bind shown_ev h2)
theorem sq_le {n : Nat} (hn : n ≤ 400) : n * n ≤ 160000 := Nat.mul_le_mul hn hn
theorem unpackV_len (a0 a1 : Int) (l : List Int) : (unpackV a0 a1 l).1.length ≤ 160000 := by
  unfold unpackV
  by_cases hm : mayB a0 a1 = true
  · rw [if_pos hm]
    obtain ⟨lay, n, rfl, rfl, hl, hn⟩ := may_nat hm
    rw [Int.toNat_natCast, Int.toNat_natCast]
    split
    · show (unpk lay n l _).length ≤ _
      rw [unpk_length]; exact sq_le hn.2
    · simp
  · rw [if_neg hm]; simp
theorem packV_len (a0 a1 : Int) (l : List Int) : (packV a0 a1 l).1.length ≤ 161000 := by
  unfold packV
  by_cases hm : mayB a0 a1 = true
  · rw [if_pos hm]
    obtain ⟨lay, n, rfl, rfl, hl, hn⟩ := may_nat hm
    rw [Int.toNat_natCast, Int.toNat_natCast]
    repeat' split
    · show (told lay n l).length ≤ _
      rw [told_length hl]
      have := cnt_le (lay := lay) hn.2
      omega
    · simp
    · simp
  · rw [if_neg hm]; simp
/-- What is unpacked is packed again. -/
theorem pack_unpack {a0 a1 : Int} {l : List Int} (h : (unpackV a0 a1 l).2 = 0) : packV a0 a1 (unpackV a0 a1 l).1 = (l, 0) := by
  unfold unpackV at h ⊢
  by_cases hm : mayB a0 a1 = true
  · rw [if_pos hm] at h ⊢
    obtain ⟨lay, n, rfl, rfl, hl, hn⟩ := may_nat hm
    rw [Int.toNat_natCast, Int.toNat_natCast] at h ⊢
    by_cases h1 : l.length = cnt lay n
    · rw [if_pos h1]
      unfold packV
      rw [if_pos hm, Int.toNat_natCast, Int.toNat_natCast]
      have e : (unp lay n l).length = n * n := unpk_length ..
      rw [if_pos (by rw [e, Int.natCast_mul]), if_pos ((fitsD_iff lay n _).2 (unp_fits l)), told_unp hl h1]
    · rw [if_neg h1] at h; cases h
  · rw [if_neg hm] at h; cases h
/-- What is packed is unpacked again. -/
theorem unpack_pack {a0 a1 : Int} {m : List Int} (h : (packV a0 a1 m).2 = 0) : unpackV a0 a1 (packV a0 a1 m).1 = (m, 0) := by
  unfold packV at h ⊢
  by_cases hm : mayB a0 a1 = true
  · rw [if_pos hm] at h ⊢
    obtain ⟨lay, n, rfl, rfl, hl, hn⟩ := may_nat hm
    rw [Int.toNat_natCast, Int.toNat_natCast] at h ⊢
    by_cases h1 : (m.length : Int) = (n : Int) * (n : Int)
    · rw [if_pos h1] at h ⊢
      by_cases h2 : fitsD lay n m = true
      · rw [if_pos h2]
        unfold unpackV
        rw [if_pos hm, Int.toNat_natCast, Int.toNat_natCast, if_pos (told_length hl m), unp_told hl (by rw [← Int.natCast_mul] at h1; omega) ((fitsD_iff lay n m).1 h2)]
      · rw [if_neg h2] at h; cases h
    · rw [if_neg h1] at h; cases h
  · rw [if_neg hm] at h; cases h
theorem pack_none {a0 a1 : Int} {m : List Int} (h : ¬ (packV a0 a1 m).2 = 0) : (packV a0 a1 m).1 = [] := by
  unfold packV at h ⊢
  by_cases hm : mayB a0 a1 = true
  · rw [if_pos hm] at h ⊢
    by_cases h1 : (m.length : Int) = a1 * a1
    · rw [if_pos h1] at h ⊢
      by_cases h2 : fitsD a0.toNat a1.toNat m = true
      · rw [if_pos h2] at h; exact absurd rfl h
      · rw [if_neg h2]
    · rw [if_neg h1]
  · rw [if_neg hm]
end LayWalk
end Go.Proofs.YtdgdhmglcpkkiaaDoor
