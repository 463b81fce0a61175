/- The references' 'the same numbers?' is equality of lists. Small plain lemmas beside it. -/
import Derived.Test.YtdgdhmglcpkkiaaDoorPxEntrepotref07Ints
namespace Go.Proofs.YtdgdhmglcpkkiaaDoor
open Go.RowKit Go.Proofs.YtdgdhmglcpkkiaaDoorW.PrintWords

/-- Told by an equation that the kernel need not reckon through. -/
theorem bind_s {α β : Type} (a : α) (f : α → Option β) : (some a).bind f = f a := Eq.symm (Eq.symm rfl)
theorem wrap64_id {a : Int} (h0 : -9223372036854775808 ≤ a) (h1 : a ≤ 9223372036854775807) : wrap64 a = a := by unfold wrap64; omega
theorem nat_of {a : Int} (h : 0 ≤ a) : ∃ n : Nat, a = (n : Int) := ⟨a.toNat, by omega⟩
theorem wrap64_succ {i : Nat} (h : (i : Int) ≤ 4611686018427387904) : wrap64 ((i : Int) + 1) = ((i + 1 : Nat) : Int) := by unfold wrap64; omega
theorem rd_at {l : List Int} {i : Nat} (h : i < l.length) : rd l (i : Int) = l[i] := by
  unfold rd
  rw [Int.toNat_natCast, List.getD_eq_getElem?_getD, List.getElem?_eq_getElem h]; rfl

theorem ints_from (a b : List Int) (hl : a.length = b.length) (hb : a.length ≤ 4611686018427387904) (d : Nat) : ∀ (k i : Nat), i + d = a.length → d < k → P.entrepotref07_Ints.l0 k a b (i : Int) = some (decide (a.drop i = b.drop i)) := by
  induction d with
  | zero =>
    intro k i hi hk
    obtain ⟨k, rfl⟩ : ∃ m, k = m + 1 := ⟨k - 1, by omega⟩
    simp only [P.entrepotref07_Ints.l0]
    rw [if_neg (by omega), List.drop_of_length_le (by omega), List.drop_of_length_le (by omega), decide_eq_true rfl]
  | succ d ih =>
    intro k i hi hk
    obtain ⟨k, rfl⟩ : ∃ m, k = m + 1 := ⟨k - 1, by omega⟩
    simp only [P.entrepotref07_Ints.l0]
    have ha : i < a.length := by omega
    have hb' : i < b.length := by omega
    rw [if_pos (by omega), if_pos (by omega), if_pos (by omega), rd_at ha, rd_at hb', wrap64_succ (by omega), ih k (i + 1) (by omega) (by omega), List.drop_eq_getElem_cons ha, List.drop_eq_getElem_cons hb']
    by_cases h : a[i] = b[i]
    · rw [if_pos h]
      congr 1
      rw [decide_eq_decide]
      constructor
      · intro e; rw [h, e]
      · intro e; exact (List.cons.inj e).2
    · rw [if_neg h, decide_eq_false (fun e => h (List.cons.inj e).1)]
/-- They are the same just where the lists are. -/
theorem ints_tells (a b : List Int) (k : Nat) (hb : a.length ≤ 4611686018427387904) (hk : a.length < k) : P.entrepotref07_Ints.f k a b = some (decide (a = b)) := by
  unfold P.entrepotref07_Ints.f
  by_cases hl : a.length = b.length
  · rw [if_pos (by omega)]
    have := ints_from a b hl hb a.length k 0 (by omega) hk
    simpa using this
  · rw [if_neg (by omega), decide_eq_false (fun e => hl (by rw [e]))]
end Go.Proofs.YtdgdhmglcpkkiaaDoor
