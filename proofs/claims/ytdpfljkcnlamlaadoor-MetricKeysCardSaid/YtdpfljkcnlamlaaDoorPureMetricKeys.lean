/- Keywords of any metric, and the metric of any keyword, are the document's; a keyword's metric has that keyword. -/
import Derived.Test.YtdpfljkcnlamlaaDoorPxEntrepotlaw06MetricKeys
import Derived.Test.YtdpfljkcnlamlaaDoorGMet
import Derived.Test.YtdpfljkcnlamlaaDoorGKeyword
namespace Go.Proofs.YtdpfljkcnlamlaaDoor.Pure
open Go.RowKit Go.Proofs.YtdpfljkcnlamlaaDoor.P Go.Proofs.YtdpfljkcnlamlaaDoorW.PrintWords Go.Proofs.YtdpfljkcnlamlaaDoorW.PrintLast
open KeyWalk
theorem ref_kw (m : Int) : entrepotref06_Keyword.f m = some (keyTxt m) := by
  unfold entrepotref06_Keyword.f keyTxt
  by_cases h : 0 ≤ m ∧ m ≤ 5
  · rw [if_pos h]
    have : m = 0 ∨ m = 1 ∨ m = 2 ∨ m = 3 ∨ m = 4 ∨ m = 5 := by omega
    rcases this with rfl | rfl | rfl | rfl | rfl | rfl <;> rfl
  · rw [if_neg h, if_neg (by omega), if_neg (by omega), if_neg (by omega), if_neg (by omega), if_neg (by omega), if_neg (by omega)]
def ofAns (o : Option Nat) : Int × Bool := match o with | some i => ((i : Int), true) | none => (0, false)
theorem of_say (s : ByteArray) : metric_Of.f s = some (ofAns (findK s 6 0)) := rfl
theorem findK_s (s : ByteArray) (d i : Nat) : findK s (d + 1) i = if (kwAt i).toList = s.toList then some i else findK s d (i + 1) := rfl
theorem ref_of (s : ByteArray) : ∀ (d i k : Nat), i + d = 6 → d + 1 ≤ k → entrepotref06_Of.l0 k s (i : Int) = some (ofAns (findK s d i))
  | 0, i, k + 1, h, _ => by
    unfold entrepotref06_Of.l0; rw [if_neg (by omega)]; rfl
  | d + 1, i, k + 1, h, hk => by
    unfold entrepotref06_Of.l0
    rw [if_pos (by omega), ref_kw, bind_s]
    have e : keyTxt (i : Int) = kwAt i := by unfold keyTxt; rw [if_pos (by omega)]; rfl
    rw [e]
    rw [findK_s]
    by_cases hh : (kwAt i).toList = s.toList
    · rw [if_pos hh, if_pos hh]; rfl
    · rw [if_neg hh, if_neg hh, wrap64_id (by omega) (by omega), show (i : Int) + 1 = ((i + 1 : Nat) : Int) by omega]
      exact ref_of s d (i + 1) k (by omega) (by omega)
theorem find_is (s : ByteArray) : ∀ (d i : Nat), i + d = 6 → ∀ j, findK s d i = some j → (kwAt j).toList = s.toList ∧ j < 6
  | 0, i, h, j, hj => by unfold findK at hj; cases hj
  | d + 1, i, h, j, hj => by
    rw [findK_s] at hj
    by_cases hh : (kwAt i).toList = s.toList
    · rw [if_pos hh] at hj; cases hj; exact ⟨hh, by omega⟩
    · rw [if_neg hh] at hj; exact find_is s d (i + 1) (by omega) j hj
theorem known_both (m : Int) : ∃ b, metric_Known.f m = some b ∧ entrepotref06_Known.f m = some b := by
  unfold metric_Known.f entrepotref06_Known.f
  by_cases h : 0 ≤ m
  · exact ⟨decide (m ≤ 6), if_pos h, if_pos h⟩
  · exact ⟨false, if_neg h, if_neg (by omega)⟩
theorem MetricKeys (m : Int) (s : ByteArray) (_ : (Lit.int .i64 m).wf = true) (_ : s.size ≤ maxLen) : ∃ k, entrepotlaw06_MetricKeys.f k m s = some true := by
  refine ⟨8, ?_⟩
  unfold entrepotlaw06_MetricKeys.f
  by_cases hs : (s.size : Int) > 100
  · rw [if_pos hs]
    simp only [entrepotlaw06_MetricKeys.j0, if_true, shown6, bind_s]
  rw [if_neg hs, shown6, bind_s]
  show entrepotlaw06_MetricKeys.j0 8 m s false = some true
  obtain ⟨b, k1, k2⟩ := known_both m
  simp only [entrepotlaw06_MetricKeys.j0]
  rw [if_neg (by decide), of_say, bind_s]
  unfold entrepotref06_Of.f
  rw [show (0 : Int) = ((0 : Nat) : Int) from rfl, ref_of s 6 0 7 (by omega) (by omega), bind_s, k1, bind_s, k2, bind_s, if_pos (beq_self_eq_true b), ref_kw, show metric_Keyword.f m = some (keyTxt m) from rfl, bind_s, bind_s, if_pos rfl, if_pos rfl, if_pos (beq_self_eq_true _)]
  cases hf : findK s 6 0 with
  | none => rw [if_neg (by simp [ofAns])]
  | some j =>
    obtain ⟨h1, h2⟩ := find_is s 6 0 (by omega) j hf
    rw [if_pos (show (ofAns (some j)).2 = true from rfl)]
    show some ((keyTxt (j : Int)).toList == s.toList) = some true
    have e : keyTxt (j : Int) = kwAt j := by unfold keyTxt; rw [if_pos (by omega)]; rfl
    rw [e, h1, beq_self_eq_true]
end Go.Proofs.YtdpfljkcnlamlaaDoor.Pure
