/- What the statements of layer 12 show by an example is so; what express.Lacks tells rises. Plain lemmas on lists and numbers. -/
import Derived.Test.YtmapllahhpdedaaGLacks
import Derived.Test.YtmapllahhpdedaaGInts
import Derived.Test.YtmapllahhpdedaaGOpenInst
import Derived.Test.YtmapllahhpdedaaPxEntrepotlaw12shown
import Derived.Test.YtmapllahhpdedaaPxEntrepotlaw12long
namespace Go.Proofs.Ytmapllahhpdedaa
open Go.RowKit Go.Proofs.YtmapllahhpdedaaW.PrintWords LacksWalk

theorem shown_true : P.entrepotlaw12_shown.f = some true := by decide +kernel

theorem can_tells (fmt : Int) (name : ByteArray) (kind metric scale cap fleet : Int) (l : List LacksWalk.Node) (m : List Int) :
    P.express_Can.f fmt name kind metric scale cap fleet l m = some ((lacksOf fmt name kind metric scale fleet l).length == 0) := by
  unfold P.express_Can.f express_Lacks.f
  rw [bind_s]
  congr 1
  generalize (lacksOf fmt name kind metric scale fleet l).length = n
  cases n with
  | zero => rfl
  | succ n => rw [beq_eq_false_iff_ne.2 (by omega), beq_eq_false_iff_ne.2 (by omega)]

/-- Rising numbers from 1 to 13. -/
def rises : List Int → Bool
  | [] => true
  | [a] => decide (1 ≤ a ∧ a ≤ 13)
  | a :: b :: r => decide (1 ≤ a ∧ a ≤ 13) && decide (a < b) && rises (b :: r)
theorem rises_get : ∀ (l : List Int), rises l = true → ∀ i (h : i < l.length), (1 ≤ l[i] ∧ l[i] ≤ 13) ∧ ∀ j, (hj : j + 1 = i) → l[j]'(by omega) < l[i]
  | [], _, i, h => by simp at h
  | [a], hr, i, h => by
    simp [rises] at hr
    have : i = 0 := by simpa using h
    subst this
    exact ⟨by simpa using hr, fun j hj => by omega⟩
  | a :: b :: r, hr, i, h => by
    simp [rises] at hr
    cases i with
    | zero => exact ⟨by simpa using hr.1.1, fun j hj => by omega⟩
    | succ i =>
      have ih := rises_get (b :: r) hr.2 i (by simpa using h)
      refine ⟨by simpa using ih.1, fun j hj => ?_⟩
      obtain rfl : j = i := by omega
      cases j with
      | zero => simpa using hr.1.2
      | succ j => simpa using ih.2 j rfl

theorem rises1 : ∀ a b c d e f g : Bool, (rises (fails [⟨2, a⟩, ⟨3, b⟩, ⟨6, c⟩, ⟨10, d⟩, ⟨11, e⟩, ⟨12, f⟩, ⟨13, g⟩]) && decide ((fails [⟨2, a⟩, ⟨3, b⟩, ⟨6, c⟩, ⟨10, d⟩, ⟨11, e⟩, ⟨12, f⟩, ⟨13, g⟩]).length ≤ 7)) = true := by decide +kernel
theorem rises2 : ∀ a b c d e : Bool, (rises (fails [⟨2, a⟩, ⟨3, b⟩, ⟨6, c⟩, ⟨10, d⟩, ⟨13, e⟩]) && decide ((fails [⟨2, a⟩, ⟨3, b⟩, ⟨6, c⟩, ⟨10, d⟩, ⟨13, e⟩]).length ≤ 7)) = true := by decide +kernel
theorem rises3 : ∀ a b c d e : Bool, (rises (fails [⟨1, a⟩, ⟨2, b⟩, ⟨3, c⟩, ⟨4, d⟩, ⟨6, e⟩]) && decide ((fails [⟨1, a⟩, ⟨2, b⟩, ⟨3, c⟩, ⟨4, d⟩, ⟨6, e⟩]).length ≤ 7)) = true := by decide +kernel

theorem lacksOf_rises (fmt : Int) (name : ByteArray) (kind metric scale fleet : Int) (l : List LacksWalk.Node) : rises (lacksOf fmt name kind metric scale fleet l) = true ∧
    (((1 ≤ fmt ∧ fmt ≤ 5) ∧ (lacksOf fmt name kind metric scale fleet l).length ≤ 7 ∧ ((fmt = 4 ∨ fmt = 5) → (lacksOf fmt name kind metric scale fleet l).length = 0)) ∨ (¬ (1 ≤ fmt ∧ fmt ≤ 5) ∧ (lacksOf fmt name kind metric scale fleet l).length = 13)) := by
  unfold lacksOf
  by_cases f1 : fmt = 1
  · rw [if_pos f1]
    have h := rises1 (kind == 1 || kind == 2) (known metric && !(metric == 6)) (fleet == 0) (pos l) (unwindowed l) (unserved l) (single l)
    simp only [Bool.and_eq_true, decide_eq_true_eq] at h
    exact ⟨h.1, .inl ⟨by omega, h.2, fun h => by omega⟩⟩
  · rw [if_neg f1]
    by_cases f2 : fmt = 2
    · rw [if_pos f2]
      have h := rises2 (kind == 3) (metric == 6) (decide (1 ≤ fleet)) (pos l) (single l)
      simp only [Bool.and_eq_true, decide_eq_true_eq] at h
      exact ⟨h.1, .inl ⟨by omega, h.2, fun h => by omega⟩⟩
    · rw [if_neg f2]
      by_cases f3 : fmt = 3
      · rw [if_pos f3]
        have h := rises3 (isLilim name) (kind == 4) (metric == 6) (scale == 0) (decide (1 ≤ fleet))
        simp only [Bool.and_eq_true, decide_eq_true_eq] at h
        exact ⟨h.1, .inl ⟨by omega, h.2, fun h => by omega⟩⟩
      · rw [if_neg f3]
        by_cases f4 : fmt = 4 ∨ fmt = 5
        · rw [if_pos f4]
          exact ⟨rfl, .inl ⟨by omega, by simp, fun _ => rfl⟩⟩
        · rw [if_neg f4]
          exact ⟨by decide, .inr ⟨by omega, by decide⟩⟩
theorem long_tells (name : ByteArray) (kind metric scale cap fleet : Int) (l : List LacksWalk.Node) (m : List Int) :
    ∃ b, P.entrepotlaw12_long.f name kind metric scale cap fleet l m = some b ∧ (b = false → l.length ≤ 400 ∧ m.length ≤ 1000 ∧ name.size ≤ 100) := by
  unfold P.entrepotlaw12_long.f
  by_cases h1 : (l.length : Int) > 400
  · rw [if_pos h1]; exact ⟨true, rfl, fun h => by cases h⟩
  · rw [if_neg h1]
    by_cases h2 : (m.length : Int) > 1000
    · rw [if_pos h2]; exact ⟨true, rfl, fun h => by cases h⟩
    · rw [if_neg h2]
      exact ⟨_, rfl, fun h => by have := of_decide_eq_false h; omega⟩
end Go.Proofs.Ytmapllahhpdedaa
