/- Whatever the format and the instance, if it is no longer than the bound: fields that lack rise, and each is one that there is; a format that there is not lacks all thirteen, JSON and bytes none. -/
import Derived.Test.YtmapllahhpdedaaPxEntrepotlaw12ExpressRises
import Derived.Test.YtmapllahhpdedaaGExp
namespace Go.Proofs.Ytmapllahhpdedaa.Pure
open Go.RowKit Go.Proofs.Ytmapllahhpdedaa.P Go.Proofs.YtmapllahhpdedaaW.PrintWords Go.Proofs.YtmapllahhpdedaaW.PrintLast LacksWalk

theorem rises_loop (fmt : Int) (l : List Int) (hl : l.length ≤ 13) (hr : rises l = true) (hf : ((1 ≤ fmt ∧ fmt ≤ 5) ∧ l.length ≤ 7 ∧ ((fmt = 4 ∨ fmt = 5) → l.length = 0)) ∨ (¬ (1 ≤ fmt ∧ fmt ≤ 5) ∧ l.length = 13)) (d : Nat) :
    ∀ (k i : Nat), i + d = l.length → d < k → entrepotlaw12_ExpressRises.l0 k fmt l (i : Int) = some true := by
  induction d with
  | zero =>
    intro k i hi hk
    obtain ⟨k, rfl⟩ : ∃ m, k = m + 1 := ⟨k - 1, by omega⟩
    simp only [entrepotlaw12_ExpressRises.l0]
    rw [if_neg (by omega)]
    rcases hf with ⟨⟨h1, h2⟩, h3, h4⟩ | ⟨h1, h2⟩
    · rw [if_pos h1, decide_eq_true h2, beq_eq_false_iff_ne.2 (show (l.length : Int) ≠ 13 by omega), if_pos (show (false == !true) = true from rfl)]
      by_cases e4 : fmt = 4
      · rw [if_pos e4, h4 (.inl e4)]; rfl
      · rw [if_neg e4]
        by_cases e5 : fmt = 5
        · rw [if_pos e5, h4 (.inr e5)]; rfl
        · rw [if_neg e5]
    · rw [h2]
      by_cases e1 : fmt ≥ 1
      · rw [if_pos e1, decide_eq_false (by omega), if_pos (show ((((13 : Nat) : Int) == 13) == !false) = true by decide), if_neg (by omega), if_neg (by omega)]
      · rw [if_neg e1, if_pos (show ((((13 : Nat) : Int) == 13) == !false) = true by decide), if_neg (by omega), if_neg (by omega)]
  | succ d ih =>
    intro k i hi hk
    obtain ⟨k, rfl⟩ : ∃ m, k = m + 1 := ⟨k - 1, by omega⟩
    simp only [entrepotlaw12_ExpressRises.l0]
    have hlt : i < l.length := by omega
    obtain ⟨⟨g1, g2⟩, g3⟩ := rises_get l hr i hlt
    rw [if_pos (by omega), if_pos (by omega), rd_at hlt, if_neg (by omega), if_neg (by omega), wrap64_succ (by omega), ih k (i + 1) (by omega) (by omega)]
    by_cases h0 : (i : Int) > 0
    · have e : wrap64 ((i : Int) - 1) = ((i - 1 : Nat) : Int) := by unfold wrap64; omega
      have := g3 (i - 1) (by omega)
      rw [if_pos h0, e, if_pos (by omega), if_pos (by omega), rd_at (by omega), if_neg (by omega)]
    · rw [if_neg h0]

theorem ExpressRises (fmt : Int) (nm : ByteArray) (kd mt sc cp fl : Int) (ns : List Open.Node) (mx : List Int) (_ : Open.WfI fmt) (_ : Open.InstGood nm kd mt sc cp fl ns mx) :
    ∃ k, entrepotlaw12_ExpressRises.f k fmt nm kd mt sc cp fl ns mx = some true := by
  refine ⟨20, ?_⟩
  unfold entrepotlaw12_ExpressRises.f
  obtain ⟨b, hb, _⟩ := long_tells nm kd mt sc cp fl ns mx
  rw [hb, bind_s]
  cases b with
  | true =>
    rw [if_pos rfl]
    simp only [entrepotlaw12_ExpressRises.j0, if_true, shown_true, bind_s]
  | false =>
    rw [if_neg (by simp), shown_true, bind_s]
    show entrepotlaw12_ExpressRises.j0 20 fmt false nm kd mt sc cp fl ns mx = some true
    simp only [entrepotlaw12_ExpressRises.j0]
    rw [if_neg (by simp)]
    unfold express_Lacks.f
    rw [bind_s]
    obtain ⟨h1, h2⟩ := lacksOf_rises fmt nm kd mt sc fl ns
    generalize lacksOf fmt nm kd mt sc fl ns = l at *
    exact rises_loop fmt l (by omega) h1 h2 l.length 19 0 (by omega) (by omega)
end Go.Proofs.Ytmapllahhpdedaa.Pure
