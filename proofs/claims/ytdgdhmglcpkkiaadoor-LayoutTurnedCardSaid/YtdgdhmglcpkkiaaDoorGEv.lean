/- Rounds without counting: what comes to its answer at all numbers of rounds from one on. Plain lemmas. -/
import Derived.Test.YtdgdhmglcpkkiaaDoorWWords
namespace Go.Proofs.YtdgdhmglcpkkiaaDoor
open Go.RowKit Go.Proofs.YtdgdhmglcpkkiaaDoorW.PrintWords
theorem Ev.pos {α : Type} {c : Prop} [Decidable c] {g f : Nat → Option α} {r : α} (h : c) (k : Ev g r) : Ev (fun n => if c then g n else f n) r := by
  obtain ⟨K, hK⟩ := k; exact ⟨K, fun n hn => (if_pos h).trans (hK n hn)⟩
theorem Ev.neg {α : Type} {c : Prop} [Decidable c] {g f : Nat → Option α} {r : α} (h : ¬ c) (k : Ev f r) : Ev (fun n => if c then g n else f n) r := by
  obtain ⟨K, hK⟩ := k; exact ⟨K, fun n hn => (if_neg h).trans (hK n hn)⟩
/-- A call that counts no rounds. -/
theorem Ev.bs {α β : Type} {a : Option α} {x : α} {f : Nat → α → Option β} {r : β} (h : a = some x) (k : Ev (fun n => f n x) r) : Ev (fun n => a.bind (f n)) r := by
  obtain ⟨K, hK⟩ := k; exact ⟨K, fun n hn => by subst h; exact hK n hn⟩
theorem Ev.eq {α : Type} {g : Nat → Option α} {r r' : α} (k : Ev g r) (h : r = r') : Ev g r' := h ▸ k
theorem Ev.this {α : Type} {a : Option α} {r : α} (h : a = some r) : Ev (fun _ => a) r := ⟨0, fun _ _ => h⟩
theorem Ev.at {α : Type} {g : Nat → Option α} {r : α} {K : Nat} (h : ∀ k, K ≤ k → g k = some r) : Ev g r := ⟨K, h⟩
end Go.Proofs.YtdgdhmglcpkkiaaDoor
