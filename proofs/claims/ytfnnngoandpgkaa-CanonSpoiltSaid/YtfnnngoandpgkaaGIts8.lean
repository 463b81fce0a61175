/- An instance and faults as the reference has them: the same numbers. Plain lemmas on lists. -/
import Derived.Test.YtfnnngoandpgkaaMga
import Derived.Test.YtfnnngoandpgkaaMge
namespace Go.Proofs.Ytfnnngoandpgkaa
open Go.RowKit Go.Proofs.YtfnnngoandpgkaaW.PrintWords Go.Proofs.YtfnnngoandpgkaaW.PrintLast P
set_option linter.unusedVariables false
namespace CanonL
abbrev N1 := S46
abbrev N2 := S60
abbrev F1 := S43
abbrev F2 := S58
def conv (d : N1) : N2 := ⟨d.f0, d.f1, d.f2, d.f3, d.f4, d.f5, d.f6⟩
def convF (f : F1) : F2 := ⟨f.f0, f.f1⟩
theorem rdN_at {l : List N1} {i : Nat} (h : i < l.length) : rd_T46 l (i : Int) = l[i] := by
  unfold rd_T46
  rw [Int.toNat_natCast, List.getD_eq_getElem?_getD, List.getElem?_eq_getElem h]; rfl
theorem rdN2_at {l : List N2} {i : Nat} (h : i < l.length) : rd_T60 l (i : Int) = l[i] := by
  unfold rd_T60
  rw [Int.toNat_natCast, List.getD_eq_getElem?_getD, List.getElem?_eq_getElem h]; rfl
theorem rd_at {l : List Int} {i : Nat} (h : i < l.length) : rd l (i : Int) = l[i] := by
  unfold rd
  rw [Int.toNat_natCast, List.getD_eq_getElem?_getD, List.getElem?_eq_getElem h]; rfl
theorem wrap64_succ {i : Nat} (h : i ≤ 4611686018427387904) : wrap64 ((i : Int) + 1) = ((i + 1 : Nat) : Int) := by unfold wrap64; omega
theorem long_tells (name : ByteArray) (kind metric scale cap fleet : Int) (l : List N1) (m : List Int) :
    ∃ b, entrepotlaw08_long.f name kind metric scale cap fleet l m = some b ∧ (b = false → l.length ≤ 420 ∧ m.length ≤ 1000 ∧ name.size ≤ 100) := by
  unfold entrepotlaw08_long.f
  by_cases h1 : (l.length : Int) > 420
  · rw [if_pos h1]; exact ⟨true, rfl, fun h => by cases h⟩
  · rw [if_neg h1]
    by_cases h2 : (m.length : Int) > 1000
    · rw [if_pos h2]; exact ⟨true, rfl, fun h => by cases h⟩
    · rw [if_neg h2]
      exact ⟨_, rfl, fun h => by have := of_decide_eq_false h; omega⟩
theorem its_from (nm : ByteArray) (kd mt sc cp fl : Int) {ns : List N1} (mx : List Int) (hn : ns.length ≤ 65536) (d : Nat) : ∀ i : Nat, i + d = ns.length →
    Ev (fun k => entrepotlaw08_its.l0 k (i : Int) nm kd mt sc cp fl ns mx nm kd mt sc cp fl ((ns.take i).map conv) mx) (nm, kd, mt, sc, cp, fl, ns.map conv, mx) := by
  induction d with
  | zero =>
    intro i hi
    refine Ev.step (fun _ => entrepotlaw08_its.l0.eq_2 ..) (Ev.neg (by omega) ?_)
    rw [List.take_of_length_le (by omega)]; exact Ev.now _
  | succ d ih =>
    intro i hi
    have hlt : i < ns.length := by omega
    refine Ev.step (fun _ => entrepotlaw08_its.l0.eq_2 ..) (Ev.pos (by omega) (Ev.pos (by omega) (Ev.pos (by simp; omega) ?_)))
    rw [rdN_at hlt, wrap64_succ (by omega)]
    have := ih (i + 1) (by omega)
    rwa [List.take_succ_eq_append_getElem hlt, List.map_append] at this
theorem its_ev (nm : ByteArray) (kd mt sc cp fl : Int) {ns : List N1} (mx : List Int) (hn : ns.length ≤ 65536) : Ev (fun k => entrepotlaw08_its.f k nm kd mt sc cp fl ns mx) (nm, kd, mt, sc, cp, fl, ns.map conv, mx) := by
  have := its_from nm kd mt sc cp fl mx hn ns.length 0 (by omega)
  simpa [entrepotlaw08_its.f] using this
end CanonL
end Go.Proofs.Ytfnnngoandpgkaa
