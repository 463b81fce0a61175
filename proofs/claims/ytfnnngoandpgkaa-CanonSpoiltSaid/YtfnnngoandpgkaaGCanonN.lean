/- The faults of an instance: how many there are, and what goes in the normal form. Plain lemmas on lists and numbers. -/
import Derived.Test.YtfnnngoandpgkaaMgb
import Derived.Test.YtfnnngoandpgkaaMgc
import Derived.Test.YtfnnngoandpgkaaMga
import Derived.Test.YtfnnngoandpgkaaMge
namespace Go.Proofs.Ytfnnngoandpgkaa
open Go.RowKit Go.Proofs.YtfnnngoandpgkaaW.PrintWords Go.Proofs.YtfnnngoandpgkaaW.PrintLast P
set_option linter.unusedVariables false
namespace CanonN
abbrev N1 := S46
abbrev F1 := S43
theorem shown_true : P.entrepotlaw08_shown.f = some true := P.entrepotlaw08_shown.only
theorem rdN_at {l : List N1} {i : Nat} (h : i < l.length) : rd_T46 l (i : Int) = l[i] := by
  unfold rd_T46
  rw [Int.toNat_natCast, List.getD_eq_getElem?_getD, List.getElem?_eq_getElem h]; rfl
theorem wrap64_succ {i : Nat} (h : i ≤ 4611686018427387904) : wrap64 ((i : Int) + 1) = ((i + 1 : Nat) : Int) := by unfold wrap64; omega
theorem long_tells (name : ByteArray) (kind metric scale cap fleet : Int) (l : List N1) (m : List Int) :
    ∃ b, entrepotlaw08_long.f name kind metric scale cap fleet l m = some b ∧ (b = false → l.length ≤ 420 ∧ m.length ≤ 1000 ∧ name.size ≤ 100) := by
  unfold entrepotlaw08_long.f
  by_cases h1 : (l.length : Int) > 420
  · rw [if_pos h1]; exact ⟨true, rfl, fun h => by cases h⟩
  · rw [if_neg h1]
    by_cases h2 : (m.length : Int) > 1000
    · rw [if_pos h2]; exact ⟨true, rfl, fun h => by cases h⟩
    · rw [if_neg h2]
      exact ⟨_, rfl, fun h => by have := of_decide_eq_false h; omega⟩
theorem check_some (nm : ByteArray) (kd mt sc cp fl : Int) (ns : List N1) (mx : List Int) (h : nm.size ≤ 100) : canon_Check.f nm kd mt sc cp fl ns mx = some (CanonWalk.faultsOf nm kd mt sc cp fl ns mx) := by
  unfold canon_Check.f; exact if_pos (by omega)
theorem well_some (nm : ByteArray) (kd mt sc cp fl : Int) (ns : List N1) (mx : List Int) (h : nm.size ≤ 100) : canon_Well.f nm kd mt sc cp fl ns mx = some (((CanonWalk.faultsOf nm kd mt sc cp fl ns mx).length : Int) == 0) := by
  unfold canon_Well.f; rw [check_some nm kd mt sc cp fl ns mx h]; rfl
end CanonN
end Go.Proofs.Ytfnnngoandpgkaa
