/- The faults of an instance: how many there are, and what goes in the normal form. Plain lemmas on lists and numbers. -/
import Derived.Test.YtfnnngoandpgkaaMgb
import Derived.Test.YtfnnngoandpgkaaMgc
import Derived.Test.YtfnnngoandpgkaaMga
import Derived.Test.YtfnnngoandpgkaaMge
namespace Go.Proofs.Ytfnnngoandpgkaa
open Go.RowKit Go.Proofs.YtfnnngoandpgkaaW.PrintWords Go.Proofs.YtfnnngoandpgkaaW.PrintLast P
set_option linter.unusedVariables false
namespace CanonN
abbrev N1 := S46
abbrev F1 := S43
theorem shown_true : P.entrepotlaw08_shown.f = some true := P.entrepotlaw08_shown.only
theorem rdN_at {l : List N1} {i : Nat} (h : i < l.length) : rd_T46 l (i : Int) = l[i] := by
  unfold rd_T46
  rw [Int.toNat_natCast, List.getD_eq_getElem?_getD, List.getElem?_eq_getElem h]; rfl
theorem rdF_at {l : List F1} {i : Nat} (h : i < l.length) : rd_T43 l (i : Int) = l[i] := by
  unfold rd_T43
  rw [Int.toNat_natCast, List.getD_eq_getElem?_getD, List.getElem?_eq_getElem h]; rfl
theorem wrap64_succ {i : Nat} (h : i ≤ 4611686018427387904) : wrap64 ((i : Int) + 1) = ((i + 1 : Nat) : Int) := by unfold wrap64; omega
theorem long_tells (name : ByteArray) (kind metric scale cap fleet : Int) (l : List N1) (m : List Int) :
    ∃ b, entrepotlaw08_long.f name kind metric scale cap fleet l m = some b ∧ (b = false → l.length ≤ 420 ∧ m.length ≤ 1000 ∧ name.size ≤ 100) := by
  unfold entrepotlaw08_long.f
  by_cases h1 : (l.length : Int) > 420
  · rw [if_pos h1]; exact ⟨true, rfl, fun h => by cases h⟩
  · rw [if_neg h1]
    by_cases h2 : (m.length : Int) > 1000
    · rw [if_pos h2]; exact ⟨true, rfl, fun h => by cases h⟩
    · rw [if_neg h2]
      exact ⟨_, rfl, fun h => by have := of_decide_eq_false h; omega⟩
theorem check_some (nm : ByteArray) (kd mt sc cp fl : Int) (ns : List N1) (mx : List Int) (h : nm.size ≤ 100) : canon_Check.f nm kd mt sc cp fl ns mx = some (CanonWalk.faultsOf nm kd mt sc cp fl ns mx) := by
  unfold canon_Check.f; exact if_pos (by omega)
theorem well_some (nm : ByteArray) (kd mt sc cp fl : Int) (ns : List N1) (mx : List Int) (h : nm.size ≤ 100) : canon_Well.f nm kd mt sc cp fl ns mx = some (((CanonWalk.faultsOf nm kd mt sc cp fl ns mx).length : Int) == 0) := by
  unfold canon_Well.f; rw [check_some nm kd mt sc cp fl ns mx h]; rfl
theorem norm_some (nm : ByteArray) (kd mt sc cp fl : Int) (ns : List N1) (mx : List Int) (h : ns.length ≤ 420) (hm : mx.length ≤ 1000) : canon_Norm.f nm kd mt sc cp fl ns mx = some (nm, kd, mt, (CanonNorm.normGo 6 sc ns).1, cp, fl, (CanonNorm.normGo 6 sc ns).2, mx) := by
  unfold canon_Norm.f; exact if_pos ⟨by omega, by omega⟩
theorem same_some (nm : ByteArray) (kd mt sc cp fl : Int) (ns : List N1) (mx : List Int) (h : ns.length ≤ 420) (hm : mx.length ≤ 1000) : canon_Same.f nm kd mt sc cp fl ns mx nm kd mt sc cp fl ns mx = some true := by
  unfold canon_Same.f
  rw [if_pos ⟨by omega, by omega⟩]
  unfold CanonSame.sameNodes CanonSame.sameInts CanonSame.five
  simp
theorem node_le (kd mt : Int) (ns : List N1) (i : Nat) : (CanonWalk.nodeOf kd mt ns i).length ≤ 5 := by
  unfold CanonWalk.nodeOf
  simp only [List.length_append]
  have h1 := CanonWalk.opt_le (CanonWalk.coordB mt (rd_T46 ns (i : Int))) ⟨9, i⟩
  have h2 := CanonWalk.opt_le (CanonWalk.demandB kd i (rd_T46 ns (i : Int))) ⟨10, i⟩
  have h3 := CanonWalk.opt_le (CanonWalk.windowB kd (rd_T46 ns (i : Int))) ⟨11, i⟩
  have h4 := CanonWalk.opt_le (CanonWalk.serviceB kd (rd_T46 ns (i : Int))) ⟨12, i⟩
  have h5 := CanonWalk.opt_le (CanonWalk.mateB kd ns i (rd_T46 ns (i : Int))) ⟨13, i⟩
  omega
theorem faults_le (nm : ByteArray) (kd mt sc cp fl : Int) (ns : List N1) (mx : List Int) : (CanonWalk.faultsOf nm kd mt sc cp fl ns mx).length ≤ 65536 := by
  have hh : (CanonWalk.headOf nm kd mt sc cp fl).length ≤ 6 := by
    unfold CanonWalk.headOf
    simp only [List.length_append, List.length_nil]
    have h1 := CanonWalk.opt_le (CanonWalk.nameB nm) ⟨1, 0⟩
    have h2 := CanonWalk.opt_le (CanonWalk.kindB kd) ⟨2, 0⟩
    have h3 := CanonWalk.opt_le (CanonWalk.knownB mt) ⟨3, 0⟩
    have h4 := CanonWalk.opt_le (CanonWalk.scaleB mt sc) ⟨4, 0⟩
    have h5 := CanonWalk.opt_le (CanonWalk.limitB kd cp 1 100000000) ⟨5, 0⟩
    have h6 := CanonWalk.opt_le (CanonWalk.limitB kd fl 0 400) ⟨6, 0⟩
    omega
  have hf : ∀ n : Nat, ((List.range n).flatMap (CanonWalk.nodeOf kd mt ns)).length ≤ 5 * n := by
    intro n
    induction n with
    | zero => simp
    | succ n ih =>
      rw [List.range_succ, List.flatMap_append, List.length_append]
      simp only [List.flatMap_cons, List.flatMap_nil, List.append_nil]
      have := node_le kd mt ns n
      omega
  unfold CanonWalk.faultsOf
  split
  · rename_i h
    rw [List.length_append, List.length_append]
    have ho := CanonWalk.opt_le (CanonWalk.matrixB mt ns.length mx) ⟨8, 0⟩
    have := hf ns.length
    omega
  · rw [List.length_append]; simp; omega
end CanonN
end Go.Proofs.Ytfnnngoandpgkaa
