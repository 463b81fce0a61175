/- An instance as the references have it: the same numbers. Plain lemmas on lists. -/
import Derived.Test.YtmapllahhpdedaaGInts
import Derived.Test.YtmapllahhpdedaaGEv
import Derived.Test.YtmapllahhpdedaaPxEntrepotlaw12its
namespace Go.Proofs.Ytmapllahhpdedaa
open Go.RowKit Go.Proofs.YtmapllahhpdedaaW.PrintWords P
namespace Ref12
abbrev Node1 := S40
abbrev Node2 := S49
def conv (d : Node1) : Node2 := ⟨d.f0, d.f1, d.f2, d.f3, d.f4, d.f5, d.f6⟩
theorem rdN_at {l : List Node1} {i : Nat} (h : i < l.length) : rd_T40 l (i : Int) = l[i] := by
  unfold rd_T40
  rw [Int.toNat_natCast, List.getD_eq_getElem?_getD, List.getElem?_eq_getElem h]; rfl
theorem rdN2_at {l : List Node1} {i : Nat} (h : i < l.length) : rd_T49 (l.map conv) (i : Int) = conv l[i] := by
  unfold rd_T49
  rw [Int.toNat_natCast, List.getD_eq_getElem?_getD, List.getElem?_eq_getElem (by simpa using h)]; simp
theorem its_from (nm : ByteArray) (kd mt sc cp fl : Int) {ns : List Node1} (mx : List Int) (hn : ns.length ≤ 400) (d : Nat) : ∀ i : Nat, i + d = ns.length →
    Ev (fun k => entrepotlaw12_its.l0 k (i : Int) nm kd mt sc cp fl ns mx nm kd mt sc cp fl ((ns.take i).map conv) mx) (nm, kd, mt, sc, cp, fl, ns.map conv, mx) := by
  induction d with
  | zero =>
    intro i hi
    refine Ev.step (fun _ => entrepotlaw12_its.l0.eq_2 ..) (Ev.neg (by omega) ?_)
    rw [List.take_of_length_le (by omega)]; exact Ev.now _
  | succ d ih =>
    intro i hi
    have hlt : i < ns.length := by omega
    refine Ev.step (fun _ => entrepotlaw12_its.l0.eq_2 ..) (Ev.pos (by omega) (Ev.pos (by omega) (Ev.pos (by omega) (Ev.pos (by simp; omega) ?_))))
    rw [rdN_at hlt, wrap64_succ (by omega)]
    have := ih (i + 1) (by omega)
    rwa [List.take_succ_eq_append_getElem hlt, List.map_append] at this
theorem its_ev (nm : ByteArray) (kd mt sc cp fl : Int) {ns : List Node1} (mx : List Int) (hn : ns.length ≤ 400) : Ev (fun k => entrepotlaw12_its.f k nm kd mt sc cp fl ns mx) (nm, kd, mt, sc, cp, fl, ns.map conv, mx) := by
  have := its_from nm kd mt sc cp fl mx hn ns.length 0 (by omega)
  simpa [entrepotlaw12_its.f] using this
end Ref12
end Go.Proofs.Ytmapllahhpdedaa
