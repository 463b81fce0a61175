/- Whatever the format and the instance, if it is no longer than the bound: the fields that lack are those that the reference tells; it can be expressed just where none lacks. -/
import Derived.Test.YtmapllahhpdedaaPxEntrepotlaw12ExpressTells
import Derived.Test.YtmapllahhpdedaaGRef12
namespace Go.Proofs.Ytmapllahhpdedaa.Pure
open Go.RowKit Go.Proofs.Ytmapllahhpdedaa.P Go.Proofs.YtmapllahhpdedaaW.PrintWords Go.Proofs.YtmapllahhpdedaaW.PrintLast LacksWalk Ref12

theorem ExpressTells (fmt : Int) (nm : ByteArray) (kd mt sc cp fl : Int) (ns : List Open.Node) (mx : List Int) (_ : Open.WfI fmt) (_ : Open.InstGood nm kd mt sc cp fl ns mx) :
    ∃ k, entrepotlaw12_ExpressTells.f k fmt nm kd mt sc cp fl ns mx = some true := by
  refine Ev.rounds ?_
  unfold entrepotlaw12_ExpressTells.f
  obtain ⟨b, hb, hl⟩ := long_tells nm kd mt sc cp fl ns mx
  refine Ev.bs hb ?_
  cases b with
  | true => exact Ev.pos rfl (Ev.step (fun _ => entrepotlaw12_ExpressTells.j0.eq_2 ..) (Ev.pos rfl (Ev.this (by rw [shown_true, bind_s]))))
  | false =>
    have hn := (hl rfl).1
    refine Ev.neg (by simp) (Ev.bs shown_true (Ev.step (fun _ => entrepotlaw12_ExpressTells.j0.eq_2 ..) (Ev.neg (by simp) ?_)))
    refine Ev.bs (x := lacksOf fmt nm kd mt sc fl ns) (by unfold express_Lacks.f; rfl) (Ev.bind (its_ev nm kd mt sc cp fl mx hn) (Ev.bind (ref_ev fmt nm kd mt sc cp fl mx hn) ?_))
    obtain ⟨_, h2⟩ := lacksOf_rises fmt nm kd mt sc fl ns
    have hlen : (lacksOf fmt nm kd mt sc fl ns).length ≤ 13 := by omega
    refine Ev.bind (Ev.at (K := 20) fun k hk => ints_tells _ _ k (by omega) (by omega)) (Ev.pos (by simp) (Ev.bs (can_tells fmt nm kd mt sc cp fl ns mx) (Ev.this ?_)))
    generalize lacksOf fmt nm kd mt sc fl ns = l
    cases l with
    | nil => rfl
    | cons a t =>
      rw [beq_eq_false_iff_ne.2 (show ((a :: t).length : Int) ≠ 0 by simp; omega), beq_eq_false_iff_ne.2 (show (a :: t).length ≠ 0 by simp)]
      rfl
end Go.Proofs.Ytmapllahhpdedaa.Pure
