/- Whatever the instance, if it is no longer than the bound: the faults that the program tells are the reference's, and it is well-formed just if there are none. -/
import Derived.Test.YtfnnngoandpgkaaPxEntrepotlaw08CanonChecks
import Derived.Test.YtfnnngoandpgkaaMgf
namespace Go.Proofs.Ytfnnngoandpgkaa.Pure
open Go.RowKit Go.Proofs.Ytfnnngoandpgkaa.P Go.Proofs.YtfnnngoandpgkaaW.PrintWords Go.Proofs.YtfnnngoandpgkaaW.PrintLast CanonL

theorem check_some (nm : ByteArray) (kd mt sc cp fl : Int) (ns : List N1) (mx : List Int) (h : nm.size ≤ 100) : canon_Check.f nm kd mt sc cp fl ns mx = some (CanonWalk.faultsOf nm kd mt sc cp fl ns mx) := by
  unfold canon_Check.f; exact if_pos (by omega)
theorem well_some (nm : ByteArray) (kd mt sc cp fl : Int) (ns : List N1) (mx : List Int) (h : nm.size ≤ 100) : canon_Well.f nm kd mt sc cp fl ns mx = some (((CanonWalk.faultsOf nm kd mt sc cp fl ns mx).length : Int) == 0) := by
  unfold canon_Well.f; rw [check_some nm kd mt sc cp fl ns mx h]; rfl
theorem CanonChecks (nm : ByteArray) (kd mt sc cp fl : Int) (ns : List Open.Node) (mx : List Int) (hg : Open.InstGood nm kd mt sc cp fl ns mx) :
    ∃ k, entrepotlaw08_CanonChecks.f k nm kd mt sc cp fl ns mx = some true := by
  refine Ev.rounds ?_
  unfold entrepotlaw08_CanonChecks.f
  obtain ⟨b, hb, hl⟩ := long_tells nm kd mt sc cp fl ns mx
  refine Ev.bs hb ?_
  cases b with
  | true => exact Ev.pos rfl (Ev.step (fun _ => entrepotlaw08_CanonChecks.j0.eq_2 ..) (Ev.pos rfl (Ev.bs shown_true (Ev.now _))))
  | false =>
    obtain ⟨hn, hm, hs⟩ := hl rfl
    have hw := wide_of hg.nodes
    have hle := faultsOf_le nm kd mt sc cp fl mx hw
    refine Ev.neg (by simp) (Ev.bs shown_true (Ev.step (fun _ => entrepotlaw08_CanonChecks.j0.eq_2 ..) (Ev.neg (by simp) ?_)))
    refine Ev.bs (check_some nm kd mt sc cp fl ns mx hs) (Ev.bind (faults_ev hle) (Ev.bind (its_ev nm kd mt sc cp fl mx (by omega)) ?_))
    refine Ev.bind (Ref08.check_ev nm kd mt sc cp fl (ns.map conv) mx (by omega)) ?_
    rw [all_eq nm kd mt sc cp fl mx hw]
    refine Ev.bind (same_ev (by rw [← all_eq nm kd mt sc cp fl mx hw, List.length_map]; exact hle)) (Ev.pos rfl (Ev.bs (well_some nm kd mt sc cp fl ns mx hs) (Ev.this (by simp))))
end Go.Proofs.Ytfnnngoandpgkaa.Pure
