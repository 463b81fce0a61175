/- Whatever the instance and the plan, if they are no longer than the bound and the instance is well-formed: what is wrong with the plan, and whether it is feasible, is the reference's. -/
import Derived.Test.YtlncbckpcmojpaaGRef11H
import Derived.Test.YtlncbckpcmojpaaMka
import Derived.Test.YtlncbckpcmojpaaPxEntrepotlaw11FeasChecks
set_option linter.unusedVariables false
namespace Go.Proofs.Ytlncbckpcmojpaa.Pure
open Go.RowKit Go.Proofs.Ytlncbckpcmojpaa.P Go.Proofs.YtlncbckpcmojpaaW.PrintWords Go.Proofs.YtlncbckpcmojpaaW.PrintLast
open FeasWalk FeasP StopsWalk Ref11
open Well11 (w64s wellF good_of rdN rdN_at conv rdN_conv Good many)
theorem theirs_from {l : List W1} (hl : l.length ≤ 1000000) (d : Nat) : ∀ i : Nat, i + d = l.length → Ev (fun k => entrepotlaw11_theirs.l0 k l ((l.take i).map convW) (i : Int)) (l.map convW) := by
 induction d with
 | zero =>
  intro i hi
  refine Ev.step (fun _ => entrepotlaw11_theirs.l0.eq_2 ..) (Ev.neg (by omega) ?_)
  rw [List.take_of_length_le (by omega)]; exact Ev.now _
 | succ d ih =>
  intro i hi
  have hlt : i < l.length := by omega
  have next := ih (i + 1) (by omega)
  rw [List.take_succ_eq_append_getElem hlt, List.map_append] at next
  refine Ev.step (fun _ => entrepotlaw11_theirs.l0.eq_2 ..) (Ev.pos (by omega) (Ev.pos (by omega) (Ev.pos (by simp; omega) ?_)))
  rw [show rd_T37 l (i : Int) = l[i] by unfold rd_T37; rw [Int.toNat_natCast, List.getD_eq_getElem?_getD, List.getElem?_eq_getElem hlt]; rfl, w64s (by omega)]
  exact next
theorem theirs_ev {l : List W1} (hl : l.length ≤ 1000000) : Ev (fun k => entrepotlaw11_theirs.f k l) (l.map convW) := by
 have := theirs_from hl l.length 0 (by omega)
 simpa [entrepotlaw11_theirs.f] using this
theorem same_from {l : List W2} (hl : l.length ≤ 1000000) (d : Nat) : ∀ i : Nat, i + d = l.length → Ev (fun k => entrepotref11_Same.l0 k l l (i : Int)) true := by
 induction d with
 | zero => intro i hi; exact Ev.step (fun _ => entrepotref11_Same.l0.eq_2 ..) (Ev.neg (by omega) (Ev.now _))
 | succ d ih =>
  intro i hi
  refine Ev.step (fun _ => entrepotref11_Same.l0.eq_2 ..) (Ev.pos (by omega) (Ev.pos (by omega) (Ev.pos (by omega) (Ev.neg (by simp) ?_))))
  rw [w64s (by omega)]
  exact ih (i + 1) (by omega)
theorem same_ev {l : List W2} (hl : l.length ≤ 1000000) : Ev (fun k => entrepotref11_Same.f k l l) true := by
 unfold entrepotref11_Same.f
 exact Ev.pos rfl (same_from hl l.length 0 (by omega))
theorem stops_many (rs : List (List Int)) : (stopsOf rs).length = many rs := by
 have h := congrArg List.length (stops_vals rs)
 rw [List.length_map, List.length_flatten] at h
 rw [h]; rfl
theorem FeasChecks (nm : ByteArray) (kd mt sc cp fl : Int) (ns : List FeasWalk.Node) (mx : List Int) (rs : List (List Int)) (_ : Open.InstGood nm kd mt sc cp fl ns mx) (_ : Open.PlanGood rs) : ∃ k, entrepotlaw11_FeasChecks.f k nm kd mt sc cp fl ns mx rs = some true := by
 refine Ev.rounds ?_
 have yes : Ev (fun k => entrepotlaw11_FeasChecks.j0 k true nm kd mt sc cp fl ns mx rs) true := Ev.step (fun _ => entrepotlaw11_FeasChecks.j0.eq_2 ..) (Ev.pos rfl (Ev.bs entrepotlaw11_shown.only (Ev.now _)))
 unfold entrepotlaw11_FeasChecks.f
 refine Ev.bind (Well11.well_ev nm kd mt sc cp fl ns mx) ?_
 cases hw : wellF nm kd mt sc cp fl ns mx with
 | false => exact Ev.neg (by simp) yes
 | true =>
  have g := good_of hw
  refine Ev.pos rfl ?_
  obtain ⟨b, hb, hb2⟩ := Well11.long_tells rs
  refine Ev.bind hb ?_
  cases b with
  | true => exact Ev.pos rfl yes
  | false =>
   obtain ⟨l1, l2, l3⟩ := hb2 rfl
   have hfw := few_long (by omega) l2
   have hn := g.cnt
   have hwl := wrongs_len (lk nm kd mt sc cp fl ns mx) (few_of hfw) hn.2
   have hfit : fitsF rs = true := by
    unfold fitsF
    simp only [Bool.and_eq_true, decide_eq_true_eq, List.all_eq_true]
    exact ⟨⟨by omega, fun r hr => Nat.le_trans (l2 r hr) (by decide)⟩, by rw [stops_many]; omega⟩
   have hmate : MateOk ns := fun i hi => by
    by_cases h4 : kd = 4 ∧ i ≠ 0
    ·exact .inr ((g.mate i hi).2 h4).2.2.1
    ·by_cases h0 : i = 0
     ·exact .inl (by rw [(g.demand i hi).2.1 (.inr h0)]; omega)
     ·have hk4 : kd ≠ 4 := fun e => h4 ⟨e, h0⟩
      have hm := (g.mate i hi).1 h4
      exact .inr (by rw [hm]; omega)
   have hE := check_eq (x := lk nm kd mt sc cp fl ns mx) (fun i hi => (g.window i hi).1) hmate hn.1 g.kind rs
   have hck : ∀ k, entrepotref11_Check.f k nm kd mt sc cp fl (ns.map conv) mx rs = some ((wrongsOf (lk nm kd mt sc cp fl ns mx) rs).map convW) := fun k => by
    unfold entrepotref11_Check.f
    rw [List.length_map, if_pos ⟨ok_good g, hfit⟩, ← hE]; rfl
   refine Ev.neg (by simp) (Ev.bs entrepotlaw11_shown.only (Ev.step (fun _ => entrepotlaw11_FeasChecks.j0.eq_2 ..) (Ev.neg (by simp) (Ev.bs (check_some (ok_good g) hfw) (Ev.bind (theirs_ev hwl) (Ev.bind (Well11.its_ev nm kd mt sc cp fl mx hn.2) (Ev.bind (Ev.at (K := 0) fun k _ => hck k) (Ev.bind (same_ev (by rw [List.length_map]; exact hwl)) (Ev.pos rfl (Ev.bs (feasible_some (ok_good g) hfw) (Ev.this ?_)))))))))))
   cases wrongsOf (lk nm kd mt sc cp fl ns mx) rs with
   | nil => rfl
   | cons a l =>
    rw [List.length_cons]
    have : (((l.length + 1 : Nat) : Int) == 0) = false := beq_eq_false_iff_ne.2 (by omega)
    rw [this]; rfl
end Go.Proofs.Ytlncbckpcmojpaa.Pure
