/- Whatever the instance and the plan, if they are no longer than the bound and the instance is well-formed: what is wrong with a plan is the same in its instance's normal form. -/
import Derived.Test.YtlncbckpcmojpaaMkj
import Derived.Test.YtlncbckpcmojpaaGWayTen
import Derived.Test.YtlncbckpcmojpaaMka
import Derived.Test.YtlncbckpcmojpaaPxEntrepotlaw11FeasScaled
set_option linter.unusedVariables false
namespace Go.Proofs.Ytlncbckpcmojpaa.Pure
open Go.RowKit Go.Proofs.Ytlncbckpcmojpaa.P Go.Proofs.YtlncbckpcmojpaaW.PrintWords Go.Proofs.YtlncbckpcmojpaaW.PrintLast
open FeasWalk FeasP StopsWalk
open Well11 (w64s wellF good_of rdN rdN_at)
open CanonNorm (normGo normGo_end okScale div10)
open DistWalk (way far)
abbrev W1 := S37
abbrev W2 := S68
def convW (w : W1) : W2 := ⟨w.f0, w.f1, w.f2⟩
theorem theirs_from {l : List W1} (hl : l.length ≤ 1000000) (d : Nat) : ∀ i : Nat, i + d = l.length → Ev (fun k => entrepotlaw11_theirs.l0 k l ((l.take i).map convW) (i : Int)) (l.map convW) := by
  induction d with
  | zero =>
    intro i hi
    refine Ev.step (fun _ => entrepotlaw11_theirs.l0.eq_2 ..) (Ev.neg (by omega) ?_)
    rw [List.take_of_length_le (by omega)]; exact Ev.now _
  | succ d ih =>
    intro i hi
    have hlt : i < l.length := by omega
    have next := ih (i + 1) (by omega)
    rw [List.take_succ_eq_append_getElem hlt, List.map_append] at next
    refine Ev.step (fun _ => entrepotlaw11_theirs.l0.eq_2 ..) (Ev.pos (by omega) (Ev.pos (by omega) (Ev.pos (by simp; omega) ?_)))
    rw [show rd_T37 l (i : Int) = l[i] by unfold rd_T37; rw [Int.toNat_natCast, List.getD_eq_getElem?_getD, List.getElem?_eq_getElem hlt]; rfl, w64s (by omega)]
    exact next
theorem theirs_ev {l : List W1} (hl : l.length ≤ 1000000) : Ev (fun k => entrepotlaw11_theirs.f k l) (l.map convW) := by
  have := theirs_from hl l.length 0 (by omega)
  simpa [entrepotlaw11_theirs.f] using this
theorem same_from {l : List W2} (hl : l.length ≤ 1000000) (d : Nat) : ∀ i : Nat, i + d = l.length → Ev (fun k => entrepotref11_Same.l0 k l l (i : Int)) true := by
  induction d with
  | zero => intro i hi; exact Ev.step (fun _ => entrepotref11_Same.l0.eq_2 ..) (Ev.neg (by omega) (Ev.now _))
  | succ d ih =>
    intro i hi
    refine Ev.step (fun _ => entrepotref11_Same.l0.eq_2 ..) (Ev.pos (by omega) (Ev.pos (by omega) (Ev.pos (by omega) (Ev.neg (by simp) ?_))))
    rw [w64s (by omega)]
    exact ih (i + 1) (by omega)
theorem same_ev {l : List W2} (hl : l.length ≤ 1000000) : Ev (fun k => entrepotref11_Same.f k l l) true := by
  unfold entrepotref11_Same.f
  exact Ev.pos rfl (same_from hl l.length 0 (by omega))
/-- Alike in all that is asked. -/
structure Twins (x y : Look) : Prop where
  like : Like x y
  cp : x.cp = y.cp
  fl : x.fl = y.fl
  due : ∀ i : Nat, i < x.ns.length → (rdN x.ns (i : Int)).f4 = (rdN y.ns (i : Int)).f4
theorem Twins.trans {x y z : Look} (a : Twins x y) (b : Twins y z) : Twins x z where
  like :=
    { kd := a.like.kd.trans b.like.kd
      u := a.like.u.trans b.like.u
      n := a.like.n.trans b.like.n
      some := a.like.some
      leg := fun i j hi hj => (a.like.leg i j hi hj).trans (b.like.leg i j (by rw [← a.like.n]; exact hi) (by rw [← a.like.n]; exact hj))
      nod := fun i hi => by
        have h1 := a.like.nod i hi
        have h2 := b.like.nod i (by rw [← a.like.n]; exact hi)
        exact ⟨h1.1.trans h2.1, h1.2.1.trans h2.2.1, h1.2.2.1.trans h2.2.2.1, h1.2.2.2.trans h2.2.2.2⟩ }
  cp := a.cp.trans b.cp
  fl := a.fl.trans b.fl
  due := fun i hi => (a.due i hi).trans (b.due i (by rw [← a.like.n]; exact hi))
theorem Twins.refl {x : Look} (h : 0 < x.ns.length) : Twins x x := ⟨⟨rfl, rfl, rfl, h, fun _ _ _ _ => rfl, fun _ _ => ⟨rfl, rfl, rfl, rfl⟩⟩, rfl, rfl, fun _ _ => rfl⟩
theorem twins_wrongs {x y : Look} (h : Twins x y) (rs : List (List Int)) : wrongsOf x rs = wrongsOf y rs := by
  unfold wrongsOf
  rw [← bad_like h.like]
  split
  · rename_i hb
    rw [← h.like.n, ← cov_like h.like]
    congr 1
    · unfold fleetB; rw [h.like.kd, h.fl]
    · unfold routesB
      rw [List.flatMap_def, List.flatMap_def]
      congr 1
      refine List.map_congr_left fun i hi => ?_
      have hi := List.mem_range.1 hi
      have hin := rows_in hb hi
      rw [Well11.rd1_at hi, route_eq, route_eq, ← h.like.kd, ← pair_like h.like _ hin]
      have e1 : loadB x (i : Int) rs[i] = loadB y (i : Int) rs[i] := by
        have eo : over x = over y := funext fun d => by unfold over; rw [h.cp]
        unfold loadB; rw [← loads_like h.like hin, eo]
      have e2 : lateB x (i : Int) rs[i] = lateB y (i : Int) rs[i] := by
        have := (times_twin h.like (Q := Eq) rfl (fun a b now j hj hab => by rw [hab, h.due j hj]) hin).2
        unfold lateB; rw [this]
      rw [e1, e2]
  · rfl
theorem even_f {d : FeasWalk.Node} (h : NodeFind.oddB d = false) (h0 : -100000000 ≤ d.f0 ∧ d.f0 ≤ 100000000) (h1 : -100000000 ≤ d.f1 ∧ d.f1 ≤ 100000000) : d.f0 = 10 * (div10 d).f0 ∧ d.f1 = 10 * (div10 d).f1 := by
  unfold NodeFind.oddB at h
  simp only [Bool.or_eq_false_iff, bne_eq_false_iff_eq] at h
  have e0 : (div10 d).f0 = wrap64 (Int.tdiv d.f0 10) := rfl
  have e1 : (div10 d).f1 = wrap64 (Int.tdiv d.f1 10) := rfl
  have t0 := Int.mul_tdiv_add_tmod d.f0 10
  have t1 := Int.mul_tdiv_add_tmod d.f1 10
  rw [h.1] at t0
  rw [h.2] at t1
  rw [e0, e1]
  generalize Int.tdiv d.f0 10 = a at *
  generalize Int.tdiv d.f1 10 = b at *
  unfold wrap64
  omega
theorem rd_div {ns : List FeasWalk.Node} {i : Nat} (h : i < ns.length) : rdN (ns.map div10) (i : Int) = div10 (rdN ns (i : Int)) := by
  rw [rdN_at (by rw [List.length_map]; exact h), rdN_at h, List.getElem_map]
def NearAll (ns : List FeasWalk.Node) : Prop := ∀ i : Nat, i < ns.length → (-100000000 ≤ (rdN ns (i : Int)).f0 ∧ (rdN ns (i : Int)).f0 ≤ 100000000) ∧ (-100000000 ≤ (rdN ns (i : Int)).f1 ∧ (rdN ns (i : Int)).f1 ≤ 100000000)
theorem odd_at {ns : List FeasWalk.Node} (h : ns.any NodeFind.oddB = false) {i : Nat} (hi : i < ns.length) : NodeFind.oddB (rdN ns (i : Int)) = false := by
  rw [List.any_eq_false] at h
  rw [rdN_at hi]
  exact Bool.eq_false_iff.2 (h _ (List.getElem_mem hi))
theorem leg_ten {nm : ByteArray} {kd mt sc cp fl : Int} {ns : List FeasWalk.Node} {mx : List Int} (hm : 0 ≤ mt ∧ mt ≤ 6) (hs : 1 ≤ sc ∧ sc ≤ 6) (hN : NearAll ns) (ho : ns.any NodeFind.oddB = false) {i j : Nat} (hi : i < ns.length) (hj : j < ns.length) :
    legP (lk nm kd mt sc cp fl ns mx) i j = legP (lk nm kd mt (sc - 1) cp fl (ns.map div10) mx) i j := by
  have gi := hN i hi
  have gj := hN j hj
  have ei := even_f (odd_at ho hi) gi.1 gi.2
  have ej := even_f (odd_at ho hj) gj.1 gj.2
  have ri := rd_div hi
  have rj := rd_div hj
  unfold rdN at gi gj ei ej ri rj
  unfold legP
  by_cases h0 : mt = 0
  · have e1 : legOf (lk nm kd mt sc cp fl ns mx) i j = if i * ns.length + j < mx.length then some (rd mx ((i * ns.length + j : Nat) : Int), 0) else none := if_pos h0
    have e2 : legOf (lk nm kd mt (sc - 1) cp fl (ns.map div10) mx) i j = if i * (ns.map div10).length + j < mx.length then some (rd mx ((i * (ns.map div10).length + j : Nat) : Int), 0) else none := if_pos h0
    rw [e1, e2, List.length_map]
  · have e1 : legOf (lk nm kd mt sc cp fl ns mx) i j = metric_Dist.f mt sc (wrap64 ((rd_T32 ns (j : Int)).f0 - (rd_T32 ns (i : Int)).f0)) (wrap64 ((rd_T32 ns (j : Int)).f1 - (rd_T32 ns (i : Int)).f1)) := if_neg h0
    have e2 : legOf (lk nm kd mt (sc - 1) cp fl (ns.map div10) mx) i j = metric_Dist.f mt (sc - 1) (wrap64 ((rd_T32 (ns.map div10) (j : Int)).f0 - (rd_T32 (ns.map div10) (i : Int)).f0)) (wrap64 ((rd_T32 (ns.map div10) (j : Int)).f1 - (rd_T32 (ns.map div10) (i : Int)).f1)) := if_neg h0
    rw [e1, e2, ri, rj]
    generalize rd_T32 ns (i : Int) = a at *
    generalize rd_T32 ns (j : Int) = b at *
    rw [show wrap64 (b.f0 - a.f0) = 10 * ((div10 b).f0 - (div10 a).f0) by unfold wrap64; omega, show wrap64 (b.f1 - a.f1) = 10 * ((div10 b).f1 - (div10 a).f1) by unfold wrap64; omega,
      show wrap64 ((div10 b).f0 - (div10 a).f0) = (div10 b).f0 - (div10 a).f0 by unfold wrap64; omega, show wrap64 ((div10 b).f1 - (div10 a).f1) = (div10 b).f1 - (div10 a).f1 by unfold wrap64; omega]
    rw [WayTen.dist_ok (by omega) (by unfold far; omega) (by unfold far; omega), WayTen.dist_ok (by omega) (by unfold far; omega) (by unfold far; omega), show sc.toNat = (sc - 1).toNat + 1 by omega, WayTen.way_tens]
theorem near_div {ns : List FeasWalk.Node} (hN : NearAll ns) : NearAll (ns.map div10) := by
  intro i hi
  rw [List.length_map] at hi
  rw [rd_div hi]
  have := hN i hi
  have e0 : (div10 (rdN ns (i : Int))).f0 = wrap64 (Int.tdiv (rdN ns (i : Int)).f0 10) := rfl
  have e1 : (div10 (rdN ns (i : Int))).f1 = wrap64 (Int.tdiv (rdN ns (i : Int)).f1 10) := rfl
  have t0 := Int.mul_tdiv_add_tmod (rdN ns (i : Int)).f0 10
  have t1 := Int.mul_tdiv_add_tmod (rdN ns (i : Int)).f1 10
  have b0 := Int.tmod_lt_of_pos (rdN ns (i : Int)).f0 (b := 10) (by omega)
  have b1 := Int.tmod_lt_of_pos (rdN ns (i : Int)).f1 (b := 10) (by omega)
  have c0 := Int.lt_tmod_of_pos (rdN ns (i : Int)).f0 (b := 10) (by omega)
  have c1 := Int.lt_tmod_of_pos (rdN ns (i : Int)).f1 (b := 10) (by omega)
  rw [e0, e1]
  generalize Int.tdiv (rdN ns (i : Int)).f0 10 = a at *
  generalize Int.tdiv (rdN ns (i : Int)).f1 10 = b at *
  unfold wrap64
  omega
theorem twins_norm {nm : ByteArray} {kd mt cp fl : Int} {mx : List Int} (hm : 0 ≤ mt ∧ mt ≤ 6) : ∀ (k : Nat) (sc : Int) (ns : List FeasWalk.Node), 0 < ns.length → NearAll ns →
    Twins (lk nm kd mt sc cp fl ns mx) (lk nm kd mt (normGo k sc ns).1 cp fl (normGo k sc ns).2 mx) ∧ (normGo k sc ns).2.length = ns.length
  | 0, sc, ns, h0, _ => ⟨Twins.refl h0, rfl⟩
  | k + 1, sc, ns, h0, hN => by
    by_cases hc : okScale sc = true ∧ ns.any NodeFind.oddB = false
    · have e : normGo (k + 1) sc ns = normGo k (sc - 1) (ns.map div10) := if_pos hc
      rw [e]
      have hs := of_decide_eq_true hc.1
      obtain ⟨h1, h2⟩ := twins_norm (nm := nm) (kd := kd) (cp := cp) (fl := fl) (mx := mx) hm k (sc - 1) (ns.map div10) (by rw [List.length_map]; exact h0) (near_div hN)
      refine ⟨Twins.trans (y := lk nm kd mt (sc - 1) cp fl (ns.map div10) mx) ⟨⟨rfl, rfl, (List.length_map _).symm, h0, fun i j hi hj => leg_ten hm hs hN hc.2 hi hj, fun i hi => ?_⟩, rfl, rfl, fun i hi => ?_⟩ h1, by rw [h2, List.length_map]⟩
      · have e1 := rd_div (ns := ns) hi
        show (rdN ns (i : Int)).f2 = (rdN (ns.map div10) (i : Int)).f2 ∧ (rdN ns (i : Int)).f3 = (rdN (ns.map div10) (i : Int)).f3 ∧ (rdN ns (i : Int)).f5 = (rdN (ns.map div10) (i : Int)).f5 ∧ (rdN ns (i : Int)).f6 = (rdN (ns.map div10) (i : Int)).f6
        rw [e1]; exact ⟨rfl, rfl, rfl, rfl⟩
      · have e1 := rd_div (ns := ns) hi
        show (rdN ns (i : Int)).f4 = (rdN (ns.map div10) (i : Int)).f4
        rw [e1]; rfl
    · rw [normGo_end hc]; exact ⟨Twins.refl h0, rfl⟩
theorem FeasScaled (nm : ByteArray) (kd mt sc cp fl : Int) (ns : List FeasWalk.Node) (mx : List Int) (rs : List (List Int)) (_ : Open.InstGood nm kd mt sc cp fl ns mx) (_ : Open.PlanGood rs) : ∃ k, entrepotlaw11_FeasScaled.f k nm kd mt sc cp fl ns mx rs = some true := by
  refine Ev.rounds ?_
  have yes : Ev (fun k => entrepotlaw11_FeasScaled.j0 k true nm kd mt sc cp fl ns mx rs) true := Ev.step (fun _ => entrepotlaw11_FeasScaled.j0.eq_2 ..) (Ev.pos rfl (Ev.bs entrepotlaw11_shown.only (Ev.now _)))
  unfold entrepotlaw11_FeasScaled.f
  refine Ev.bind (Well11.well_ev nm kd mt sc cp fl ns mx) ?_
  cases hw : wellF nm kd mt sc cp fl ns mx with
  | false => exact Ev.neg (by simp) yes
  | true =>
    have g := good_of hw
    refine Ev.pos rfl ?_
    obtain ⟨b, hb, hb2⟩ := Well11.long_tells rs
    refine Ev.bind hb ?_
    cases b with
    | true => exact Ev.pos rfl yes
    | false =>
      obtain ⟨l1, l2, l3⟩ := hb2 rfl
      have hfw := few_long (by omega) l2
      have hn := g.cnt
      have hmx : mx.length ≤ 1000 := by unfold wellF at hw; simp only [Bool.and_eq_true, decide_eq_true_eq] at hw; exact hw.2.1
      obtain ⟨ht, hlen⟩ := twins_norm (nm := nm) (kd := kd) (cp := cp) (fl := fl) (mx := mx) g.met 6 sc ns hn.1 (fun i hi => ⟨(g.coord i hi).1, (g.coord i hi).2.1⟩)
      have hwl := wrongs_len (lk nm kd mt sc cp fl ns mx) (few_of hfw) hn.2
      refine Ev.neg (by simp) (Ev.bs entrepotlaw11_shown.only (Ev.step (fun _ => entrepotlaw11_FeasScaled.j0.eq_2 ..) (Ev.neg (by simp) (Ev.bs (check_some (ok_good g) hfw) (Ev.bind (theirs_ev hwl) (Ev.bs (x := (nm, kd, mt, (normGo 6 sc ns).1, cp, fl, (normGo 6 sc ns).2, mx)) ?_ (Ev.bs (x := wrongsOf (lk nm kd mt sc cp fl ns mx) rs) ?_ (Ev.bind (theirs_ev hwl) (Ev.bind (same_ev (by rw [List.length_map]; exact hwl)) (Ev.now _))))))))))
      · unfold canon_Norm.f; rw [if_pos ⟨by omega, by omega⟩]
      · show feas_Check.f nm kd mt (normGo 6 sc ns).1 cp fl (normGo 6 sc ns).2 mx rs = _
        rw [check_some (by rw [hlen]; exact ok_good g) hfw, ← twins_wrongs ht]
end Go.Proofs.Ytlncbckpcmojpaa.Pure
