/- Whatever the instance and the route, if they are no longer than the bound and the instance is well-formed: loads, times, and whether anybody is late, are the reference's. -/
import Derived.Test.YtlncbckpcmojpaaMkj
import Derived.Test.YtlncbckpcmojpaaMka
import Derived.Test.YtlncbckpcmojpaaPxEntrepotlaw11FeasTimes
set_option linter.unusedVariables false
namespace Go.Proofs.Ytlncbckpcmojpaa.Pure
open Go.RowKit Go.Proofs.Ytlncbckpcmojpaa.P Go.Proofs.YtlncbckpcmojpaaW.PrintWords Go.Proofs.YtlncbckpcmojpaaW.PrintLast
open FeasWalk FeasP StopsWalk Ref11
open Well11 (w64s wellF good_of rdN rdN_at conv rdN_conv Good)
theorem ints_from {l : List Int} (hl : l.length ≤ 1000000) (d : Nat) : ∀ i : Nat, i + d = l.length → Ev (fun k => entrepotref07_Ints.l0 k l l (i : Int)) true := by
  induction d with
  | zero => intro i hi; exact Ev.step (fun _ => entrepotref07_Ints.l0.eq_2 ..) (Ev.neg (by omega) (Ev.now _))
  | succ d ih =>
    intro i hi
    refine Ev.step (fun _ => entrepotref07_Ints.l0.eq_2 ..) (Ev.pos (by omega) (Ev.pos (by omega) (Ev.pos (by omega) (Ev.pos rfl ?_))))
    rw [w64s (by omega)]
    exact ih (i + 1) (by omega)
theorem ints_ev {l : List Int} (hl : l.length ≤ 1000000) : Ev (fun k => entrepotref07_Ints.f k l l) true := by
  unfold entrepotref07_Ints.f
  exact Ev.pos rfl (ints_from hl l.length 0 (by omega))
theorem nodes_odd (n : Nat) (l : List Int) : nodesB n l = !(l.any (oddB n)) := by
  unfold nodesB
  rw [List.not_any_eq_all_not]
  congr 1
  funext s
  unfold stopB oddB
  by_cases h1 : s < 0
  · rw [decide_eq_true h1, decide_eq_false (show ¬ 0 ≤ s by omega)]; rfl
  · rw [decide_eq_false h1, decide_eq_true (show 0 ≤ s by omega)]
    by_cases h2 : s < (n : Int)
    · rw [decide_eq_true h2, decide_eq_false (show ¬ s ≥ (n : Int) by omega)]; rfl
    · rw [decide_eq_false h2, decide_eq_true (show s ≥ (n : Int) by omega)]; rfl
theorem rd_conv {ns : List FeasWalk.Node} {s : Int} (h : 0 ≤ s ∧ s < (ns.length : Int)) : Ref08.rdN (ns.map conv) s = conv (rdN ns s) := by
  obtain ⟨i, rfl⟩ : ∃ i : Nat, s = (i : Int) := ⟨s.toNat, by omega⟩
  exact rdN_conv (by omega)
theorem sums_eq {x : Look} : ∀ (l : List Int) (_ : ∀ s ∈ l, 0 ≤ s ∧ s < (x.ns.length : Int)) (s : Int),
    ((List.range l.length).map fun j : Nat => (l.take (j + 1)).foldl (fun s a => wrap64 (s + (Ref08.rdN (x.ns.map conv) a).f2)) s) = sumsFrom x s l
  | [], _, _ => rfl
  | a :: l, h, s => by
    have e : (Ref08.rdN (x.ns.map conv) a).f2 = (rdN x.ns a).f2 := by rw [rd_conv (h a (List.mem_cons_self ..))]; rfl
    rw [List.length_cons, List.range_succ_eq_map, List.map_cons, List.map_map]
    show wrap64 (s + _) :: _ = wrap64 (s + (rdN x.ns a).f2) :: sumsFrom x (wrap64 (s + (rdN x.ns a).f2)) l
    rw [← sums_eq l (fun b hb => h b (List.mem_cons_of_mem _ hb)), ← e]
    rfl
theorem loads_eq (x : Look) (l : List Int) : loadsR (x.ns.map conv) l = loadsOf x l := by
  unfold loadsR loadsOf oddR
  rw [List.length_map, nodes_odd]
  cases h : l.any (oddB x.ns.length) with
  | true => rfl
  | false =>
    rw [if_pos (show (!false) = true from rfl), if_neg Bool.false_ne_true]
    exact sums_eq l (nodes_in (n := x.ns.length) (by rw [nodes_odd, h]; rfl)) 0
def toIn (x : Look) : Ref08.In := ik x.nm x.kd x.mt x.sc x.cp x.fl (x.ns.map conv) x.mx
theorem leg_eq (x : Look) {i j : Nat} (hi : i < x.ns.length) (hj : j < x.ns.length) : legV (toIn x) i j = legP x i j := by
  have e : legR (toIn x) i j = legOf x i j := by
    unfold legR legOf
    show (if x.mt = 0 then (if i * (x.ns.map conv).length + j < x.mx.length then some (rd x.mx ((i * (x.ns.map conv).length + j : Nat) : Int), 0) else none) else metric_Dist.f x.mt x.sc (wrap64 ((Ref08.rdN (x.ns.map conv) (j : Int)).f0 - (Ref08.rdN (x.ns.map conv) (i : Int)).f0)) (wrap64 ((Ref08.rdN (x.ns.map conv) (j : Int)).f1 - (Ref08.rdN (x.ns.map conv) (i : Int)).f1))) = _
    rw [rdN_conv hi, rdN_conv hj, List.length_map]; rfl
  unfold legV legP
  rw [e]
structure Like11 (n : Nat) (r : RunR) (q : Run) : Prop where
  at_ : r.at_ = q.at_
  now : r.now = q.now
  out : r.out = q.out
  lt : q.at_ < n
  late : r.late < 0 ↔ q.late < 0
theorem mx_gt {a b c : Int} (h : b ≤ c) : mx a b > c ↔ a > c := by unfold mx; split <;> omega
theorem unit_le (mt : Int) : unitOf mt = 1 ∨ unitOf mt = 10 := by unfold unitOf; split <;> simp
theorem win_le (mt : Int) {a b : Int} (h : 0 ≤ a ∧ a ≤ b ∧ b ≤ 100000000) : wrap64 (unitOf mt * a) ≤ wrap64 (unitOf mt * b) := by
  have w : ∀ t : Int, 0 ≤ t → t ≤ 1000000000 → wrap64 t = t := fun t h1 h2 => by unfold wrap64; omega
  rcases unit_le mt with e | e <;> rw [e, w _ (by omega) (by omega), w _ (by omega) (by omega)] <;> omega
theorem step_like {x : Look} (g : ∀ i : Nat, i < x.ns.length → 0 ≤ (rdN x.ns (i : Int)).f3 ∧ (rdN x.ns (i : Int)).f3 ≤ (rdN x.ns (i : Int)).f4 ∧ (rdN x.ns (i : Int)).f4 ≤ 100000000) {r : RunR} {q : Run} (h : Like11 x.ns.length r q) {s : Int} (hs : 0 ≤ s ∧ s < (x.ns.length : Int)) :
    Like11 x.ns.length (stepR (legV (toIn x)) (x.ns.map conv) (unitOf x.mt) r s) (FeasWalk.serve x (unitOf x.mt) (goTo x (unitOf x.mt) q s.toNat) s.toNat) := by
  obtain ⟨i, rfl⟩ : ∃ i : Nat, s = (i : Int) := ⟨s.toNat, by omega⟩
  have hi : i < x.ns.length := by omega
  obtain ⟨ra, rn, rl, ri, ro⟩ := r
  obtain ⟨qa, qn, ql, qo⟩ := q
  obtain ⟨h1, h2, h3, h4, h5⟩ := h
  simp only at h1 h2 h3 h4 h5
  subst h1 h2 h3
  unfold stepR FeasWalk.serve goTo lateT
  rw [rdN_conv hi, Int.toNat_natCast]
  simp only
  rw [leg_eq x h4 hi]
  have hw := win_le x.mt (g i hi)
  refine ⟨rfl, rfl, rfl, hi, ?_⟩
  show (if rl < 0 ∧ mx (wrap64 (rn + legP x ra i)) (wrap64 (unitOf x.mt * (rdN x.ns (i : Int)).f3)) > wrap64 (unitOf x.mt * (rdN x.ns (i : Int)).f4) then (ri : Int) else rl) < 0 ↔ (if ql < 0 ∧ wrap64 (rn + legP x ra i) > wrap64 (unitOf x.mt * (rdN x.ns (i : Int)).f4) then (i : Int) else ql) < 0
  have hm := mx_gt (a := wrap64 (rn + legP x ra i)) hw
  split <;> split <;> omega
theorem along_like {x : Look} (g : ∀ i : Nat, i < x.ns.length → 0 ≤ (rdN x.ns (i : Int)).f3 ∧ (rdN x.ns (i : Int)).f3 ≤ (rdN x.ns (i : Int)).f4 ∧ (rdN x.ns (i : Int)).f4 ≤ 100000000) : ∀ (l : List Int) (_ : ∀ s ∈ l, 0 ≤ s ∧ s < (x.ns.length : Int)) (r : RunR) (q : Run) (_ : Like11 x.ns.length r q),
    Like11 x.ns.length (l.foldl (stepR (legV (toIn x)) (x.ns.map conv) (unitOf x.mt)) r) (l.foldl (fun q s => FeasWalk.serve x (unitOf x.mt) (goTo x (unitOf x.mt) q s.toNat) s.toNat) q)
  | [], _, _, _, h => h
  | a :: l, hl, r, q, h => along_like g l (fun s hs => hl s (List.mem_cons_of_mem _ hs)) _ _ (step_like g h (hl a (List.mem_cons_self ..)))
theorem times_eq {x : Look} (h0 : 0 < x.ns.length) (g : ∀ i : Nat, i < x.ns.length → 0 ≤ (rdN x.ns (i : Int)).f3 ∧ (rdN x.ns (i : Int)).f3 ≤ (rdN x.ns (i : Int)).f4 ∧ (rdN x.ns (i : Int)).f4 ≤ 100000000) (l : List Int) :
    ((timesR (toIn x) l).1, decide ((timesR (toIn x) l).2 < 0)) = ftimesOf x l := by
  unfold timesR timesG ftimesOf timesOf oddR
  show _ = if l.any (oddB x.ns.length) = true then _ else _
  by_cases hl : l = []
  · subst hl; rfl
  rw [if_neg hl, if_neg hl, show (toIn x).ns.length = x.ns.length from List.length_map _, nodes_odd]
  cases h : l.any (oddB x.ns.length) with
  | true => rfl
  | false =>
    rw [if_pos (show (!false) = true from rfl), if_neg Bool.false_ne_true]
    have hin := nodes_in (n := x.ns.length) (l := l) (by rw [nodes_odd, h]; rfl)
    have H := along_like g l hin (startR (x.ns.map conv) (unitOf x.mt)) (FeasWalk.start x (unitOf x.mt)) ⟨rfl, by unfold startR FeasWalk.start; simp only; rw [rd_conv (s := 0) (by omega)]; rfl, rfl, h0, by unfold startR FeasWalk.start; simp⟩
    show ((alongR (legV (toIn x)) (x.ns.map conv) (unitOf x.mt) l).out, decide (endR (legV (toIn x)) (x.ns.map conv) (unitOf x.mt) l.length (alongR (legV (toIn x)) (x.ns.map conv) (unitOf x.mt) l) < 0)) = _
    unfold alongR along
    generalize l.foldl (stepR (legV (toIn x)) (x.ns.map conv) (unitOf x.mt)) (startR (x.ns.map conv) (unitOf x.mt)) = r at *
    generalize l.foldl (fun q s => FeasWalk.serve x (unitOf x.mt) (goTo x (unitOf x.mt) q s.toNat) s.toNat) (FeasWalk.start x (unitOf x.mt)) = q at *
    obtain ⟨ra, rn, rl, ri, ro⟩ := r
    obtain ⟨qa, qn, ql, qo⟩ := q
    obtain ⟨h1, h2, h3, h4, h5⟩ := H
    simp only at h1 h2 h3 h4 h5 ⊢
    subst h1 h2 h3
    unfold goTo endR lateT
    rw [leg_eq x h4 h0, rd_conv (s := 0) (by omega)]
    refine Prod.ext rfl ?_
    show decide ((if rl < 0 ∧ wrap64 (rn + legP x ra 0) > wrap64 (unitOf x.mt * (rdN x.ns 0).f4) then (l.length : Int) else rl) < 0) = decide ((if ql < 0 ∧ wrap64 (rn + legP x ra 0) > wrap64 (unitOf x.mt * (rdN x.ns 0).f4) then ((0 : Nat) : Int) else ql) < 0)
    rw [decide_eq_decide]
    by_cases hc : wrap64 (rn + legP x ra 0) > wrap64 (unitOf x.mt * (rdN x.ns 0).f4)
    · simp only [hc, and_true]
      split <;> split <;> omega
    · simp only [hc, and_false, if_false]
      exact h5
theorem rtimes_ev {nm : ByteArray} {kd mt sc cp fl : Int} {ns : List FeasWalk.Node} {mx l : List Int} (h : okF mt ns.length mx.length = true) (hl : l.length ≤ 300) (h0 : 0 < ns.length) (g : ∀ i : Nat, i < ns.length → 0 ≤ (rdN ns (i : Int)).f3 ∧ (rdN ns (i : Int)).f3 ≤ (rdN ns (i : Int)).f4 ∧ (rdN ns (i : Int)).f4 ≤ 100000000) :
    Ev (fun k => entrepotref11_Times.f k nm kd mt sc cp fl (ns.map conv) mx l) (ftimesOf (lk nm kd mt sc cp fl ns mx) l) := by
  refine Ev.at (K := 0) fun k _ => ?_
  unfold entrepotref11_Times.f entrepotref11_times.f
  rw [List.length_map, if_pos ⟨h, hl⟩, ← times_eq (x := lk nm kd mt sc cp fl ns mx) h0 g l]
  rfl
theorem rloads_ev {nm : ByteArray} {kd mt sc cp fl : Int} {ns : List FeasWalk.Node} {mx l : List Int} (hl : l.length ≤ 300) :
    Ev (fun k => entrepotref11_Loads.f k nm kd mt sc cp fl (ns.map conv) mx l) (loadsOf (lk nm kd mt sc cp fl ns mx) l) := by
  refine Ev.at (K := 0) fun k _ => ?_
  unfold entrepotref11_Loads.f
  rw [if_pos hl, ← loads_eq]; rfl
theorem along_len (x : Look) (u : Int) : ∀ (l : List Int) (q : Run), (l.foldl (fun q s => FeasWalk.serve x u (goTo x u q s.toNat) s.toNat) q).out.length = q.out.length + l.length
  | [], _ => rfl
  | a :: l, q => by
    rw [List.foldl_cons, along_len x u l, List.length_cons]
    show (q.out ++ [_]).length + l.length = _
    rw [List.length_append, List.length_singleton]; omega
theorem ftimes_len (x : Look) (l : List Int) : (ftimesOf x l).1.length ≤ l.length := by
  unfold ftimesOf
  split
  · simp
  · unfold timesOf
    split
    · simp
    · show (along x (unitOf x.mt) l).out.length ≤ _
      have := along_len x (unitOf x.mt) l (FeasWalk.start x (unitOf x.mt))
      unfold along
      rw [this]
      show 0 + l.length ≤ _
      omega
theorem FeasTimes (nm : ByteArray) (kd mt sc cp fl : Int) (ns : List FeasWalk.Node) (mx l : List Int) (_ : Open.InstGood nm kd mt sc cp fl ns mx) (_ : Open.WfRow (Open.WfInt .i64) l) : ∃ k, entrepotlaw11_FeasTimes.f k nm kd mt sc cp fl ns mx l = some true := by
  refine Ev.rounds ?_
  have yes : Ev (fun k => entrepotlaw11_FeasTimes.j0 k l true nm kd mt sc cp fl ns mx) true := Ev.step (fun _ => entrepotlaw11_FeasTimes.j0.eq_2 ..) (Ev.pos rfl (Ev.bs entrepotlaw11_shown.only (Ev.now _)))
  unfold entrepotlaw11_FeasTimes.f
  refine Ev.bind (Well11.well_ev nm kd mt sc cp fl ns mx) ?_
  cases hw : wellF nm kd mt sc cp fl ns mx with
  | false => exact Ev.neg (by simp) yes
  | true =>
    have g := good_of hw
    refine Ev.pos rfl ?_
    by_cases hl : (l.length : Int) > 300
    · exact Ev.pos hl yes
    have hl3 : l.length ≤ 300 := by omega
    refine Ev.neg hl (Ev.bs entrepotlaw11_shown.only (Ev.step (fun _ => entrepotlaw11_FeasTimes.j0.eq_2 ..) (Ev.neg (by simp) ?_)))
    have hok := ok_good g
    have hn := g.cnt
    have hwin := fun (i : Nat) (hi : i < ns.length) => (g.window i hi).1
    have hLl : (loadsOf (lk nm kd mt sc cp fl ns mx) l).length ≤ 1000000 := by
      unfold loadsOf; split
      · simp
      · rw [sumsFrom_length]; omega
    have hTl : (ftimesOf (lk nm kd mt sc cp fl ns mx) l).1.length ≤ 1000000 := Nat.le_trans (ftimes_len _ l) (by omega)
    refine Ev.bs (x := ftimesOf (lk nm kd mt sc cp fl ns mx) l) (by unfold feas_Times.f; rw [if_pos ⟨hok, hl3⟩]) (Ev.bind (Well11.its_ev nm kd mt sc cp fl mx hn.2) (Ev.bind (rtimes_ev hok hl3 (by omega) hwin) (Ev.bs (x := loadsOf (lk nm kd mt sc cp fl ns mx) l) (by unfold feas_Loads.f; rw [if_pos ⟨hok, hl3⟩])
      (Ev.bind (Well11.its_ev nm kd mt sc cp fl mx hn.2) (Ev.bind (rloads_ev hl3) (Ev.bind (ints_ev hLl) (Ev.pos rfl (Ev.bind (ints_ev hTl) (Ev.pos rfl (Ev.this (by simp)))))))))))
end Go.Proofs.Ytlncbckpcmojpaa.Pure
