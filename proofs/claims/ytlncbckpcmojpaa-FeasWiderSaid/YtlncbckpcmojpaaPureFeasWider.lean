/- Whatever the instance and the plan, if they are no longer than the bound and the instance is well-formed: a feasible plan stays feasible with a greater capacity, a greater fleet, and later ends of all windows. -/
import Derived.Test.YtlncbckpcmojpaaMkj
import Derived.Test.YtlncbckpcmojpaaMka
import Derived.Test.YtlncbckpcmojpaaPxEntrepotlaw11FeasWider
set_option linter.unusedVariables false
namespace Go.Proofs.Ytlncbckpcmojpaa.Pure
open Go.RowKit Go.Proofs.Ytlncbckpcmojpaa.P Go.Proofs.YtlncbckpcmojpaaW.PrintWords Go.Proofs.YtlncbckpcmojpaaW.PrintLast
open FeasWalk FeasP StopsWalk
open Well11 (w64s wellF good_of rdN rdN_at)
/-- A node whose window ends later. -/
def wid (kd m : Int) (d : FeasWalk.Node) : FeasWalk.Node := if kd = 3 ∨ kd = 4 then ⟨d.f0, d.f1, d.f2, d.f3, mn (wrap64 (d.f4 + wrap64 m)) 100000000, d.f5, d.f6⟩ else d
theorem wid_f (kd m : Int) (d : FeasWalk.Node) : (wid kd m d).f0 = d.f0 ∧ (wid kd m d).f1 = d.f1 ∧ (wid kd m d).f2 = d.f2 ∧ (wid kd m d).f3 = d.f3 ∧ (wid kd m d).f5 = d.f5 ∧ (wid kd m d).f6 = d.f6 := by
  unfold wid; split <;> exact ⟨rfl, rfl, rfl, rfl, rfl, rfl⟩
theorem wid_due (kd m : Int) (d : FeasWalk.Node) (hm : 0 ≤ m ∧ m ≤ 65535) (hd : 0 ≤ d.f4 ∧ d.f4 ≤ 100000000) : d.f4 ≤ (wid kd m d).f4 ∧ (wid kd m d).f4 ≤ 100000000 := by
  unfold wid
  split
  · show d.f4 ≤ mn _ _ ∧ mn _ _ ≤ _
    have e1 : wrap64 m = m := by unfold wrap64; omega
    have e2 : wrap64 (d.f4 + m) = d.f4 + m := by unfold wrap64; omega
    rw [e1, e2]
    unfold mn; split <;> omega
  · omega
theorem rd_map {g : FeasWalk.Node → FeasWalk.Node} {ns : List FeasWalk.Node} {i : Nat} (h : i < ns.length) : rdN (ns.map g) (i : Int) = g (rdN ns (i : Int)) := by
  rw [rdN_at (by rw [List.length_map]; exact h), rdN_at h, List.getElem_map]
theorem wrongs_wider {x y : Look} (h : Like x y) (hc : x.cp ≤ y.cp) (hf : y.fl > 0 → x.fl > 0 ∧ x.fl ≤ y.fl)
    (hd : ∀ (i : Nat) (now : Int), i < x.ns.length → now > wrap64 (unitOf x.mt * (rdN y.ns (i : Int)).f4) → now > wrap64 (unitOf x.mt * (rdN x.ns (i : Int)).f4)) {rs : List (List Int)} (hw : wrongsOf x rs = []) : wrongsOf y rs = [] := by
  obtain ⟨h1, h2, h3, h4⟩ := wrongs_nil.1 hw
  refine wrongs_nil.2 ⟨by rw [← bad_like h]; exact h1, by rw [← h.n, ← cov_like h]; exact h2, fleetB_nil.2 fun e => fleetB_nil.1 h3 ?_, routesB_nil.2 fun i hi => route_nil.2 ?_⟩
  · rw [← h.kd] at e
    rcases e with e | ⟨e1, e2, e3⟩
    · exact .inl e
    · exact .inr ⟨e1, by have := hf e2; omega⟩
  · have hin := rows_in h1 hi
    obtain ⟨c1, c2, c3⟩ := route_nil.1 (routesB_nil.1 h4 i hi)
    rw [← h.kd, ← loads_like h hin, ← pair_like h _ hin]
    refine ⟨fun e a ha => ?_, fun e => ?_, c3⟩
    · have := c1 e a ha
      unfold over at this ⊢
      simp only [Bool.or_eq_false_iff, decide_eq_false_iff_not] at this ⊢
      omega
    · refine (times_twin h (Q := fun a b => a < 0 → b < 0) id (fun a b now j hj hab => ?_) hin).2 (c2 e)
      unfold lateT
      split
      · intro hn; omega
      · rename_i h5
        split
        · rename_i h6
          exact fun ha => absurd ⟨ha, hd j now hj h6.2⟩ h5
        · exact hab
theorem like_wid {nm : ByteArray} {kd mt sc cp fl cp' fl' m : Int} {ns : List FeasWalk.Node} {mx : List Int} (h0 : 0 < ns.length) : Like (lk nm kd mt sc cp fl ns mx) (lk nm kd mt sc cp' fl' (ns.map (wid kd m)) mx) where
  kd := rfl
  u := rfl
  n := (List.length_map _).symm
  some := h0
  leg := fun i j hi hj => by
    have e1 := rd_map (g := wid kd m) (ns := ns) hi
    have e2 := rd_map (g := wid kd m) (ns := ns) hj
    unfold rdN at e1 e2
    unfold legP
    by_cases hz : mt = 0
    · have f1 : legOf (lk nm kd mt sc cp fl ns mx) i j = if i * ns.length + j < mx.length then some (rd mx ((i * ns.length + j : Nat) : Int), 0) else none := if_pos hz
      have f2 : legOf (lk nm kd mt sc cp' fl' (ns.map (wid kd m)) mx) i j = if i * (ns.map (wid kd m)).length + j < mx.length then some (rd mx ((i * (ns.map (wid kd m)).length + j : Nat) : Int), 0) else none := if_pos hz
      rw [f1, f2, List.length_map]
    · have f1 : legOf (lk nm kd mt sc cp fl ns mx) i j = metric_Dist.f mt sc (wrap64 ((rd_T32 ns (j : Int)).f0 - (rd_T32 ns (i : Int)).f0)) (wrap64 ((rd_T32 ns (j : Int)).f1 - (rd_T32 ns (i : Int)).f1)) := if_neg hz
      have f2 : legOf (lk nm kd mt sc cp' fl' (ns.map (wid kd m)) mx) i j = metric_Dist.f mt sc (wrap64 ((rd_T32 (ns.map (wid kd m)) (j : Int)).f0 - (rd_T32 (ns.map (wid kd m)) (i : Int)).f0)) (wrap64 ((rd_T32 (ns.map (wid kd m)) (j : Int)).f1 - (rd_T32 (ns.map (wid kd m)) (i : Int)).f1)) := if_neg hz
      rw [f1, f2, e1, e2, (wid_f kd m _).1, (wid_f kd m _).1, (wid_f kd m _).2.1, (wid_f kd m _).2.1]
  nod := fun i hi => by
    have e1 := rd_map (g := wid kd m) (ns := ns) hi
    show (rdN ns (i : Int)).f2 = (rdN (ns.map (wid kd m)) (i : Int)).f2 ∧ (rdN ns (i : Int)).f3 = (rdN (ns.map (wid kd m)) (i : Int)).f3 ∧ (rdN ns (i : Int)).f5 = (rdN (ns.map (wid kd m)) (i : Int)).f5 ∧ (rdN ns (i : Int)).f6 = (rdN (ns.map (wid kd m)) (i : Int)).f6
    rw [e1, (wid_f kd m _).2.2.1, (wid_f kd m _).2.2.2.1, (wid_f kd m _).2.2.2.2.1, (wid_f kd m _).2.2.2.2.2]
    exact ⟨rfl, rfl, rfl, rfl⟩
theorem wide_all {nm : ByteArray} {kd mt sc cp fl : Int} {ns : List FeasWalk.Node} {mx : List Int} (g : Well11.Good kd mt sc cp fl ns mx) {m : Int} (hm : 0 ≤ m ∧ m ≤ 65535) {rs : List (List Int)} {cp' fl' : Int} (hc : cp ≤ cp') (hf : fl' > 0 → fl > 0 ∧ fl ≤ fl')
    (h : (wrongsOf (lk nm kd mt sc cp fl ns mx) rs).isEmpty = true) : (wrongsOf (lk nm kd mt sc cp' fl' (ns.map (wid kd m)) mx) rs).isEmpty = true := by
  rw [List.isEmpty_iff] at h ⊢
  refine wrongs_wider (like_wid g.cnt.1) hc hf (fun i now hi hn => ?_) h
  have e1 := rd_map (g := wid kd m) (ns := ns) hi
  have hn : now > wrap64 (unitOf mt * (rdN (ns.map (wid kd m)) (i : Int)).f4) := hn
  show now > wrap64 (unitOf mt * (rdN ns (i : Int)).f4)
  rw [e1] at hn
  have hw := (g.window i hi).1
  have hd := wid_due kd m (rdN ns (i : Int)) hm (by omega)
  generalize (wid kd m (rdN ns (i : Int))).f4 = q at *
  generalize (rdN ns (i : Int)).f4 = p at *
  have w1 : wrap64 (unitOf mt * q) = unitOf mt * q := by unfold unitOf; split <;> (unfold wrap64; omega)
  have w2 : wrap64 (unitOf mt * p) = unitOf mt * p := by unfold unitOf; split <;> (unfold wrap64; omega)
  rw [w1] at hn
  rw [w2]
  unfold unitOf at hn ⊢
  split at hn
  · rename_i h6; rw [if_pos h6]; omega
  · rename_i h6; rw [if_neg h6]; omega
theorem set_mid {g : FeasWalk.Node → FeasWalk.Node} {ns : List FeasWalk.Node} {i : Nat} (h : i < ns.length) : ((ns.take i).map g ++ ns.drop i).set i (g ns[i]) = (ns.take (i + 1)).map g ++ ns.drop (i + 1) := by
  rw [List.take_succ_eq_append_getElem h, List.map_append, List.append_assoc, List.drop_eq_getElem_cons h, List.set_append_right _ _ (by rw [List.length_map, List.length_take]; omega)]
  rw [show i - ((ns.take i).map g).length = 0 by rw [List.length_map, List.length_take]; omega]
  rfl
theorem rd_mid {g : FeasWalk.Node → FeasWalk.Node} {ns : List FeasWalk.Node} {i : Nat} (h : i < ns.length) : rd_T32 ((ns.take i).map g ++ ns.drop i) (i : Int) = ns[i] := by
  have := rdN_at (l := (ns.take i).map g ++ ns.drop i) (i := i) (by rw [List.length_append, List.length_map, List.length_take, List.length_drop]; omega)
  unfold rdN at this
  rw [this, List.getElem_append_right (by rw [List.length_map, List.length_take]; omega)]
  rw [List.getElem_drop]
  congr 1
  rw [List.length_map, List.length_take]; omega
theorem set_same {l : List FeasWalk.Node} {i : Nat} {a : FeasWalk.Node} (h : i < l.length) (e : rd_T32 l (i : Int) = a) : l.set i a = l := by
  have := rdN_at h
  unfold rdN at this
  rw [e] at this
  rw [this]; exact List.set_getElem_self h
theorem wide_from {nm : ByteArray} {kd mt sc cp fl : Int} {ns : List FeasWalk.Node} {mx : List Int} (g : Well11.Good kd mt sc cp fl ns mx) {m : Int} (hm : 0 ≤ m ∧ m ≤ 65535) {rs : List (List Int)} (hfw : fewF rs = true) (d : Nat) :
    ∀ i : Nat, i + d = ns.length → Ev (fun k => entrepotlaw11_FeasWider.l0 k m (i : Int) nm kd mt sc cp fl ns mx rs nm kd mt sc cp fl ((ns.take i).map (wid kd m) ++ ns.drop i) mx) true := by
  have hn := g.cnt
  have hlen : ∀ i, i ≤ ns.length → ((ns.take i).map (wid kd m) ++ ns.drop i).length = ns.length := fun i hi => by rw [List.length_append, List.length_map, List.length_take, List.length_drop]; omega
  induction d with
  | zero =>
    intro i hi
    obtain rfl : i = ns.length := by omega
    refine Ev.step (fun _ => entrepotlaw11_FeasWider.l0.eq_2 ..) (Ev.neg (by rw [hlen _ (Nat.le_refl _)]; omega) ?_)
    rw [List.take_length, List.drop_length, List.append_nil]
    have hok := ok_good g
    have hok2 : okF mt (ns.map (wid kd m)).length mx.length = true := by rw [List.length_map]; exact hok
    have e1 : wrap64 m = m := by unfold wrap64; omega
    have fin : ∀ (cp' fl' : Int), cp ≤ cp' → (fl' > 0 → fl > 0 ∧ fl ≤ fl') → Ev (fun _ => (feas_Feasible.f nm kd mt sc cp fl ns mx rs).bind fun t => if t = true then (feas_Feasible.f nm kd mt sc cp' fl' (ns.map (wid kd m)) mx rs).bind fun t => some t else some true) true := fun cp' fl' h1 h2 => by
      refine Ev.this ?_
      rw [feasible_some hok hfw, Option.bind_some]
      by_cases h : (wrongsOf (lk nm kd mt sc cp fl ns mx) rs).isEmpty = true
      · rw [if_pos h, feasible_some hok2 hfw, Option.bind_some, wide_all g hm h1 h2 h]
      · rw [if_neg h]
    have hkc := g.kind
    by_cases c1 : kd = 1
    · exact Ev.pos c1 (fin cp fl (Int.le_refl _) (fun h => ⟨h, Int.le_refl _⟩))
    · refine Ev.neg c1 ?_
      have hcap := g.cap.2 c1
      have hfl := g.fleet.2 c1
      have hcp : cp ≤ mn (wrap64 (cp + wrap64 m)) 100000000 := by
        rw [e1, show wrap64 (cp + m) = cp + m by unfold wrap64; omega]
        unfold mn; split <;> omega
      by_cases c2 : fl > 0
      · refine Ev.pos c2 (fin _ _ hcp (fun _ => ⟨c2, ?_⟩))
        rw [e1, show wrap64 (fl + m) = fl + m by unfold wrap64; omega]
        unfold mn; split <;> omega
      · exact Ev.neg c2 (fin _ _ hcp (fun h => absurd h c2))
  | succ d ih =>
    intro i hi
    have hlt : i < ns.length := by omega
    have next := ih (i + 1) (by omega)
    rw [← set_mid hlt] at next
    refine Ev.step (fun _ => entrepotlaw11_FeasWider.l0.eq_2 ..) (Ev.pos (by rw [hlen i (by omega)]; omega) ?_)
    rw [rd_mid hlt, w64s (by omega), Int.toNat_natCast]
    by_cases c3 : kd = 3
    · refine Ev.pos c3 (Ev.pos (by omega) ?_)
      rwa [show wid kd m ns[i] = _ from if_pos (.inl c3)] at next
    · refine Ev.neg c3 ?_
      by_cases c4 : kd = 4
      · refine Ev.pos c4 (Ev.pos (by omega) ?_)
        rwa [show wid kd m ns[i] = _ from if_pos (.inr c4)] at next
      · refine Ev.neg c4 ?_
        rw [show wid kd m ns[i] = ns[i] from if_neg (by omega), set_same (by rw [hlen i (by omega)]; exact hlt) (rd_mid hlt)] at next
        exact next
theorem FeasWider (nm : ByteArray) (kd mt sc cp fl : Int) (ns : List FeasWalk.Node) (mx : List Int) (rs : List (List Int)) (m : Int) (_ : Open.InstGood nm kd mt sc cp fl ns mx) (_ : Open.PlanGood rs) (wm : (Lit.int .u16 m).wf = true) : ∃ k, entrepotlaw11_FeasWider.f k nm kd mt sc cp fl ns mx rs m = some true := by
  refine Ev.rounds ?_
  have hm : 0 ≤ m ∧ m ≤ 65535 := by simp only [Lit.wf, Bool.and_eq_true, decide_eq_true_eq] at wm; exact wm
  have yes : Ev (fun k => entrepotlaw11_FeasWider.j0 k m true nm kd mt sc cp fl ns mx rs) true := Ev.step (fun _ => entrepotlaw11_FeasWider.j0.eq_2 ..) (Ev.pos rfl (Ev.bs entrepotlaw11_shown.only (Ev.now _)))
  unfold entrepotlaw11_FeasWider.f
  refine Ev.bind (Well11.well_ev nm kd mt sc cp fl ns mx) ?_
  cases hw : wellF nm kd mt sc cp fl ns mx with
  | false => exact Ev.neg (by simp) yes
  | true =>
    have g := good_of hw
    refine Ev.pos rfl ?_
    obtain ⟨b, hb, hb2⟩ := Well11.long_tells rs
    refine Ev.bind hb ?_
    cases b with
    | true => exact Ev.pos rfl yes
    | false =>
      obtain ⟨l1, l2, l3⟩ := hb2 rfl
      have hfw := few_long (by omega) l2
      have hn := g.cnt
      refine Ev.neg (by simp) (Ev.bs entrepotlaw11_shown.only (Ev.step (fun _ => entrepotlaw11_FeasWider.j0.eq_2 ..) (Ev.neg (by simp) (Ev.bs rfl (Ev.pos (by simp; omega) ?_)))))
      have := wide_from (nm := nm) g hm hfw ns.length 0 (by omega)
      simpa using this
end Go.Proofs.Ytlncbckpcmojpaa.Pure
