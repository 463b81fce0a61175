/- Whatever the instance, if it is well-formed and no longer than the bound: with one thing of it another one that may not be, it has just that fault. -/
import Derived.Test.YtfnnngoandpgkaaPxEntrepotlaw08CanonSpoilt
import Derived.Test.YtfnnngoandpgkaaMgf
import Derived.Test.YtfnnngoandpgkaaGCanonN
set_option linter.unusedVariables false
namespace Go.Proofs.Ytfnnngoandpgkaa.Pure
open Go.RowKit Go.Proofs.Ytfnnngoandpgkaa.P Go.Proofs.YtfnnngoandpgkaaW.PrintWords Go.Proofs.YtfnnngoandpgkaaW.PrintLast
open CanonWalk (faultsOf headOf nodeOf opt nameB kindB knownB scaleB limitB matrixB coordB demandB windowB serviceB mateB Fault numB sigB)
open CanonL (N1 conv convF)
open CanonN (shown_true long_tells rdN_at)
theorem opt_true {b : Bool} {f : Fault} (h : opt b f = []) : b = true := by cases b with | true => rfl | false => simp [opt] at h
/-- What it means that nothing is at fault. -/
structure Clean (nm : ByteArray) (kd mt sc cp fl : Int) (ns : List N1) (mx : List Int) : Prop where
  count : 1 ≤ ns.length ∧ ns.length ≤ 400
  name : nameB nm = true
  kind : kindB kd = true
  known : knownB mt = true
  scale : scaleB mt sc = true
  cap : limitB kd cp 1 100000000 = true
  fleet : limitB kd fl 0 400 = true
  matrix : matrixB mt ns.length mx = true
  nodes : ∀ i < ns.length, nodeOf kd mt ns i = []
theorem clean_of {nm : ByteArray} {kd mt sc cp fl : Int} {ns : List N1} {mx : List Int} (h : faultsOf nm kd mt sc cp fl ns mx = []) : Clean nm kd mt sc cp fl ns mx := by
  unfold faultsOf at h
  split at h
  · rename_i hc
    obtain ⟨h1, h2⟩ := List.append_eq_nil_iff.1 h
    obtain ⟨h3, h4⟩ := List.append_eq_nil_iff.1 h1
    unfold headOf at h3
    obtain ⟨h3, b6⟩ := List.append_eq_nil_iff.1 h3
    obtain ⟨h3, b5⟩ := List.append_eq_nil_iff.1 h3
    obtain ⟨h3, b4⟩ := List.append_eq_nil_iff.1 h3
    obtain ⟨h3, b3⟩ := List.append_eq_nil_iff.1 h3
    obtain ⟨h3, b2⟩ := List.append_eq_nil_iff.1 h3
    obtain ⟨-, b1⟩ := List.append_eq_nil_iff.1 h3
    exact ⟨hc, opt_true b1, opt_true b2, opt_true b3, opt_true b4, opt_true b5, opt_true b6, opt_true h4, fun i hi => List.flatMap_eq_nil_iff.1 h2 i (List.mem_range.2 hi)⟩
  · simp at h
theorem flat_nil {n : Nat} {g : Nat → List Fault} (h : ∀ i < n, g i = []) : (List.range n).flatMap g = [] := List.flatMap_eq_nil_iff.2 fun i hi => h i (List.mem_range.1 hi)
theorem flat_one {g : Nat → List Fault} {i : Nat} {f : Fault} (hg : g i = [f]) : ∀ n : Nat, i < n → (∀ j < n, j ≠ i → g j = []) → (List.range n).flatMap g = [f]
  | 0, h, _ => by omega
  | n + 1, h, hn => by
    rw [List.range_succ, List.flatMap_append, List.flatMap_singleton]
    by_cases e : i = n
    · subst e
      rw [flat_nil (fun j hj => hn j (by omega) (by omega)), hg]; rfl
    · rw [flat_one hg n (by omega) (fun j hj hne => hn j (by omega) hne), hn n (by omega) (Ne.symm e)]; rfl
section
variable {nm : ByteArray} {kd mt sc cp fl : Int} {ns : List N1} {mx : List Int} (C : Clean nm kd mt sc cp fl ns mx)
include C
theorem spoil0 : faultsOf ⟨#[]⟩ kd mt sc cp fl ns mx = [⟨1, 0⟩] := by
  unfold faultsOf headOf
  rw [if_pos C.count, show nameB ⟨#[]⟩ = false by decide, C.kind, C.known, C.scale, C.cap, C.fleet, C.matrix, flat_nil C.nodes]; rfl
theorem spoil1 : faultsOf nm kd mt 7 cp fl ns mx = [⟨4, 0⟩] := by
  unfold faultsOf headOf
  rw [if_pos C.count, C.name, C.kind, C.known, show scaleB mt 7 = false by unfold scaleB; rw [decide_eq_false (by omega)]; rfl, C.cap, C.fleet, C.matrix, flat_nil C.nodes]; rfl
theorem spoil2 : faultsOf nm kd mt sc (-1) fl ns mx = [⟨5, 0⟩] := by
  unfold faultsOf headOf
  rw [if_pos C.count, C.name, C.kind, C.known, C.scale, show limitB kd (-1) 1 100000000 = false by unfold limitB; split <;> decide, C.fleet, C.matrix, flat_nil C.nodes]; rfl
theorem spoil3 : faultsOf nm kd mt sc cp 401 ns mx = [⟨6, 0⟩] := by
  unfold faultsOf headOf
  rw [if_pos C.count, C.name, C.kind, C.known, C.scale, C.cap, show limitB kd 401 0 400 = false by unfold limitB; split <;> decide, C.matrix, flat_nil C.nodes]; rfl
/-- One node is another one: the others' faults are as they were, if its demand and its mate are. -/
theorem spoilN {i : Nat} (hi : i < ns.length) {d : N1} {f : Fault} (h2 : d.f2 = ns[i].f2) (h6 : d.f6 = ns[i].f6) (hd : nodeOf kd mt (ns.set i d) i = [f]) : faultsOf nm kd mt sc cp fl (ns.set i d) mx = [f] := by
  unfold faultsOf headOf
  rw [List.length_set, if_pos C.count, C.name, C.kind, C.known, C.scale, C.cap, C.fleet, C.matrix]
  rw [flat_one hd ns.length hi]
  · rfl
  · intro j hj hne
    have h := C.nodes j hj
    have e : rd_T46 (ns.set i d) (j : Int) = rd_T46 ns (j : Int) := by
      rw [rdN_at (by rw [List.length_set]; exact hj), rdN_at hj, List.getElem_set_ne (Ne.symm hne)]
    have em : mateB kd (ns.set i d) j (rd_T46 ns (j : Int)) = mateB kd ns j (rd_T46 ns (j : Int)) := by
      unfold mateB
      rw [List.length_set]
      split
      · rfl
      · split
        · rename_i hm
          obtain ⟨m, hm'⟩ : ∃ m : Nat, (rd_T46 ns (j : Int)).f6 = (m : Int) := ⟨(rd_T46 ns (j : Int)).f6.toNat, (Int.toNat_of_nonneg (by omega)).symm⟩
          rw [hm'] at hm ⊢
          have hml : m < ns.length := by omega
          rw [rdN_at (l := ns.set i d) (i := m) (by rw [List.length_set]; exact hml), rdN_at (l := ns) (i := m) hml, List.getElem_set]
          by_cases e' : i = m
          · subst e'
            rw [if_pos rfl]
            unfold CanonWalk.pairB
            rw [h2, h6]
          · rw [if_neg e']
        · rfl
    unfold nodeOf at h ⊢
    rw [e, em]
    exact h
theorem node_clean {i : Nat} (hi : i < ns.length) : coordB mt ns[i] = true ∧ demandB kd i ns[i] = true ∧ windowB kd ns[i] = true ∧ serviceB kd ns[i] = true ∧ mateB kd ns i ns[i] = true := by
  have h := C.nodes i hi
  unfold nodeOf at h
  rw [rdN_at hi] at h
  obtain ⟨h, b5⟩ := List.append_eq_nil_iff.1 h
  obtain ⟨h, b4⟩ := List.append_eq_nil_iff.1 h
  obtain ⟨h, b3⟩ := List.append_eq_nil_iff.1 h
  obtain ⟨b1, b2⟩ := List.append_eq_nil_iff.1 h
  exact ⟨opt_true b1, opt_true b2, opt_true b3, opt_true b4, opt_true b5⟩
omit C in
/-- A node's mate is as it was, if the node that is another one has its demand and its mate. -/
theorem mate_set {i : Nat} (hi : i < ns.length) {d : N1} (h2 : d.f2 = ns[i].f2) (h6 : d.f6 = ns[i].f6) : mateB kd (ns.set i d) i d = mateB kd ns i ns[i] := by
  unfold mateB
  rw [List.length_set, h6]
  split
  · rfl
  · split
    · rename_i hm
      obtain ⟨m, hm'⟩ : ∃ m : Nat, ns[i].f6 = (m : Int) := ⟨ns[i].f6.toNat, (Int.toNat_of_nonneg (by omega)).symm⟩
      rw [hm'] at hm ⊢
      have hml : m < ns.length := by omega
      have hne : i ≠ m := fun e => hm.2.2 (by rw [e])
      rw [rdN_at (l := ns.set i d) (i := m) (by rw [List.length_set]; exact hml), rdN_at (l := ns) (i := m) hml, List.getElem_set_ne hne]
      unfold CanonWalk.pairB
      rw [h2]
    · rfl
theorem spoil4 {i : Nat} (hi : i < ns.length) : faultsOf nm kd mt sc cp fl (ns.set i ⟨100000001, ns[i].f1, ns[i].f2, ns[i].f3, ns[i].f4, ns[i].f5, ns[i].f6⟩) mx = [⟨9, (i : Int)⟩] := by
  refine spoilN C hi rfl rfl ?_
  obtain ⟨_, h2, h3, h4, h5⟩ := node_clean C hi
  have hs : i < (ns.set i ⟨100000001, ns[i].f1, ns[i].f2, ns[i].f3, ns[i].f4, ns[i].f5, ns[i].f6⟩).length := by rw [List.length_set]; exact hi
  unfold nodeOf
  rw [rdN_at hs, List.getElem_set_self, mate_set hi (d := ⟨100000001, ns[i].f1, ns[i].f2, ns[i].f3, ns[i].f4, ns[i].f5, ns[i].f6⟩) rfl rfl, h5]
  rw [show demandB kd i (⟨100000001, ns[i].f1, ns[i].f2, ns[i].f3, ns[i].f4, ns[i].f5, ns[i].f6⟩ : N1) = true from h2, show windowB kd (⟨100000001, ns[i].f1, ns[i].f2, ns[i].f3, ns[i].f4, ns[i].f5, ns[i].f6⟩ : N1) = true from h3,
    show serviceB kd (⟨100000001, ns[i].f1, ns[i].f2, ns[i].f3, ns[i].f4, ns[i].f5, ns[i].f6⟩ : N1) = true from h4, show coordB mt (⟨100000001, ns[i].f1, ns[i].f2, ns[i].f3, ns[i].f4, ns[i].f5, ns[i].f6⟩ : N1) = false from ?_]
  · rfl
  · unfold coordB
    rw [show sigB (100000001 : Int) = false by decide]; rfl
theorem spoil5 {i : Nat} (hi : i < ns.length) : faultsOf nm kd mt sc cp fl (ns.set i ⟨ns[i].f0, ns[i].f1, ns[i].f2, ns[i].f3, ns[i].f4, -1, ns[i].f6⟩) mx = [⟨12, (i : Int)⟩] := by
  refine spoilN C hi rfl rfl ?_
  obtain ⟨h1, h2, h3, _, h5⟩ := node_clean C hi
  have hs : i < (ns.set i ⟨ns[i].f0, ns[i].f1, ns[i].f2, ns[i].f3, ns[i].f4, -1, ns[i].f6⟩).length := by rw [List.length_set]; exact hi
  unfold nodeOf
  rw [rdN_at hs, List.getElem_set_self, mate_set hi (d := ⟨ns[i].f0, ns[i].f1, ns[i].f2, ns[i].f3, ns[i].f4, -1, ns[i].f6⟩) rfl rfl, h5]
  rw [show demandB kd i (⟨ns[i].f0, ns[i].f1, ns[i].f2, ns[i].f3, ns[i].f4, -1, ns[i].f6⟩ : N1) = true from h2, show windowB kd (⟨ns[i].f0, ns[i].f1, ns[i].f2, ns[i].f3, ns[i].f4, -1, ns[i].f6⟩ : N1) = true from h3,
    show coordB mt (⟨ns[i].f0, ns[i].f1, ns[i].f2, ns[i].f3, ns[i].f4, -1, ns[i].f6⟩ : N1) = true from h1, show serviceB kd (⟨ns[i].f0, ns[i].f1, ns[i].f2, ns[i].f3, ns[i].f4, -1, ns[i].f6⟩ : N1) = false from ?_]
  · rfl
  · unfold serviceB
    split
    · exact (by decide : decide ((-1 : Int) = 0) = false)
    · exact (by decide : numB (-1) = false)
end
theorem check_some {nm : ByteArray} (h : nm.size ≤ 100) (kd mt sc cp fl : Int) (ns : List N1) (mx : List Int) : canon_Check.f nm kd mt sc cp fl ns mx = some (faultsOf nm kd mt sc cp fl ns mx) := by
  unfold canon_Check.f
  exact if_pos (by omega)
theorem well_some {nm : ByteArray} {kd mt sc cp fl : Int} {ns : List N1} {mx : List Int} {l : List Fault} (h : canon_Check.f nm kd mt sc cp fl ns mx = some l) : canon_Well.f nm kd mt sc cp fl ns mx = some ((l.length : Int) == 0) := by
  unfold canon_Well.f; rw [h]; rfl
theorem spoilt_end {Cy : Option (List Fault)} {Wx Wy : Option Bool} {a b : Int} (hC : Cy = some [⟨a, b⟩]) (hx : Wx = some true) (hy : Wy = some false) :
    (Cy.bind fun t => if (t.length : Int) = 1 then (if 0 < (t.length : Int) then (if (((rd_T43 t 0).f0) == a && (((rd_T43 t 0).f1) == b)) = true then (Wx.bind fun t2 => if t2 = true then (Wy.bind fun t3 => some (!t3)) else some false) else some false) else none) else some false) = some true := by
  subst hC hx hy
  simp [rd_T43]
theorem CanonSpoilt (nm : ByteArray) (kd mt sc cp fl : Int) (ns : List Open.Node) (mx : List Int) (a1 a2 : Int) (g : Open.InstGood nm kd mt sc cp fl ns mx) (w1 : Open.WfInt .u8 a1) (w2 : Open.WfInt .u8 a2) :
    ∃ k, entrepotlaw08_CanonSpoilt.f k nm kd mt sc cp fl ns mx a1 a2 = some true := by
  refine Ev.rounds ?_
  unfold entrepotlaw08_CanonSpoilt.f
  obtain ⟨b, hb, hl⟩ := long_tells nm kd mt sc cp fl ns mx
  refine Ev.bs hb ?_
  have S : Ev (fun k => entrepotlaw08_CanonSpoilt.j0 k a1 a2 true nm kd mt sc cp fl ns mx) true := Ev.step (fun _ => entrepotlaw08_CanonSpoilt.j0.eq_2 ..) (Ev.pos rfl (Ev.bs shown_true (Ev.now _)))
  cases b with
  | true => exact Ev.pos rfl S
  | false =>
    obtain ⟨hn, hm, hs⟩ := hl rfl
    refine Ev.neg (by simp) (Ev.bind (CanonL.its_ev nm kd mt sc cp fl mx (by omega)) (Ev.bind (Ref08.well_ev nm kd mt sc cp fl (ns.map conv) mx (by omega)) ?_))
    cases hw : Ref08.wellB nm kd mt sc cp fl (ns.map conv) mx with
    | false => exact Ev.neg (by simp) S
    | true =>
      refine Ev.pos rfl (Ev.bs shown_true (Ev.step (fun _ => entrepotlaw08_CanonSpoilt.j0.eq_2 ..) (Ev.neg (by simp) ?_)))
      have hwide : ∀ d ∈ ns, CanonL.WideN d := CanonL.wide_of g.nodes
      have h0 := of_decide_eq_true (show decide (Ref08.faultsOf nm kd mt sc cp fl (ns.map conv) mx = []) = true from hw)
      have hF : faultsOf nm kd mt sc cp fl ns mx = [] := by
        rw [← CanonL.all_eq nm kd mt sc cp fl mx hwide] at h0
        exact List.map_eq_nil_iff.1 h0
      have C := clean_of hF
      have hx : canon_Well.f nm kd mt sc cp fl ns mx = some true := by rw [well_some (check_some hs kd mt sc cp fl ns mx), hF]; rfl
      have b1 : 0 ≤ a1 ∧ a1 ≤ 255 := by unfold Open.WfInt at w1; simp only [Lit.wf, Bool.and_eq_true, decide_eq_true_eq] at w1; exact w1
      have b2 : 0 ≤ a2 ∧ a2 ≤ 255 := by unfold Open.WfInt at w2; simp only [Lit.wf, Bool.and_eq_true, decide_eq_true_eq] at w2; exact w2
      have e1 : wrap64 a1 = a1 := by unfold wrap64; omega
      have e2 : wrap64 a2 = a2 := by unfold wrap64; omega
      have hl1 := C.count.1
      obtain ⟨i, hi, hil⟩ : ∃ i : Nat, Int.tmod a2 (ns.length : Int) = (i : Int) ∧ i < ns.length := by
        refine ⟨(Int.tmod a2 (ns.length : Int)).toNat, (Int.toNat_of_nonneg (Int.tmod_nonneg _ b2.1)).symm, ?_⟩
        have := Int.tmod_lt_of_pos a2 (show (0 : Int) < (ns.length : Int) by omega)
        have := Int.tmod_nonneg (ns.length : Int) b2.1
        omega
      rw [e1, e2, hi]
      refine Ev.neg (by omega) (Ev.bs rfl (Ev.pos (by simp; omega) (Ev.bs rfl ?_)))
      rw [List.nil_append]
      have hr : rd_T46 ns (i : Int) = ns[i] := rdN_at hil
      have he : (⟨#[]⟩ : ByteArray).size ≤ 100 := by decide
      have fin : ∀ {nm' : ByteArray} {sc' cp' fl' : Int} {ns' : List N1} {a b : Int}, nm'.size ≤ 100 → faultsOf nm' kd mt sc' cp' fl' ns' mx = [⟨a, b⟩] → canon_Check.f nm' kd mt sc' cp' fl' ns' mx = some [⟨a, b⟩] ∧ canon_Well.f nm' kd mt sc' cp' fl' ns' mx = some false := by
        intro nm' sc' cp' fl' ns' a b hs' hf
        have h1 := check_some hs' kd mt sc' cp' fl' ns' mx
        rw [hf] at h1
        exact ⟨h1, by rw [well_some h1]; rfl⟩
      have c1 : 0 ≤ Int.tmod a1 6 ∧ Int.tmod a1 6 < 6 := ⟨Int.tmod_nonneg _ b1.1, Int.tmod_lt_of_pos a1 (by decide)⟩
      generalize Int.tmod a1 6 = q at *
      by_cases q0 : q = 0
      · obtain ⟨f1, f2⟩ := fin he (spoil0 C)
        exact Ev.pos q0 (Ev.this (spoilt_end f1 hx f2))
      refine Ev.neg q0 ?_
      by_cases q1 : q = 1
      · obtain ⟨f1, f2⟩ := fin hs (spoil1 C)
        exact Ev.pos q1 (Ev.this (spoilt_end f1 hx f2))
      refine Ev.neg q1 ?_
      by_cases q2 : q = 2
      · obtain ⟨f1, f2⟩ := fin hs (spoil2 C)
        exact Ev.pos q2 (Ev.this (spoilt_end f1 hx f2))
      refine Ev.neg q2 ?_
      by_cases q3 : q = 3
      · obtain ⟨f1, f2⟩ := fin hs (spoil3 C)
        exact Ev.pos q3 (Ev.this (spoilt_end f1 hx f2))
      refine Ev.neg q3 ?_
      by_cases q4 : q = 4
      · obtain ⟨f1, f2⟩ := fin hs (spoil4 C hil)
        refine Ev.pos q4 (Ev.pos (by omega) (Ev.pos (by omega) (Ev.bs rfl ?_)))
        rw [hr, Int.toNat_natCast]
        exact Ev.this (spoilt_end f1 hx f2)
      refine Ev.neg q4 ?_
      by_cases q5 : q = 5
      · obtain ⟨f1, f2⟩ := fin hs (spoil5 C hil)
        refine Ev.pos q5 (Ev.pos (by omega) (Ev.pos (by omega) (Ev.bs rfl ?_)))
        rw [hr, Int.toNat_natCast]
        exact Ev.this (spoilt_end f1 hx f2)
      · omega
end Go.Proofs.Ytfnnngoandpgkaa.Pure
