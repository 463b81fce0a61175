/- Texts of this session in one: feas: late, load.; feas: fleet; what slices.Contains tells.; feas: pairs. -/
import Derived.Test.YtlncbckpcmojpaaMke
import Derived.Test.YtlncbckpcmojpaaMka
import Derived.Test.YtlncbckpcmojpaaMkc
set_option linter.unusedVariables false
set_option linter.unusedSimpArgs false
namespace Go.Proofs.Ytlncbckpcmojpaa
open Go.RowKit Go.Proofs.YtlncbckpcmojpaaW.PrintWords Go.Proofs.YtlncbckpcmojpaaW.PrintLast Go.Proofs.YtlncbckpcmojpaaW.PrintMore
namespace FeasWalk
open P
/-- What the times tell of a route. -/
def lateB (x : Look) (i : Int) (l : List Int) : List Wrong := if (timesOf x l).2 ≥ 0 then [⟨6, i, (timesOf x l).2⟩] else []
theorem lateB_le (x : Look) (i : Int) (l : List Int) : (lateB x i l).length ≤ 1 := by unfold lateB; split <;> simp
theorem SR.at {x : Look} {w0 V : World} {G : Nat} {xs : List Wrong} {W : World} (h : SR x w0 G V xs W) : ∃ v, x.at W G v := by obtain ⟨_, v, h1, _⟩ := h.1; exact ⟨v, h1⟩
set_option maxHeartbeats 8000000 in
set_option maxRecDepth 100000 in
theorem late_c (x : Look) (w0 V : World) (G : Nat) (xs : List Wrong) (i : Int) (A : Option Addr) (cap : Nat) (l : List Int) (W : World) (h : SR x w0 G V xs W) (hxs : xs.length ≤ 1000000) (hr : x.rows w0) (hn : x.ns.length ≤ 65536) (hn0 : 0 < x.ns.length) (hl : Kd.C (Kd.int .i64) w0 A l.length l) (hll : l.length ≤ 1000000)
    (hin : ∀ s ∈ l, 0 ≤ s ∧ s < (x.ns.length : Int)) (hleg : ∀ i j, i < x.ns.length → j < x.ns.length → ∃ r2, legOf x i j = some (legP x i j, r2)) :
    Calls Try.prog 53 #[.pointer (some ⟨G, 0, none⟩), .int .i64 i, .slice A l.length cap] W fun e w' => (∃ u, e = .returned u) ∧ SR x w0 G V (xs ++ lateB x i l) w' := by
  obtain ⟨v, hv⟩ := h.at
  have HT := Lib.hid (times_c x G v A cap l W hv (Look.rows_below hr h.old) hn hn0 (Kd.C_below hl h.old) hll hin hleg)
  have HS := Lib.hid h
  have HB := Lib.hid (show lateB x i l = if (timesOf x l).2 ≥ 0 then [⟨6, i, (timesOf x l).2⟩] else [] from rfl)
  generalize timesOf x l = tt at *
  obtain ⟨tl0, lt⟩ := tt
  simp only at HT HB
  clear h hv hr hl hin hleg
  by_cases h1 : lt ≥ 0
  · have b1 : decide (lt ≥ 0) = true := decide_eq_true h1
    have HB2 := Lib.hid (HB.out.trans (if_pos h1))
    clear h1
    go_enter Try.func53, Try.ntmps53
    go_wp2_with fail
    refine HT.out.mono ?_
    rintro e w4 ⟨v4, rfl, hR, hb4⟩
    have HN := Lib.hid (note_s x w0 V G _ 6 i lt w4 hxs (HS.out.below hb4))
    clear hR hb4 HT
    go_wp2_with fail
    refine HN.out.mono ?_
    rintro e w5 ⟨⟨u, rfl⟩, hst, hre⟩
    have HJ := Lib.hid (show SR x w0 G V (xs ++ lateB x i l) w5 from by rw [HB2.out]; exact hst)
    clear hst hre HN
    go_wp2
    go_end0
    exact ⟨⟨_, rfl⟩, HJ.out⟩
  · have b1 : decide (lt ≥ 0) = false := decide_eq_false h1
    have HB2 := Lib.hid (HB.out.trans (if_neg h1))
    clear h1
    go_enter Try.func53, Try.ntmps53
    go_wp2_with fail
    refine HT.out.mono ?_
    rintro e w4 ⟨v4, rfl, hR, hb4⟩
    have HJ := Lib.hid (show SR x w0 G V (xs ++ lateB x i l) w4 from by rw [HB2.out, List.append_nil]; exact HS.out.below hb4)
    clear hR hb4 HT
    go_wp2
    go_end0
    exact ⟨⟨_, rfl⟩, HJ.out⟩
/- LOAD -/
def over (x : Look) (d : Int) : Bool := decide (d < 0) || decide (d > x.cp)
/-- What the loads tell of a route. -/
def loadB (x : Look) (i : Int) (l : List Int) : List Wrong := if idx (over x) (loadsOf x l) ≥ 0 then [⟨5, i, rd l (idx (over x) (loadsOf x l))⟩] else []
theorem loadB_le (x : Look) (i : Int) (l : List Int) : (loadB x i l).length ≤ 1 := by unfold loadB; split <;> simp
set_option maxHeartbeats 2000000 in
theorem over_c (x : Look) (K Bk : Nat) (v : Value) (d : Int) (W : World) (hK : x.at W K v) (hBk : W.heap[Bk]? = some (.cells #[.pointer (some ⟨K, 0, none⟩)] 61 (0, 0))) :
    Calls Try.prog 73 #[.int .i64 d, .pointer (some ⟨Bk, 0, none⟩)] W fun e w' => e = .returned (.bool (over x d)) ∧ Below W.heap.size W w' := by
  unfold Look.at at hK
  obtain ⟨k0, k1, k2, k3, k4, k5, k6, k7, k8, f0, f1, f2, f3, f4, f5, f6, f7, f8⟩ := blk9_ hK
  clear k0 k1 k2 k3 k5 k6 k7 k8 f0 f1 f2 f3 f4 f5 f6 f7 f8 hK
  obtain ⟨b0, -⟩ := blk1_ hBk
  clear hBk
  by_cases h1 : d < 0
  · have b1 : decide (d < 0) = true := decide_eq_true h1
    have HN := Lib.hid (show over x d = true by unfold over; rw [b1]; rfl)
    clear h1
    go_enter Try.func73, Try.ntmps73
    go_wp2
    go_ret
    exact ⟨ret_bool HN.out.symm, Below.refl _ W⟩
  · have b1 : decide (d < 0) = false := decide_eq_false h1
    have HN := Lib.hid (show over x d = decide (d > x.cp) by unfold over; rw [b1]; rfl)
    clear h1
    go_enter Try.func73, Try.ntmps73
    go_wp2
    go_ret
    exact ⟨ret_bool HN.out.symm, Below.refl _ W⟩
theorem loadsOf_le (x : Look) (l : List Int) : (loadsOf x l).length ≤ l.length := by
  unfold loadsOf
  split
  · exact Nat.zero_le _
  · rw [sumsFrom_length]; exact Nat.le_refl _
theorem idx_lt {p : Int → Bool} {l : List Int} (h : 0 ≤ idx p l) : idx p l < (l.length : Int) := by
  unfold idx at h ⊢
  split at h
  · rename_i h1
    rw [if_pos h1]
    have := List.findIdx_lt_length_of_exists (List.any_eq_true.1 h1)
    omega
  · omega
set_option maxHeartbeats 8000000 in
set_option maxRecDepth 100000 in
theorem load_c (x : Look) (w0 V : World) (G : Nat) (xs : List Wrong) (i : Int) (A : Option Addr) (cap : Nat) (l : List Int) (W : World) (h : SR x w0 G V xs W) (hxs : xs.length ≤ 1000000) (hr : x.rows w0) (hn : x.ns.length ≤ 65536) (hl : Kd.C (Kd.int .i64) w0 A l.length l) (hll : l.length ≤ 1000000) :
    Calls Try.prog 54 #[.pointer (some ⟨G, 0, none⟩), .int .i64 i, .slice A l.length cap] W fun e w' => (∃ u, e = .returned u) ∧ SR x w0 G V (xs ++ loadB x i l) w' := by
  have h1 : SR x w0 G V xs (W.alloc (.cells #[.pointer (some ⟨G, 0, none⟩)] 61)) := h.below ((Below.refl _ W).alloc (Nat.le_refl _) _)
  have hbK := heap_alloc_new W (.cells #[.pointer (some ⟨G, 0, none⟩)] 61)
  generalize hW1 : W.alloc (.cells #[.pointer (some ⟨G, 0, none⟩)] 61) = W1 at *
  obtain ⟨Bk, hBk⟩ : ∃ Bk, W.heap.size = Bk := ⟨_, rfl⟩
  rw [hBk] at hbK
  obtain ⟨v, hv⟩ := h1.at
  have HF := Lib.hid (floads_c x A cap l W1 (Look.rows_below hr h1.old) hn (Kd.C_below hl h1.old) hll)
  have HI := Lib.hid (show ∀ (w' : World) (A' : Option Addr) (c' : Nat), Below W1.heap.size W1 w' → Kd.C (Kd.int .i64) w' A' (loadsOf x l).length (loadsOf x l) → _ from fun w' A' c' hb hC => indexCap 73 (enters_ Try.func73 (by kernel_rfl) rfl) (over x) w' Bk (fun d w2 hb2 => over_c x G Bk v d w2 (blk_below hv (hb.trans (hb2.mono hb.size))) (blk_below hbK (hb.trans (hb2.mono hb.size)))) A' c' (loadsOf x l) hC)
  have HB := Lib.hid (show loadB x i l = if idx (over x) (loadsOf x l) ≥ 0 then [⟨5, i, rd l (idx (over x) (loadsOf x l))⟩] else [] from rfl)
  have HLt := Lib.hid (show 0 ≤ idx (over x) (loadsOf x l) → idx (over x) (loadsOf x l) < (l.length : Int) from fun h => by have h1 := idx_lt h; have h2 := loadsOf_le x l; omega)
  generalize loadsOf x l = ls at *
  generalize idx (over x) ls = at_ at *
  have HL := Lib.hid (show ∀ w', Below W1.heap.size W1 w' → Kd.C (Kd.int .i64) w' A l.length l from fun w' hb => Kd.C_below hl (h1.below hb).old)
  have H1 := Lib.hid h1
  have HW := Lib.hid hW1
  have HK := Lib.hid hBk
  have HBk := Lib.hid hbK
  unfold Look.at at hv
  unfold Look.val at HF
  obtain ⟨k0, k1, k2, k3, k4, k5, k6, k7, k8, f0, f1, f2, f3, f4, f5, f6, f7, f8⟩ := blk9_ hv
  obtain ⟨b0, -⟩ := blk1_ hbK
  clear k8 f0 f1 f2 f3 f4 f5 f6 f7 f8 hv hbK hBk hW1 h1 h hr hl
  by_cases hge : at_ ≥ 0
  · have bg : decide (at_ ≥ 0) = true := decide_eq_true hge
    have HB2 := Lib.hid (HB.out.trans (if_pos hge))
    have hlt := HLt.out hge
    clear HB
    go_enter Try.func54, Try.ntmps54
    go_upto_region 2 with (fail)
    rw [HW.out, HK.out]
    go_wp2_with fail
    refine HF.out.mono ?_
    rintro e w3 ⟨v3, rfl, hR, hb3⟩
    obtain ⟨A3, c3, rfl, hc3, hC3⟩ := Kd.R_reads hR
    have HC3 := Lib.hid (HI.out w3 A3 c3 hb3 hC3)
    have HB3 := Lib.hid hb3
    clear hR hb3 hC3 hc3 HF HI
    go_wp2_with fail
    refine HC3.out.mono ?_
    rintro e w4 ⟨rfl, hb4⟩
    have hb4' := HB3.out.trans (hb4.mono HB3.out.size)
    obtain ⟨al, e1, cl⟩ := Kd.at_int (HL.out _ hb4') at_ hge hlt
    obtain ⟨a, ha⟩ : ∃ a : Nat, at_ = (a : Int) := ⟨at_.toNat, by omega⟩
    have HS4 := Lib.hid (H1.out.below hb4')
    have HBk4 := Lib.hid (blk_below HBk.out hb4')
    generalize rd l at_ = sp at *
    have HS := Lib.hid (show ∀ w', Below w4.heap.size w4 w' → (w'.cell? ⟨Bk, 0, none⟩ = some (.pointer (some ⟨G, 0, none⟩)) ∧ w'.cell? (al.add at_.toNat) = some (.int .i64 sp) ∧ Below w4.heap.size w4 w') from fun w' hb => ⟨old_cell hb (blk1_ HBk4.out).1, old_cell hb cl, hb⟩)
    have HN := Lib.hid (show ∀ w', Below w4.heap.size w4 w' → _ from fun w' hb => note_s x w0 V G _ 5 i sp w' hxs (HS4.out.below hb))
    cases e1
    have p2 : 0 ≤ at_ ∧ at_ < (l.length : Int) := ⟨hge, hlt⟩
    clear hb4 hb4' cl HC3 HL HS4 HBk4 HLt ha HBk H1 hge hlt k0 k1 k2 k3 k4 k5 k6 k7 b0
    go_wp2_with fail
    -- REGION
    refine start_ (n := 7) (S := fun w' => w'.cell? ⟨Bk, 0, none⟩ = some (.pointer (some ⟨G, 0, none⟩)) ∧ w'.cell? (al.add at_.toNat) = some (.int .i64 sp) ∧ Below w4.heap.size w4 w') (ds := [6]) #[false, false, false, false, false, false, false] (by kernel_rfl) rfl rfl (HS.out _ (below_drew1 (Below.refl _ _))) (fun hHeld => ?_)
    refine pure_ (i := 1) (N := some 20) (v := ?_) (a' := ?_) #[false, true, false, false, false, false, false] rfl rfl (by kernel_rfl) (fun _ _ _ h => h) (Or.inl ⟨by rfl, ?_⟩) ?_ ?_
    rotate_left
    · intro w'
      go_simp
      with_reducible rfl
    rotate_left
    · simp only [Act.put, List.setIfInBounds_toArray, List.set_cons_zero, List.set_cons_succ, i64_w, i32_w]
      rfl
    refine pure_ (i := 2) (N := some 21) (v := ?_) (a' := ?_) #[false, true, true, false, false, false, false] rfl rfl (by kernel_rfl) (fun _ _ _ h => h) (Or.inl ⟨by rfl, ?_⟩) ?_ ?_
    rotate_left
    · intro w'
      go_simp
      with_reducible rfl
    rotate_left
    · simp only [Act.put, List.setIfInBounds_toArray, List.set_cons_zero, List.set_cons_succ, i64_w, i32_w]
      rfl
    refine pure_ (i := 3) (N := some 22) (v := ?_) (a' := ?_) #[false, true, true, true, false, false, false] rfl rfl (by kernel_rfl) (fun _ _ _ h => h) (Or.inl ⟨by rfl, ?_⟩) ?_ ?_
    rotate_left
    · intro w'
      go_simp
      with_reducible rfl
    rotate_left
    · simp only [Act.put, List.setIfInBounds_toArray, List.set_cons_zero, List.set_cons_succ, i64_w, i32_w]
      rfl
    refine pure_ (i := 4) (N := some 23) (v := ?_) (a' := ?_) #[false, true, true, true, true, false, false] rfl rfl (by kernel_rfl) (fun _ _ _ h => h) (Or.inl ⟨by rfl, ?_⟩) ?_ ?_
    rotate_left
    · intro w'
      go_simp
      with_reducible rfl
    rotate_left
    · simp only [Act.put, List.setIfInBounds_toArray, List.set_cons_zero, List.set_cons_succ, i64_w, i32_w]
      rfl
    refine take_ (i := 0) (N := some 19) (v := ?_) (a' := ?_) #[true, true, true, true, true, false, false] rfl rfl (by kernel_rfl) (fun _ _ _ h => h) (Or.inl ⟨by rfl, ?_⟩) hHeld ?_ ?_
    rotate_left
    · rintro w' ⟨s0, s1, s2⟩
      go_simp
      with_reducible rfl
    rotate_left
    · simp only [Act.put, List.setIfInBounds_toArray, List.set_cons_zero, List.set_cons_succ, i64_w, i32_w]
      rfl
    refine take_ (i := 5) (N := some 24) (v := ?_) (a' := ?_) #[true, true, true, true, true, true, false] rfl rfl (by kernel_rfl) (fun _ _ _ h => h) (Or.inl ⟨by rfl, ?_⟩) hHeld ?_ ?_
    rotate_left
    · rintro w' ⟨s0, s1, s2⟩
      go_simp
      with_reducible rfl
    rotate_left
    · simp only [Act.put, List.setIfInBounds_toArray, List.set_cons_zero, List.set_cons_succ, i64_w, i32_w]
      rfl
    refine last_ (i := 6) (N := some 25) #[true, true, true, true, true, true, true] rfl rfl (by kernel_rfl) (by decide) (fun K hK => ?_)
    have hbl := hHeld.2.2
    refine goes_ Try.func50 (by kernel_rfl) rfl #[.pointer (some ⟨G, 0, none⟩), .int .i64 5, .int .i64 i, .int .i64 sp] (by rfl) rfl rfl (by simp only [List.map_toArray, List.map_cons, List.map_nil]; rfl) ?_
    with_reducible refine (HN.out _ hbl).mono ?_
    rintro e w5 ⟨⟨u, rfl⟩, hst, hre⟩
    refine ⟨_, rfl, ?_⟩
    have HJ := Lib.hid hst
    clear hbl hst hre
    refine hK.out _ _ ?_
    clear hK K
    refine norm_ (a' := ?_) ?_ ?_
    rotate_left
    · show Act.put _ (some 25) _ = _
      simp only [Act.put, List.setIfInBounds_toArray, List.set_cons_zero, List.set_cons_succ, i64_w, i32_w]
      rfl
    refine done_ (by kernel_rfl) ?_
    -- BEHIND
    go_end0
    exact ⟨⟨_, rfl⟩, by rw [HB2.out]; exact HJ.out⟩
  · have bg : decide (at_ ≥ 0) = false := decide_eq_false hge
    have HB2 := Lib.hid (HB.out.trans (if_neg hge))
    clear HB
    go_enter Try.func54, Try.ntmps54
    go_upto_region 2 with (fail)
    rw [HW.out, HK.out]
    go_wp2_with fail
    refine HF.out.mono ?_
    rintro e w3 ⟨v3, rfl, hR, hb3⟩
    obtain ⟨A3, c3, rfl, hc3, hC3⟩ := Kd.R_reads hR
    have HC3 := Lib.hid (HI.out w3 A3 c3 hb3 hC3)
    have HB3 := Lib.hid hb3
    clear hR hb3 hC3 hc3 HF HI
    go_wp2_with fail
    refine HC3.out.mono ?_
    rintro e w4 ⟨rfl, hb4⟩
    have HJ := Lib.hid (show SR x w0 G V (xs ++ loadB x i l) w4 from by rw [HB2.out, List.append_nil]; exact H1.out.below (HB3.out.trans (hb4.mono HB3.out.size)))
    clear hb4 HC3
    go_wp2
    go_end0
    exact ⟨⟨_, rfl⟩, HJ.out⟩
end FeasWalk
end Go.Proofs.Ytlncbckpcmojpaa
set_option linter.unusedVariables false
set_option linter.unusedSimpArgs false
namespace Go.Proofs.Ytlncbckpcmojpaa
open Go.RowKit Go.Proofs.YtlncbckpcmojpaaW.PrintWords Go.Proofs.YtlncbckpcmojpaaW.PrintLast Go.Proofs.YtlncbckpcmojpaaW.PrintMore
namespace FeasWalk
open P
theorem wrap64_next {i : Nat} (h : i ≤ 1000000) : wrap64 ((i : Int) + 1) = ((i + 1 : Nat) : Int) := by unfold wrap64; omega
theorem rd_at2 {l : List Int} {j : Nat} (hj : j < l.length) : rd l (j : Int) = l[j] := rd_at' hj
theorem index_from (l : List Int) (a : Int) (hl : l.length ≤ 1000000) (d : Nat) : ∀ i : Nat, i + d = l.length → ∃ r : Int, Ev (fun k => slices_Index_int_int.l0 k l a (l.length : Int) (i : Int)) r ∧ decide (r ≥ 0) = decide (a ∈ l.drop i) := by
  induction d with
  | zero =>
    intro i hi
    refine ⟨-1, Ev.step (fun _ => slices_Index_int_int.l0.eq_2 ..) (Ev.neg (by omega) (Ev.this rfl)), ?_⟩
    rw [List.drop_of_length_le (by omega)]
    simp
  | succ d ih =>
    intro i hi
    have hlt : i < l.length := by omega
    by_cases hc : a = l[i]
    · refine ⟨(i : Int), Ev.step (fun _ => slices_Index_int_int.l0.eq_2 ..) (Ev.pos (by omega) (Ev.pos (by omega) (Ev.pos (by omega) (Ev.pos (by rw [rd_at2 hlt]; exact hc) (Ev.this rfl))))), ?_⟩
      have h1 : ((i : Int) ≥ 0) := by omega
      have h2 : a ∈ l.drop i := by rw [List.drop_eq_getElem_cons hlt, hc]; exact List.mem_cons_self
      rw [decide_eq_true h1, decide_eq_true h2]
    · obtain ⟨r, h1, h2⟩ := ih (i + 1) (by omega)
      refine ⟨r, Ev.step (fun _ => slices_Index_int_int.l0.eq_2 ..) (Ev.pos (by omega) (Ev.pos (by omega) (Ev.pos (by omega) (Ev.neg (by rw [rd_at2 hlt]; exact hc) ?_)))), ?_⟩
      · rw [wrap64_next (by omega)]; exact h1
      · rw [h2]
        apply decide_eq_decide.2
        rw [List.drop_eq_getElem_cons hlt, List.mem_cons]
        exact ⟨fun h => .inr h, fun h => h.resolve_left hc⟩
theorem contains_ev (l : List Int) (a : Int) (hl : l.length ≤ 1000000) : Ev (fun k => slices_Contains_int_int.f k l a) (decide (a ∈ l)) := by
  obtain ⟨r, h1, h2⟩ := index_from l a hl l.length 0 (by omega)
  unfold slices_Contains_int_int.f
  refine Ev.bind (a := r) ?_ ?_
  · unfold slices_Index_int_int.f; exact h1
  · rw [List.drop_zero] at h2
    exact Ev.this (by rw [h2])
theorem contains_c (A : Option Addr) (c : Nat) (l : List Int) (a : Int) (W : World) (hl : Kd.C (Kd.int .i64) W A l.length l) (hc : l.length ≤ c) (hll : l.length ≤ 1000000) :
    Calls Try.prog 72 #[.slice A l.length c, .int .i64 a] W fun e w' => e = .returned (.bool (decide (a ∈ l))) ∧ Below W.heap.size W w' := by
  obtain ⟨k, hk⟩ := contains_ev l a hll
  refine (slices_Contains_int_int.calls k A c l a _ W hl hc (hk k (Nat.le_refl _))).mono ?_
  rintro e w' ⟨rfl, ⟨n, rfl⟩⟩
  exact ⟨rfl, pw_below_drewN (Below.refl _ _) n⟩
/- FLEET -/
theorem field_plan (A : Option Addr) (n c : Nat) (w : World) : (Instr.field 30 (.agg #[.slice A n c]) 0).run Try.prog w = .ok (.slice A n c) w := by kernel_rfl
def filled (rs : List (List Int)) : List (List Int) := rs.filter fun r => decide (0 < r.length)
theorem rdL1_at {l : List (List Int)} {j : Nat} (hj : j < l.length) : rd_L1 l (j : Int) = l[j] := by
  unfold rd_L1; rw [Int.toNat_natCast, List.getD_eq_getElem?_getD, List.getElem?_eq_getElem hj]; rfl
theorem norm_from {rs : List (List Int)} (hz : Few rs) (d : Nat) : ∀ (i : Nat) (acc : List (List Int)), i + d = rs.length → acc.length ≤ i → Ev (fun k => plan_Norm.l0 k rs (rs.length : Int) (i : Int) acc) (acc ++ filled (rs.drop i)) := by
  have hl := hz.1
  induction d with
  | zero =>
    intro i acc hi ha
    refine Ev.step (fun _ => plan_Norm.l0.eq_2 ..) (Ev.neg (by omega) ?_)
    rw [List.drop_of_length_le (by omega)]
    exact Ev.this (by simp [filled])
  | succ d ih =>
    intro i acc hi ha
    have hlt : i < rs.length := by omega
    have hr := hz.2 i hlt
    refine Ev.step (fun _ => plan_Norm.l0.eq_2 ..) (Ev.pos (by omega) (Ev.pos (by omega) (Ev.pos (by omega) ?_)))
    rw [rdL1_at hlt] at hr ⊢
    rw [wrap64_next (by omega), show filled (rs.drop i) = (if 0 < rs[i].length then [rs[i]] else []) ++ filled (rs.drop (i + 1)) by
      unfold filled
      rw [List.drop_eq_getElem_cons hlt, List.filter_cons]
      by_cases h : 0 < rs[i].length <;> simp [h]]
    by_cases hc : 0 < rs[i].length
    · refine Ev.pos (by omega) ?_
      rw [if_pos hc]
      refine Ev.bs (x := rs[i]) (by unfold slices_Clone_int_int.f; rw [if_pos (by omega)]) (Ev.pos (by omega) ?_)
      rw [← List.append_assoc]
      exact ih (i + 1) _ (by omega) (by simp; omega)
    · refine Ev.neg (by omega) ?_
      rw [if_neg hc, List.nil_append]
      exact ih (i + 1) acc (by omega) (by omega)
theorem norm_ev {rs : List (List Int)} (hz : Few rs) : Ev (fun k => plan_Norm.f k rs) (filled rs) := norm_from hz rs.length 0 [] (by omega) (by simp)
/-- What the fleet tells of a plan with that many routes. -/
def fleetB (x : Look) (n : Int) : List Wrong := if (x.kd = 1 ∧ n ≠ 1) ∨ (x.kd ≠ 1 ∧ x.fl > 0 ∧ n > x.fl) then [⟨4, 0, n⟩] else []
theorem fleetB_le (x : Look) (n : Int) : (fleetB x n).length ≤ 1 := by unfold fleetB; split <;> simp
set_option maxHeartbeats 8000000 in
set_option maxRecDepth 100000 in
theorem fleet_c (x : Look) (w0 V : World) (G : Nat) (xs : List Wrong) (A : Option Addr) (cap : Nat) (rs : List (List Int)) (W : World) (h : SR x w0 G V xs W) (hxs : xs.length ≤ 1000000) (hC : Kd.C (Kd.slice 3 (Kd.int .i64)) w0 A rs.length rs) (hcap : rs.length ≤ cap) (hf : Few rs) :
    Calls Try.prog 31 #[.pointer (some ⟨G, 0, none⟩), .agg #[.slice A rs.length cap]] W fun e w' => (∃ u, e = .returned u) ∧ SR x w0 G V (xs ++ fleetB x ((filled rs).length : Int)) w' := by
  have h1 : SR x w0 G V xs (W.alloc (.cells #[.slice A rs.length cap] 30)) := h.below ((Below.refl _ W).alloc (Nat.le_refl _) _)
  have hbP := heap_alloc_new W (.cells #[.slice A rs.length cap] 30)
  generalize hW1 : W.alloc (.cells #[.slice A rs.length cap] 30) = W1 at *
  obtain ⟨Bp, hBp⟩ : ∃ Bp, W.heap.size = Bp := ⟨_, rfl⟩
  rw [hBp] at hbP
  obtain ⟨k, hk⟩ := norm_ev hf
  have HP := Lib.hid (plan_Norm.calls k A cap rs _ W1 (Kd.C_below hC h1.old) hcap (hk k (Nat.le_refl _)))
  obtain ⟨n, hn⟩ : ∃ n, (filled rs).length = n := ⟨_, rfl⟩
  have HN := Lib.hid hn
  have HB := Lib.hid (show fleetB x (n : Int) = if (x.kd = 1 ∧ (n : Int) ≠ 1) ∨ (x.kd ≠ 1 ∧ x.fl > 0 ∧ (n : Int) > x.fl) then [⟨4, 0, (n : Int)⟩] else [] from rfl)
  rw [hn]
  have H1 := Lib.hid h1
  have HW := Lib.hid hW1
  have HK := Lib.hid hBp
  obtain ⟨p0, -⟩ := blk1_ hbP
  clear hbP hBp hW1 h1 h hC hk hn hf
  generalize filled rs = fs at *
  by_cases e1 : x.kd = 1
  · have b1 : (x.kd == 1) = true := beq_iff_eq.2 e1
    have b1n : (x.kd != 1) = false := by rw [bne, b1]; rfl
    by_cases e2 : (n : Int) = 1
    · have b2n : ((n : Int) != 1) = false := by rw [bne, beq_iff_eq.2 e2]; rfl
      have HB2 := Lib.hid (HB.out.trans (if_neg (by rintro (⟨_, h⟩ | ⟨h, _⟩) <;> contradiction)))
      clear HB e1 e2
      go_enter Try.func31, Try.ntmps31
      go_upto_region 1 with (fail)
      rw [HW.out, HK.out]
      go_wp2_with fail
      refine HP.out.mono ?_
      rintro e w4 ⟨v4, rfl, hS, hb4⟩
      obtain ⟨A4, c4, rfl⟩ := Kd.S_slice hS
      rw [HN.out]
      have hfd := fun w => field_plan A4 n c4 w
      obtain ⟨v, hv⟩ := (H1.out.below hb4).at
      unfold Look.at at hv
      obtain ⟨k0, k1, k2, k3, k4, k5, k6, k7, k8, f0, f1, f2, f3, f4, f5, f6, f7, f8⟩ := blk9_ hv
      have HJ := Lib.hid (H1.out.below hb4)
      clear k0 k2 k3 k4 k6 k7 k8 f0 f1 f2 f3 f4 f5 f6 f7 f8 hv hS hb4 HP p0
      go_wp2
      go_end0
      exact ⟨⟨_, rfl⟩, by rw [HB2.out, List.append_nil]; exact HJ.out⟩
    · have b2n : ((n : Int) != 1) = true := by rw [bne, beq_eq_false_iff_ne.2 e2]; rfl
      have HB2 := Lib.hid (HB.out.trans (if_pos (Or.inl ⟨e1, e2⟩)))
      clear HB e1 e2
      go_enter Try.func31, Try.ntmps31
      go_upto_region 1 with (fail)
      rw [HW.out, HK.out]
      go_wp2_with fail
      refine HP.out.mono ?_
      rintro e w4 ⟨v4, rfl, hS, hb4⟩
      obtain ⟨A4, c4, rfl⟩ := Kd.S_slice hS
      rw [HN.out]
      have hfd := fun w => field_plan A4 n c4 w
      obtain ⟨v, hv⟩ := (H1.out.below hb4).at
      unfold Look.at at hv
      obtain ⟨k0, k1, k2, k3, k4, k5, k6, k7, k8, f0, f1, f2, f3, f4, f5, f6, f7, f8⟩ := blk9_ hv
      have HJ := Lib.hid (H1.out.below hb4)
      clear k0 k2 k3 k4 k6 k7 k8 f0 f1 f2 f3 f4 f5 f6 f7 f8 hv hS hb4 HP p0
      have HT := Lib.hid (note_s x w0 V G _ 4 0 (n : Int) w4 hxs HJ.out)
      go_wp2_with fail
      refine HT.out.mono ?_
      rintro e w5 ⟨⟨u, rfl⟩, hst, hre⟩
      have HE := Lib.hid hst
      clear hst hre HT
      go_wp2
      go_end0
      exact ⟨⟨_, rfl⟩, by rw [HB2.out]; exact HE.out⟩
  · have b1 : (x.kd == 1) = false := beq_eq_false_iff_ne.2 e1
    have b1n : (x.kd != 1) = true := by rw [bne, b1]; rfl
    by_cases e3 : x.fl > 0
    · have b3 : decide (x.fl > 0) = true := decide_eq_true e3
      by_cases e4 : (n : Int) > x.fl
      · have b4 : decide ((n : Int) > x.fl) = true := decide_eq_true e4
        have HB2 := Lib.hid (HB.out.trans (if_pos (Or.inr ⟨e1, e3, e4⟩)))
        clear HB e1 e3 e4
        go_enter Try.func31, Try.ntmps31
        go_upto_region 1 with (fail)
        rw [HW.out, HK.out]
        go_wp2_with fail
        refine HP.out.mono ?_
        rintro e w4 ⟨v4, rfl, hS, hb4⟩
        obtain ⟨A4, c4, rfl⟩ := Kd.S_slice hS
        rw [HN.out]
        have hfd := fun w => field_plan A4 n c4 w
        obtain ⟨v, hv⟩ := (H1.out.below hb4).at
        unfold Look.at at hv
        obtain ⟨k0, k1, k2, k3, k4, k5, k6, k7, k8, f0, f1, f2, f3, f4, f5, f6, f7, f8⟩ := blk9_ hv
        have HJ := Lib.hid (H1.out.below hb4)
        clear k0 k2 k3 k4 k6 k7 k8 f0 f1 f2 f3 f4 f5 f6 f7 f8 hv hS hb4 HP p0
        have HT := Lib.hid (note_s x w0 V G _ 4 0 (n : Int) w4 hxs HJ.out)
        go_wp2_with fail
        refine HT.out.mono ?_
        rintro e w5 ⟨⟨u, rfl⟩, hst, hre⟩
        have HE := Lib.hid hst
        clear hst hre HT
        go_wp2
        go_end0
        exact ⟨⟨_, rfl⟩, by rw [HB2.out]; exact HE.out⟩
      · have b4 : decide ((n : Int) > x.fl) = false := decide_eq_false e4
        have HB2 := Lib.hid (HB.out.trans (if_neg (by rintro (⟨h, _⟩ | ⟨_, _, h⟩) <;> contradiction)))
        clear HB e1 e3 e4
        go_enter Try.func31, Try.ntmps31
        go_upto_region 1 with (fail)
        rw [HW.out, HK.out]
        go_wp2_with fail
        refine HP.out.mono ?_
        rintro e w4 ⟨v4, rfl, hS, hb4⟩
        obtain ⟨A4, c4, rfl⟩ := Kd.S_slice hS
        rw [HN.out]
        have hfd := fun w => field_plan A4 n c4 w
        obtain ⟨v, hv⟩ := (H1.out.below hb4).at
        unfold Look.at at hv
        obtain ⟨k0, k1, k2, k3, k4, k5, k6, k7, k8, f0, f1, f2, f3, f4, f5, f6, f7, f8⟩ := blk9_ hv
        have HJ := Lib.hid (H1.out.below hb4)
        clear k0 k2 k3 k4 k6 k7 k8 f0 f1 f2 f3 f4 f5 f6 f7 f8 hv hS hb4 HP p0
        go_wp2
        go_end0
        exact ⟨⟨_, rfl⟩, by rw [HB2.out, List.append_nil]; exact HJ.out⟩
    · have b3 : decide (x.fl > 0) = false := decide_eq_false e3
      have HB2 := Lib.hid (HB.out.trans (if_neg (by rintro (⟨h, _⟩ | ⟨_, h, _⟩) <;> contradiction)))
      clear HB e1 e3
      go_enter Try.func31, Try.ntmps31
      go_upto_region 1 with (fail)
      rw [HW.out, HK.out]
      go_wp2_with fail
      refine HP.out.mono ?_
      rintro e w4 ⟨v4, rfl, hS, hb4⟩
      obtain ⟨A4, c4, rfl⟩ := Kd.S_slice hS
      rw [HN.out]
      have hfd := fun w => field_plan A4 n c4 w
      obtain ⟨v, hv⟩ := (H1.out.below hb4).at
      unfold Look.at at hv
      obtain ⟨k0, k1, k2, k3, k4, k5, k6, k7, k8, f0, f1, f2, f3, f4, f5, f6, f7, f8⟩ := blk9_ hv
      have HJ := Lib.hid (H1.out.below hb4)
      clear k0 k2 k3 k4 k6 k7 k8 f0 f1 f2 f3 f4 f5 f6 f7 f8 hv hS hb4 HP p0
      go_wp2
      go_end0
      exact ⟨⟨_, rfl⟩, by rw [HB2.out, List.append_nil]; exact HJ.out⟩
end FeasWalk
end Go.Proofs.Ytlncbckpcmojpaa
set_option linter.unusedVariables false
set_option linter.unusedSimpArgs false
namespace Go.Proofs.Ytlncbckpcmojpaa
open Go.RowKit Go.Proofs.YtlncbckpcmojpaaW.PrintWords Go.Proofs.YtlncbckpcmojpaaW.PrintLast Go.Proofs.YtlncbckpcmojpaaW.PrintMore
namespace FeasWalk
open P
/-- What a stop tells of its mate. -/
def pairB (x : Look) (i : Int) (l : List Int) (k : Nat) : List Wrong :=
  if (rd_T32 x.ns (rd l (k : Int))).f2 ≤ 0 then [] else if (rd_T32 x.ns (rd l (k : Int))).f6 ∈ l.drop k then [] else
    if (rd_T32 x.ns (rd l (k : Int))).f6 ∈ l then [⟨8, i, rd l (k : Int)⟩] else [⟨7, i, rd l (k : Int)⟩]
def pairAll (x : Look) (i : Int) (l : List Int) (k : Nat) : List Wrong := (List.range k).flatMap (pairB x i l)
theorem pairAll_succ (x : Look) (i : Int) (l : List Int) (k : Nat) : pairAll x i l (k + 1) = pairAll x i l k ++ pairB x i l k := by unfold pairAll; rw [List.range_succ, List.flatMap_append, List.flatMap_singleton]
theorem pairB_le (x : Look) (i : Int) (l : List Int) (k : Nat) : (pairB x i l k).length ≤ 1 := by
  unfold pairB
  repeat' split
  all_goals simp
theorem pairAll_le (x : Look) (i : Int) (l : List Int) : ∀ k, (pairAll x i l k).length ≤ k
  | 0 => by simp [pairAll]
  | k + 1 => by
    rw [pairAll_succ, List.length_append]
    have h1 := pairAll_le x i l k
    have h2 := pairB_le x i l k
    omega
theorem cut_at (ad : Addr) (l : List Int) (cap k : Nat) (w0 : World) (hk : k < l.length) (hcap : l.length ≤ cap) :
    ∃ A5 : Option Addr, ∃ c5 : Nat, (l.drop k).length ≤ c5 ∧ (∀ W : World, (Instr.slice 23 (.slice (some ad) l.length cap) (some (.int .i64 (k : Int))) none none).run Try.prog W = .ok (.slice A5 (l.drop k).length c5) W) ∧
      ∀ w', Kd.C (Kd.int .i64) w' (some ad) l.length l → Kd.C (Kd.int .i64) w' A5 (l.drop k).length (l.drop k) := by
  obtain ⟨i0, hi0, hz0, hz1, hz2⟩ := info_parts P.info3
  refine ⟨if cap = k then some ad else (some ad).map (·.add (k * 1)), cap - k, by rw [List.length_drop]; omega, fun W => ?_, fun w' h => Kd.C_drop h (by omega) hcap⟩
  have h := cut_from 23 3 .i64 Try.underlying23 hi0 1 hz1 (some ad) l.length cap (k : Int) (by omega) (by omega) W
  rw [Int.toNat_natCast] at h
  rw [List.length_drop]
  exact h
set_option maxHeartbeats 8000000 in
set_option maxRecDepth 100000 in
theorem pairs_c (x : Look) (w0 V : World) (G : Nat) (xs : List Wrong) (i : Int) (A : Option Addr) (cap : Nat) (l : List Int) (W : World) (h : SR x w0 G V xs W) (hxs : xs.length ≤ 500000) (hr : x.rows w0) (hn : x.ns.length ≤ 65536) (hl : Kd.C (Kd.int .i64) w0 A l.length l) (hcap : l.length ≤ cap) (hll : l.length ≤ 400000)
    (hin : ∀ s ∈ l, 0 ≤ s ∧ s < (x.ns.length : Int)) :
    Calls Try.prog 52 #[.pointer (some ⟨G, 0, none⟩), .int .i64 i, .slice A l.length cap] W fun e w' => (∃ u, e = .returned u) ∧ SR x w0 G V (xs ++ pairAll x i l l.length) w' := by
  have HIN := Lib.hid hin
  have HR := Lib.hid hr.1
  have HL0 := Lib.hid hl
  have H0 := Aside0.mk (show SR x w0 G V (xs ++ pairAll x i l 0) W from by simpa [pairAll] using h)
  clear h hr hl hin
  go_enter Try.func52, Try.ntmps52
  go_wp2
  go_loopw [11] (fun v11 wr => ∃ k : Nat, v11 = .int .i64 k ∧ k ≤ l.length ∧ Aside0 (SR x w0 G V (xs ++ pairAll x i l k) wr)) (fun v11 wr => l.length - (intOf v11).toNat)
  case atStart => exact ⟨0, rfl, Nat.zero_le _, H0⟩
  case round =>
    obtain ⟨k, rfl, hk, HI⟩ := hrel
    clear H0
    by_cases hlt : k < l.length
    · have bt : decide ((k : Int) < (l.length : Int)) = true := decide_eq_true (by omega)
      obtain ⟨al, e1, cl⟩ := Kd.at_int (Kd.C_below HL0.out HI.out.old) (k : Int) (by omega) (by omega)
      cases e1
      rw [Int.toNat_natCast] at cl
      obtain ⟨hs0, hs1⟩ := HIN.out l[k] (List.getElem_mem hlt)
      have HE := Lib.hid (pairAll_succ x i l k)
      have hlen : (xs ++ pairAll x i l k).length ≤ 1000000 := by
        rw [List.length_append]
        have := pairAll_le x i l k
        omega
      have HB := Lib.hid (show pairB x i l k = if (rd_T32 x.ns (rd l (k : Int))).f2 ≤ 0 then [] else if (rd_T32 x.ns (rd l (k : Int))).f6 ∈ l.drop k then [] else
        if (rd_T32 x.ns (rd l (k : Int))).f6 ∈ l then [⟨8, i, rd l (k : Int)⟩] else [⟨7, i, rd l (k : Int)⟩] from rfl)
      rw [← rd_at2 hlt] at hs0 hs1
      generalize rd l (k : Int) = s at *
      obtain ⟨ad2, e2, c0, c1, c2, c3, c4, c5, c6⟩ := at_T32 (Kd.C_below HR.out HI.out.old) s hs0 hs1
      generalize rd_T32 x.ns s = d at *
      obtain ⟨v, kK⟩ := HI.out.at
      unfold Look.at at kK
      obtain ⟨k0, k1, k2, k3, k4, k5, k6, k7, k8, f0, f1, f2, f3, f4, f5, f6, f7, f8⟩ := blk9_ kK
      rw [e2] at k6
      clear k0 k1 k2 k3 k4 k5 k7 k8 f0 f1 f2 f3 f4 f5 f6 f7 f8 kK e2
      have p1 : (0 : Int) ≤ (k : Int) ∧ (k : Int) < (l.length : Int) := by omega
      have p2 : (0 : Int) ≤ s ∧ s < (x.ns.length : Int) := ⟨hs0, hs1⟩
      go_upto_region 5 with (fail)
      have bD0 := heap_alloc_new wr (.cells #[.int .i64 d.f0, .int .i64 d.f1, .int .i64 d.f2, .int .i64 d.f3, .int .i64 d.f4, .int .i64 d.f5, .int .i64 d.f6] 32)
      have H1 := Lib.hid (HI.out.below ((Below.refl _ wr).alloc (Nat.le_refl _) (.cells #[.int .i64 d.f0, .int .i64 d.f1, .int .i64 d.f2, .int .i64 d.f3, .int .i64 d.f4, .int .i64 d.f5, .int .i64 d.f6] 32)))
      generalize hBd : wr.heap.size = Bd at bD0 ⊢
      generalize wr.alloc (.cells #[.int .i64 d.f0, .int .i64 d.f1, .int .i64 d.f2, .int .i64 d.f3, .int .i64 d.f4, .int .i64 d.f5, .int .i64 d.f6] 32) = w7 at bD0 H1 ⊢
      obtain ⟨x0, x1, q2, x3, x4, x5, q6, y0, y1, y2, y3, y4, y5, y6⟩ := blk7_ bD0
      generalize d.f2 = df2 at *
      generalize d.f6 = df6 at *
      have HS := Lib.hid (show ∀ w', Below w7.heap.size w7 w' → (w'.cell? ⟨Bd, 2, none⟩ = some (.int .i64 df2) ∧ w'.cell? ⟨Bd, 6, none⟩ = some (.int .i64 df6) ∧ Below w7.heap.size w7 w') from fun w' hb => ⟨old_cell hb q2, old_cell hb q6, hb⟩)
      clear x0 x1 q2 x3 x4 x5 q6 y0 y1 y2 y3 y4 y5 y6 bD0 hBd c0 c1 c2 c3 c4 c5 c6 k6 cl
      by_cases hd : df2 ≤ 0
      · have bd : decide (df2 ≤ 0) = true := decide_eq_true hd
        have HB2 := Lib.hid (HB.out.trans (if_pos hd))
        clear hd HB
        go_wp2_with fail
        -- REGION
        refine start_ (n := 12) (S := fun w' => w'.cell? ⟨Bd, 2, none⟩ = some (.int .i64 df2) ∧ w'.cell? ⟨Bd, 6, none⟩ = some (.int .i64 df6) ∧ Below w7.heap.size w7 w') (ds := []) #[false, false, false, false, false, false, false, false, false, false, false, false] (by kernel_rfl) rfl rfl (HS.out _ (below_drew1 (Below.refl _ _))) (fun hHeld => ?_)
        refine pure_ (i := 0) (N := some 29) (v := ?_) (a' := ?_) #[true, false, false, false, false, false, false, false, false, false, false, false] rfl rfl (by kernel_rfl) (fun _ _ _ h => h) (Or.inl ⟨by rfl, ?_⟩) ?_ ?_
        rotate_left
        · intro w'
          go_simp
          with_reducible rfl
        rotate_left
        · simp only [Act.put, List.setIfInBounds_toArray, List.set_cons_zero, List.set_cons_succ, i64_w, i32_w]
          rfl
        refine take_ (i := 1) (N := some 30) (v := ?_) (a' := ?_) #[true, true, false, false, false, false, false, false, false, false, false, false] rfl rfl (by kernel_rfl) (fun _ _ _ h => h) (Or.inl ⟨by rfl, ?_⟩) hHeld ?_ ?_
        rotate_left
        · rintro w' ⟨s0, s1, s2⟩
          go_simp
          with_reducible rfl
        rotate_left
        · simp only [Act.put, List.setIfInBounds_toArray, List.set_cons_zero, List.set_cons_succ, i64_w, i32_w]
          rfl
        refine pure_ (i := 2) (N := some 31) (v := ?_) (a' := ?_) #[true, true, true, false, false, false, false, false, false, false, false, false] rfl rfl (by kernel_rfl) (fun _ _ _ h => h) (Or.inl ⟨by rfl, ?_⟩) ?_ ?_
        rotate_left
        · intro w'
          go_simp
          with_reducible rfl
        rotate_left
        · simp only [Act.put, List.setIfInBounds_toArray, List.set_cons_zero, List.set_cons_succ, i64_w, i32_w]
          rfl
        refine pure_ (i := 3) (N := some 32) (v := ?_) (a' := ?_) #[true, true, true, true, false, false, false, false, false, false, false, false] rfl rfl (by kernel_rfl) (fun _ _ _ h => h) (Or.inl ⟨by rfl, ?_⟩) ?_ ?_
        rotate_left
        · intro w'
          go_simp
          with_reducible rfl
        rotate_left
        · simp only [Act.put, List.setIfInBounds_toArray, List.set_cons_zero, List.set_cons_succ, i64_w, i32_w]
          rfl
        refine pure_ (i := 4) (N := some 33) (v := undef) (a' := ?_) #[true, true, true, true, true, false, false, false, false, false, false, false] rfl rfl (by kernel_rfl) (fun _ _ _ h => h) (Or.inr ⟨by rfl, rfl⟩) ?_ ?_
        rotate_left
        · simp only [Act.put, List.setIfInBounds_toArray, List.set_cons_zero, List.set_cons_succ, i64_w, i32_w]
          rfl
        refine pure_ (i := 5) (N := some 34) (v := undef) (a' := ?_) #[true, true, true, true, true, true, false, false, false, false, false, false] rfl rfl (by kernel_rfl) (fun _ _ _ h => h) (Or.inr ⟨by rfl, rfl⟩) ?_ ?_
        rotate_left
        · simp only [Act.put, List.setIfInBounds_toArray, List.set_cons_zero, List.set_cons_succ, i64_w, i32_w]
          rfl
        refine pure_ (i := 6) (N := some 35) (v := undef) (a' := ?_) #[true, true, true, true, true, true, true, false, false, false, false, false] rfl rfl (by kernel_rfl) (fun _ _ _ h => h) (Or.inr ⟨by rfl, rfl⟩) ?_ ?_
        rotate_left
        · simp only [Act.put, List.setIfInBounds_toArray, List.set_cons_zero, List.set_cons_succ, i64_w, i32_w]
          rfl
        refine pure_ (i := 7) (N := some 36) (v := undef) (a' := ?_) #[true, true, true, true, true, true, true, true, false, false, false, false] rfl rfl (by kernel_rfl) (fun _ _ _ h => h) (Or.inr ⟨by rfl, rfl⟩) ?_ ?_
        rotate_left
        · simp only [Act.put, List.setIfInBounds_toArray, List.set_cons_zero, List.set_cons_succ, i64_w, i32_w]
          rfl
        refine pure_ (i := 8) (N := some 37) (v := undef) (a' := ?_) #[true, true, true, true, true, true, true, true, true, false, false, false] rfl rfl (by kernel_rfl) (fun _ _ _ h => h) (Or.inr ⟨by rfl, rfl⟩) ?_ ?_
        rotate_left
        · simp only [Act.put, List.setIfInBounds_toArray, List.set_cons_zero, List.set_cons_succ, i64_w, i32_w]
          rfl
        refine pure_ (i := 9) (N := some 38) (v := undef) (a' := ?_) #[true, true, true, true, true, true, true, true, true, true, false, false] rfl rfl (by kernel_rfl) (fun _ _ _ h => h) (Or.inr ⟨by rfl, rfl⟩) ?_ ?_
        rotate_left
        · simp only [Act.put, List.setIfInBounds_toArray, List.set_cons_zero, List.set_cons_succ, i64_w, i32_w]
          rfl
        refine pure_ (i := 10) (N := some 39) (v := ?_) (a' := ?_) #[true, true, true, true, true, true, true, true, true, true, true, false] rfl rfl (by kernel_rfl) (fun _ _ _ h => h) (Or.inl ⟨by rfl, ?_⟩) ?_ ?_
        rotate_left
        · intro w'
          go_simp
          with_reducible rfl
        rotate_left
        · simp only [Act.put, List.setIfInBounds_toArray, List.set_cons_zero, List.set_cons_succ, i64_w, i32_w]
          rfl
        refine pure_ (i := 11) (N := some 28) (v := ?_) (a' := ?_) #[true, true, true, true, true, true, true, true, true, true, true, true] rfl rfl (by kernel_rfl) (fun _ _ _ h => h) (Or.inl ⟨by rfl, ?_⟩) ?_ ?_
        rotate_left
        · intro w'
          go_simp
          with_reducible rfl
        rotate_left
        · simp only [Act.put, List.setIfInBounds_toArray, List.set_cons_zero, List.set_cons_succ, i64_w, i32_w]
          rfl
        refine done_ (by kernel_rfl) ?_
        -- BEHIND
        have HJ := Lib.hid (show SR x w0 G V (xs ++ pairAll x i l (k + 1)) _ from by rw [HE.out, HB2.out, List.append_nil]; exact H1.out.below hHeld.2.2)
        clear hHeld HI HS H1 HL0
        go_wp2
        go_roundw
        case rel => exact ⟨k + 1, by go_num, by omega, ⟨HJ.out⟩⟩
        case measure => simp [intOf]; omega
      · have bd : decide (df2 ≤ 0) = false := decide_eq_false hd
        have HB2 := Lib.hid (HB.out.trans (if_neg hd))
        obtain ⟨A5, c5, hc5, hcut, hC5⟩ := cut_at al l cap k w0 hlt hcap
        have HC5 := Lib.hid (show ∀ w', Below w7.heap.size w7 w' → _ from fun w' hb => contains_c A5 c5 (l.drop k) df6 w' (hC5 _ (Kd.C_below HL0.out (H1.out.below hb).old)) hc5 (by rw [List.length_drop]; omega))
        have HCA := Lib.hid (show ∀ w', Below w7.heap.size w7 w' → _ from fun w' hb => contains_c (some al) cap l df6 w' (Kd.C_below HL0.out (H1.out.below hb).old) hcap (by omega))
        clear hd HB hC5
        generalize l.drop k = ld at *
        by_cases h1 : df6 ∈ ld
        · have b1 : decide (df6 ∈ ld) = true := decide_eq_true h1
          have HB3 := Lib.hid (HB2.out.trans (if_pos h1))
          rw [b1] at HC5
          clear h1
          go_wp2_with fail
          -- REGION
          refine start_ (n := 12) (S := fun w' => w'.cell? ⟨Bd, 2, none⟩ = some (.int .i64 df2) ∧ w'.cell? ⟨Bd, 6, none⟩ = some (.int .i64 df6) ∧ Below w7.heap.size w7 w') (ds := []) #[false, false, false, false, false, false, false, false, false, false, false, false] (by kernel_rfl) rfl rfl (HS.out _ (below_drew1 (Below.refl _ _))) (fun hHeld => ?_)
          refine pure_ (i := 0) (N := some 29) (v := ?_) (a' := ?_) #[true, false, false, false, false, false, false, false, false, false, false, false] rfl rfl (by kernel_rfl) (fun _ _ _ h => h) (Or.inl ⟨by rfl, ?_⟩) ?_ ?_
          rotate_left
          · intro w'
            go_simp
            with_reducible rfl
          rotate_left
          · simp only [Act.put, List.setIfInBounds_toArray, List.set_cons_zero, List.set_cons_succ, i64_w, i32_w]
            rfl
          refine take_ (i := 1) (N := some 30) (v := ?_) (a' := ?_) #[true, true, false, false, false, false, false, false, false, false, false, false] rfl rfl (by kernel_rfl) (fun _ _ _ h => h) (Or.inl ⟨by rfl, ?_⟩) hHeld ?_ ?_
          rotate_left
          · rintro w' ⟨s0, s1, s2⟩
            go_simp
            with_reducible rfl
          rotate_left
          · simp only [Act.put, List.setIfInBounds_toArray, List.set_cons_zero, List.set_cons_succ, i64_w, i32_w]
            rfl
          refine pure_ (i := 2) (N := some 31) (v := ?_) (a' := ?_) #[true, true, true, false, false, false, false, false, false, false, false, false] rfl rfl (by kernel_rfl) (fun _ _ _ h => h) (Or.inl ⟨by rfl, ?_⟩) ?_ ?_
          rotate_left
          · intro w'
            go_simp
            with_reducible rfl
          rotate_left
          · simp only [Act.put, List.setIfInBounds_toArray, List.set_cons_zero, List.set_cons_succ, i64_w, i32_w]
            rfl
          refine pure_ (i := 3) (N := some 32) (v := ?_) (a' := ?_) #[true, true, true, true, false, false, false, false, false, false, false, false] rfl rfl (by kernel_rfl) (fun _ _ _ h => h) (Or.inl ⟨by rfl, ?_⟩) ?_ ?_
          rotate_left
          · intro w'
            go_simp
            with_reducible rfl
          rotate_left
          · simp only [Act.put, List.setIfInBounds_toArray, List.set_cons_zero, List.set_cons_succ, i64_w, i32_w]
            rfl
          refine pure_ (i := 4) (N := some 33) (v := ?_) (a' := ?_) #[true, true, true, true, true, false, false, false, false, false, false, false] rfl rfl (by kernel_rfl) (fun _ _ _ h => h) (Or.inl ⟨by rfl, ?_⟩) ?_ ?_
          rotate_left
          · intro w'
            go_simp
            with_reducible rfl
          rotate_left
          · simp only [Act.put, List.setIfInBounds_toArray, List.set_cons_zero, List.set_cons_succ, i64_w, i32_w]
            rfl
          refine pure_ (i := 5) (N := some 34) (v := ?_) (a' := ?_) #[true, true, true, true, true, true, false, false, false, false, false, false] rfl rfl (by kernel_rfl) (fun _ _ _ h => h) (Or.inl ⟨by rfl, ?_⟩) ?_ ?_
          rotate_left
          · intro w'
            go_simp
            with_reducible rfl
          rotate_left
          · simp only [Act.put, List.setIfInBounds_toArray, List.set_cons_zero, List.set_cons_succ, i64_w, i32_w]
            rfl
          refine pure_ (i := 6) (N := some 35) (v := ?_) (a' := ?_) #[true, true, true, true, true, true, true, false, false, false, false, false] rfl rfl (by kernel_rfl) (fun _ _ _ h => h) (Or.inl ⟨by rfl, ?_⟩) ?_ ?_
          rotate_left
          · intro w'
            go_simp
            with_reducible rfl
          rotate_left
          · simp only [Act.put, List.setIfInBounds_toArray, List.set_cons_zero, List.set_cons_succ, i64_w, i32_w]
            rfl
          refine pure_ (i := 7) (N := some 36) (v := ?_) (a' := ?_) #[true, true, true, true, true, true, true, true, false, false, false, false] rfl rfl (by kernel_rfl) (fun _ _ _ h => h) (Or.inl ⟨by rfl, ?_⟩) ?_ ?_
          rotate_left
          · intro w'
            go_simp
            with_reducible rfl
          rotate_left
          · simp only [Act.put, List.setIfInBounds_toArray, List.set_cons_zero, List.set_cons_succ, i64_w, i32_w]
            rfl
          refine take_ (i := 8) (N := some 37) (v := ?_) (a' := ?_) #[true, true, true, true, true, true, true, true, true, false, false, false] rfl rfl (by kernel_rfl) (fun _ _ _ h => h) (Or.inl ⟨by rfl, ?_⟩) hHeld ?_ ?_
          rotate_left
          · rintro w' ⟨s0, s1, s2⟩
            go_simp
            with_reducible rfl
          rotate_left
          · simp only [Act.put, List.setIfInBounds_toArray, List.set_cons_zero, List.set_cons_succ, i64_w, i32_w]
            rfl
          refine one_ (i := 9) (N := some 38) #[true, true, true, true, true, true, true, true, true, true, false, false] rfl rfl (by kernel_rfl) (by decide) (fun K hK => ?_)
          have hbl := hHeld.2.2
          refine goes_ Try.func72 (by kernel_rfl) rfl #[.slice A5 ld.length c5, .int .i64 df6] (by rfl) rfl rfl (by simp only [List.map_toArray, List.map_cons, List.map_nil]; rfl) ?_
          with_reducible refine (HC5.out _ hbl).mono ?_
          rintro e w8 ⟨rfl, hb⟩
          refine ⟨_, rfl, ?_⟩
          have hb8 := hbl.trans (hb.mono hbl.size)
          clear hb hbl
          refine hK.out _ _ (HS.out _ hb8) (fun hHeld => ?_)
          clear hK K
          refine norm_ (a' := ?_) ?_ ?_
          rotate_left
          · show Act.put _ (some 38) _ = _
            simp only [Act.put, List.setIfInBounds_toArray, List.set_cons_zero, List.set_cons_succ, i64_w, i32_w]
            rfl
          refine pure_ (i := 10) (N := some 39) (v := ?_) (a' := ?_) #[true, true, true, true, true, true, true, true, true, true, true, false] rfl rfl (by kernel_rfl) (fun _ _ _ h => h) (Or.inl ⟨by rfl, ?_⟩) ?_ ?_
          rotate_left
          · intro w'
            go_simp
            with_reducible rfl
          rotate_left
          · simp only [Act.put, List.setIfInBounds_toArray, List.set_cons_zero, List.set_cons_succ, i64_w, i32_w]
            rfl
          refine pure_ (i := 11) (N := some 28) (v := ?_) (a' := ?_) #[true, true, true, true, true, true, true, true, true, true, true, true] rfl rfl (by kernel_rfl) (fun _ _ _ h => h) (Or.inl ⟨by rfl, ?_⟩) ?_ ?_
          rotate_left
          · intro w'
            go_simp
            with_reducible rfl
          rotate_left
          · simp only [Act.put, List.setIfInBounds_toArray, List.set_cons_zero, List.set_cons_succ, i64_w, i32_w]
            rfl
          refine done_ (by kernel_rfl) ?_
          -- BEHIND
          clear HC5 HCA
          have HJ := Lib.hid (show SR x w0 G V (xs ++ pairAll x i l (k + 1)) _ from by rw [HE.out, HB3.out, List.append_nil]; exact H1.out.below hHeld.2.2)
          clear hHeld HI HS H1 HL0
          go_wp2
          go_roundw
          case rel => exact ⟨k + 1, by go_num, by omega, ⟨HJ.out⟩⟩
          case measure => simp [intOf]; omega
        · have b1 : decide (df6 ∈ ld) = false := decide_eq_false h1
          have HB3 := Lib.hid (HB2.out.trans (if_neg h1))
          rw [b1] at HC5
          clear h1
          by_cases h2 : df6 ∈ l
          · have b2 : decide (df6 ∈ l) = true := decide_eq_true h2
            have HB4 := Lib.hid (HB3.out.trans (if_pos h2))
            rw [b2] at HCA
            clear h2
            go_wp2_with fail
            -- REGION
            refine start_ (n := 12) (S := fun w' => w'.cell? ⟨Bd, 2, none⟩ = some (.int .i64 df2) ∧ w'.cell? ⟨Bd, 6, none⟩ = some (.int .i64 df6) ∧ Below w7.heap.size w7 w') (ds := []) #[false, false, false, false, false, false, false, false, false, false, false, false] (by kernel_rfl) rfl rfl (HS.out _ (below_drew1 (Below.refl _ _))) (fun hHeld => ?_)
            refine pure_ (i := 0) (N := some 29) (v := ?_) (a' := ?_) #[true, false, false, false, false, false, false, false, false, false, false, false] rfl rfl (by kernel_rfl) (fun _ _ _ h => h) (Or.inl ⟨by rfl, ?_⟩) ?_ ?_
            rotate_left
            · intro w'
              go_simp
              with_reducible rfl
            rotate_left
            · simp only [Act.put, List.setIfInBounds_toArray, List.set_cons_zero, List.set_cons_succ, i64_w, i32_w]
              rfl
            refine take_ (i := 1) (N := some 30) (v := ?_) (a' := ?_) #[true, true, false, false, false, false, false, false, false, false, false, false] rfl rfl (by kernel_rfl) (fun _ _ _ h => h) (Or.inl ⟨by rfl, ?_⟩) hHeld ?_ ?_
            rotate_left
            · rintro w' ⟨s0, s1, s2⟩
              go_simp
              with_reducible rfl
            rotate_left
            · simp only [Act.put, List.setIfInBounds_toArray, List.set_cons_zero, List.set_cons_succ, i64_w, i32_w]
              rfl
            refine pure_ (i := 2) (N := some 31) (v := ?_) (a' := ?_) #[true, true, true, false, false, false, false, false, false, false, false, false] rfl rfl (by kernel_rfl) (fun _ _ _ h => h) (Or.inl ⟨by rfl, ?_⟩) ?_ ?_
            rotate_left
            · intro w'
              go_simp
              with_reducible rfl
            rotate_left
            · simp only [Act.put, List.setIfInBounds_toArray, List.set_cons_zero, List.set_cons_succ, i64_w, i32_w]
              rfl
            refine pure_ (i := 3) (N := some 32) (v := ?_) (a' := ?_) #[true, true, true, true, false, false, false, false, false, false, false, false] rfl rfl (by kernel_rfl) (fun _ _ _ h => h) (Or.inl ⟨by rfl, ?_⟩) ?_ ?_
            rotate_left
            · intro w'
              go_simp
              with_reducible rfl
            rotate_left
            · simp only [Act.put, List.setIfInBounds_toArray, List.set_cons_zero, List.set_cons_succ, i64_w, i32_w]
              rfl
            refine pure_ (i := 4) (N := some 33) (v := ?_) (a' := ?_) #[true, true, true, true, true, false, false, false, false, false, false, false] rfl rfl (by kernel_rfl) (fun _ _ _ h => h) (Or.inl ⟨by rfl, ?_⟩) ?_ ?_
            rotate_left
            · intro w'
              go_simp
              with_reducible rfl
            rotate_left
            · simp only [Act.put, List.setIfInBounds_toArray, List.set_cons_zero, List.set_cons_succ, i64_w, i32_w]
              rfl
            refine pure_ (i := 5) (N := some 34) (v := ?_) (a' := ?_) #[true, true, true, true, true, true, false, false, false, false, false, false] rfl rfl (by kernel_rfl) (fun _ _ _ h => h) (Or.inl ⟨by rfl, ?_⟩) ?_ ?_
            rotate_left
            · intro w'
              go_simp
              with_reducible rfl
            rotate_left
            · simp only [Act.put, List.setIfInBounds_toArray, List.set_cons_zero, List.set_cons_succ, i64_w, i32_w]
              rfl
            refine pure_ (i := 6) (N := some 35) (v := ?_) (a' := ?_) #[true, true, true, true, true, true, true, false, false, false, false, false] rfl rfl (by kernel_rfl) (fun _ _ _ h => h) (Or.inl ⟨by rfl, ?_⟩) ?_ ?_
            rotate_left
            · intro w'
              go_simp
              with_reducible rfl
            rotate_left
            · simp only [Act.put, List.setIfInBounds_toArray, List.set_cons_zero, List.set_cons_succ, i64_w, i32_w]
              rfl
            refine pure_ (i := 7) (N := some 36) (v := ?_) (a' := ?_) #[true, true, true, true, true, true, true, true, false, false, false, false] rfl rfl (by kernel_rfl) (fun _ _ _ h => h) (Or.inl ⟨by rfl, ?_⟩) ?_ ?_
            rotate_left
            · intro w'
              go_simp
              with_reducible rfl
            rotate_left
            · simp only [Act.put, List.setIfInBounds_toArray, List.set_cons_zero, List.set_cons_succ, i64_w, i32_w]
              rfl
            refine take_ (i := 8) (N := some 37) (v := ?_) (a' := ?_) #[true, true, true, true, true, true, true, true, true, false, false, false] rfl rfl (by kernel_rfl) (fun _ _ _ h => h) (Or.inl ⟨by rfl, ?_⟩) hHeld ?_ ?_
            rotate_left
            · rintro w' ⟨s0, s1, s2⟩
              go_simp
              with_reducible rfl
            rotate_left
            · simp only [Act.put, List.setIfInBounds_toArray, List.set_cons_zero, List.set_cons_succ, i64_w, i32_w]
              rfl
            refine one_ (i := 9) (N := some 38) #[true, true, true, true, true, true, true, true, true, true, false, false] rfl rfl (by kernel_rfl) (by decide) (fun K hK => ?_)
            have hbl := hHeld.2.2
            refine goes_ Try.func72 (by kernel_rfl) rfl #[.slice A5 ld.length c5, .int .i64 df6] (by rfl) rfl rfl (by simp only [List.map_toArray, List.map_cons, List.map_nil]; rfl) ?_
            with_reducible refine (HC5.out _ hbl).mono ?_
            rintro e w8 ⟨rfl, hb⟩
            refine ⟨_, rfl, ?_⟩
            have hb8 := hbl.trans (hb.mono hbl.size)
            clear hb hbl
            refine hK.out _ _ (HS.out _ hb8) (fun hHeld => ?_)
            clear hK K
            refine norm_ (a' := ?_) ?_ ?_
            rotate_left
            · show Act.put _ (some 38) _ = _
              simp only [Act.put, List.setIfInBounds_toArray, List.set_cons_zero, List.set_cons_succ, i64_w, i32_w]
              rfl
            refine pure_ (i := 10) (N := some 39) (v := ?_) (a' := ?_) #[true, true, true, true, true, true, true, true, true, true, true, false] rfl rfl (by kernel_rfl) (fun _ _ _ h => h) (Or.inl ⟨by rfl, ?_⟩) ?_ ?_
            rotate_left
            · intro w'
              go_simp
              with_reducible rfl
            rotate_left
            · simp only [Act.put, List.setIfInBounds_toArray, List.set_cons_zero, List.set_cons_succ, i64_w, i32_w]
              rfl
            refine pure_ (i := 11) (N := some 28) (v := ?_) (a' := ?_) #[true, true, true, true, true, true, true, true, true, true, true, true] rfl rfl (by kernel_rfl) (fun _ _ _ h => h) (Or.inl ⟨by rfl, ?_⟩) ?_ ?_
            rotate_left
            · intro w'
              go_simp
              with_reducible rfl
            rotate_left
            · simp only [Act.put, List.setIfInBounds_toArray, List.set_cons_zero, List.set_cons_succ, i64_w, i32_w]
              rfl
            refine done_ (by kernel_rfl) ?_
            -- BEHIND
            have HCA2 := Lib.hid (HCA.out _ hHeld.2.2)
            have HX := Lib.hid (H1.out.below hHeld.2.2)
            have m6 := hHeld.2.1
            clear hHeld HI HC5 HS H1 HCA HL0
            go_wp2_with fail
            refine HCA2.out.mono ?_
            rintro e w9 ⟨rfl, hb9⟩
            have HN := Lib.hid (note_s x w0 V G _ 8 i s w9 hlen (HX.out.below hb9))
            clear hb9 HCA2 HX
            go_wp2_with fail
            refine HN.out.mono ?_
            rintro e w10 ⟨⟨u, rfl⟩, hst, hre⟩
            have HJ := Lib.hid (show SR x w0 G V (xs ++ pairAll x i l (k + 1)) w10 from by rw [HE.out, HB4.out, ← List.append_assoc]; exact hst)
            clear hst hre HN
            go_wp2
            go_roundw
            case rel => exact ⟨k + 1, by go_num, by omega, ⟨HJ.out⟩⟩
            case measure => simp [intOf]; omega
          · have b2 : decide (df6 ∈ l) = false := decide_eq_false h2
            have HB4 := Lib.hid (HB3.out.trans (if_neg h2))
            rw [b2] at HCA
            clear h2
            go_wp2_with fail
            -- REGION
            refine start_ (n := 12) (S := fun w' => w'.cell? ⟨Bd, 2, none⟩ = some (.int .i64 df2) ∧ w'.cell? ⟨Bd, 6, none⟩ = some (.int .i64 df6) ∧ Below w7.heap.size w7 w') (ds := []) #[false, false, false, false, false, false, false, false, false, false, false, false] (by kernel_rfl) rfl rfl (HS.out _ (below_drew1 (Below.refl _ _))) (fun hHeld => ?_)
            refine pure_ (i := 0) (N := some 29) (v := ?_) (a' := ?_) #[true, false, false, false, false, false, false, false, false, false, false, false] rfl rfl (by kernel_rfl) (fun _ _ _ h => h) (Or.inl ⟨by rfl, ?_⟩) ?_ ?_
            rotate_left
            · intro w'
              go_simp
              with_reducible rfl
            rotate_left
            · simp only [Act.put, List.setIfInBounds_toArray, List.set_cons_zero, List.set_cons_succ, i64_w, i32_w]
              rfl
            refine take_ (i := 1) (N := some 30) (v := ?_) (a' := ?_) #[true, true, false, false, false, false, false, false, false, false, false, false] rfl rfl (by kernel_rfl) (fun _ _ _ h => h) (Or.inl ⟨by rfl, ?_⟩) hHeld ?_ ?_
            rotate_left
            · rintro w' ⟨s0, s1, s2⟩
              go_simp
              with_reducible rfl
            rotate_left
            · simp only [Act.put, List.setIfInBounds_toArray, List.set_cons_zero, List.set_cons_succ, i64_w, i32_w]
              rfl
            refine pure_ (i := 2) (N := some 31) (v := ?_) (a' := ?_) #[true, true, true, false, false, false, false, false, false, false, false, false] rfl rfl (by kernel_rfl) (fun _ _ _ h => h) (Or.inl ⟨by rfl, ?_⟩) ?_ ?_
            rotate_left
            · intro w'
              go_simp
              with_reducible rfl
            rotate_left
            · simp only [Act.put, List.setIfInBounds_toArray, List.set_cons_zero, List.set_cons_succ, i64_w, i32_w]
              rfl
            refine pure_ (i := 3) (N := some 32) (v := ?_) (a' := ?_) #[true, true, true, true, false, false, false, false, false, false, false, false] rfl rfl (by kernel_rfl) (fun _ _ _ h => h) (Or.inl ⟨by rfl, ?_⟩) ?_ ?_
            rotate_left
            · intro w'
              go_simp
              with_reducible rfl
            rotate_left
            · simp only [Act.put, List.setIfInBounds_toArray, List.set_cons_zero, List.set_cons_succ, i64_w, i32_w]
              rfl
            refine pure_ (i := 4) (N := some 33) (v := ?_) (a' := ?_) #[true, true, true, true, true, false, false, false, false, false, false, false] rfl rfl (by kernel_rfl) (fun _ _ _ h => h) (Or.inl ⟨by rfl, ?_⟩) ?_ ?_
            rotate_left
            · intro w'
              go_simp
              with_reducible rfl
            rotate_left
            · simp only [Act.put, List.setIfInBounds_toArray, List.set_cons_zero, List.set_cons_succ, i64_w, i32_w]
              rfl
            refine pure_ (i := 5) (N := some 34) (v := ?_) (a' := ?_) #[true, true, true, true, true, true, false, false, false, false, false, false] rfl rfl (by kernel_rfl) (fun _ _ _ h => h) (Or.inl ⟨by rfl, ?_⟩) ?_ ?_
            rotate_left
            · intro w'
              go_simp
              with_reducible rfl
            rotate_left
            · simp only [Act.put, List.setIfInBounds_toArray, List.set_cons_zero, List.set_cons_succ, i64_w, i32_w]
              rfl
            refine pure_ (i := 6) (N := some 35) (v := ?_) (a' := ?_) #[true, true, true, true, true, true, true, false, false, false, false, false] rfl rfl (by kernel_rfl) (fun _ _ _ h => h) (Or.inl ⟨by rfl, ?_⟩) ?_ ?_
            rotate_left
            · intro w'
              go_simp
              with_reducible rfl
            rotate_left
            · simp only [Act.put, List.setIfInBounds_toArray, List.set_cons_zero, List.set_cons_succ, i64_w, i32_w]
              rfl
            refine pure_ (i := 7) (N := some 36) (v := ?_) (a' := ?_) #[true, true, true, true, true, true, true, true, false, false, false, false] rfl rfl (by kernel_rfl) (fun _ _ _ h => h) (Or.inl ⟨by rfl, ?_⟩) ?_ ?_
            rotate_left
            · intro w'
              go_simp
              with_reducible rfl
            rotate_left
            · simp only [Act.put, List.setIfInBounds_toArray, List.set_cons_zero, List.set_cons_succ, i64_w, i32_w]
              rfl
            refine take_ (i := 8) (N := some 37) (v := ?_) (a' := ?_) #[true, true, true, true, true, true, true, true, true, false, false, false] rfl rfl (by kernel_rfl) (fun _ _ _ h => h) (Or.inl ⟨by rfl, ?_⟩) hHeld ?_ ?_
            rotate_left
            · rintro w' ⟨s0, s1, s2⟩
              go_simp
              with_reducible rfl
            rotate_left
            · simp only [Act.put, List.setIfInBounds_toArray, List.set_cons_zero, List.set_cons_succ, i64_w, i32_w]
              rfl
            refine one_ (i := 9) (N := some 38) #[true, true, true, true, true, true, true, true, true, true, false, false] rfl rfl (by kernel_rfl) (by decide) (fun K hK => ?_)
            have hbl := hHeld.2.2
            refine goes_ Try.func72 (by kernel_rfl) rfl #[.slice A5 ld.length c5, .int .i64 df6] (by rfl) rfl rfl (by simp only [List.map_toArray, List.map_cons, List.map_nil]; rfl) ?_
            with_reducible refine (HC5.out _ hbl).mono ?_
            rintro e w8 ⟨rfl, hb⟩
            refine ⟨_, rfl, ?_⟩
            have hb8 := hbl.trans (hb.mono hbl.size)
            clear hb hbl
            refine hK.out _ _ (HS.out _ hb8) (fun hHeld => ?_)
            clear hK K
            refine norm_ (a' := ?_) ?_ ?_
            rotate_left
            · show Act.put _ (some 38) _ = _
              simp only [Act.put, List.setIfInBounds_toArray, List.set_cons_zero, List.set_cons_succ, i64_w, i32_w]
              rfl
            refine pure_ (i := 10) (N := some 39) (v := ?_) (a' := ?_) #[true, true, true, true, true, true, true, true, true, true, true, false] rfl rfl (by kernel_rfl) (fun _ _ _ h => h) (Or.inl ⟨by rfl, ?_⟩) ?_ ?_
            rotate_left
            · intro w'
              go_simp
              with_reducible rfl
            rotate_left
            · simp only [Act.put, List.setIfInBounds_toArray, List.set_cons_zero, List.set_cons_succ, i64_w, i32_w]
              rfl
            refine pure_ (i := 11) (N := some 28) (v := ?_) (a' := ?_) #[true, true, true, true, true, true, true, true, true, true, true, true] rfl rfl (by kernel_rfl) (fun _ _ _ h => h) (Or.inl ⟨by rfl, ?_⟩) ?_ ?_
            rotate_left
            · intro w'
              go_simp
              with_reducible rfl
            rotate_left
            · simp only [Act.put, List.setIfInBounds_toArray, List.set_cons_zero, List.set_cons_succ, i64_w, i32_w]
              rfl
            refine done_ (by kernel_rfl) ?_
            -- BEHIND
            have HCA2 := Lib.hid (HCA.out _ hHeld.2.2)
            have HX := Lib.hid (H1.out.below hHeld.2.2)
            have m6 := hHeld.2.1
            clear hHeld HI HC5 HS H1 HCA HL0
            go_wp2_with fail
            refine HCA2.out.mono ?_
            rintro e w9 ⟨rfl, hb9⟩
            have HN := Lib.hid (note_s x w0 V G _ 7 i s w9 hlen (HX.out.below hb9))
            clear hb9 HCA2 HX
            go_wp2_with fail
            refine HN.out.mono ?_
            rintro e w10 ⟨⟨u, rfl⟩, hst, hre⟩
            have HJ := Lib.hid (show SR x w0 G V (xs ++ pairAll x i l (k + 1)) w10 from by rw [HE.out, HB4.out, ← List.append_assoc]; exact hst)
            clear hst hre HN
            go_wp2
            go_roundw
            case rel => exact ⟨k + 1, by go_num, by omega, ⟨HJ.out⟩⟩
            case measure => simp [intOf]; omega
    · have bt : decide ((k : Int) < (l.length : Int)) = false := decide_eq_false (by omega)
      obtain rfl : k = l.length := by omega
      have HE := Lib.hid HI.out
      clear HI
      go_wp2
      go_end0
      exact ⟨⟨_, rfl⟩, HE.out⟩
end FeasWalk
end Go.Proofs.Ytlncbckpcmojpaa
