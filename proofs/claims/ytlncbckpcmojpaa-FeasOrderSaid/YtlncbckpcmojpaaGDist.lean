/- metric.Dist: its walk. -/
import Derived.Test.YtlncbckpcmojpaaMkb
import Derived.Test.YtlncbckpcmojpaaMka
import Derived.Lib.Hide
namespace Go.Proofs.Ytlncbckpcmojpaa
open Go.RowKit Go.Proofs.YtlncbckpcmojpaaW.PrintWords Go.Proofs.YtlncbckpcmojpaaW.PrintLast Go.Proofs.YtlncbckpcmojpaaW.PrintMore
set_option linter.unusedVariables false
set_option linter.unusedSimpArgs false
namespace DistWalk
open P
def I1 (v : Int) : Obj := .cells #[.int .i64 v] 3 (0, 0)
theorem cell_of {W : World} {g : Nat} {v : Int} (h : W.heap[g]? = some (I1 v)) : W.cell? ⟨g, 0, none⟩ = some (.int .i64 v) := (blk_cell h 0).trans rfl
theorem below_d {w : World} (n : Nat) : Below w.heap.size w (w.drewN n) := pw_below_drewN (Below.refl _ _) n
def knownB (m : Int) : Bool := decide (0 ≤ m) && decide (m ≤ 6)
theorem known_c (m : Int) (w : World) : Calls Try.prog 76 #[.int .i64 m] w fun e w' => e = .returned (.bool (knownB m)) ∧ Below w.heap.size w w' :=
  (metric_Known.calls m _ w (show metric_Known.f m = some (knownB m) by
    unfold metric_Known.f knownB
    by_cases h : 0 ≤ m
    · rw [if_pos h, decide_eq_true h]; rfl
    · rw [if_neg h, decide_eq_false h]; rfl)).mono (fun _ _ ⟨h, n, e⟩ => ⟨h, by rw [e]; exact below_d n⟩)
/-- Sides, as numbers without sign; the quotient by t that is nearest. -/
def nst (a t : Nat) : Nat := (a + t / 2) / t
def sq2 (x y : Int) : Nat := x.natAbs * x.natAbs + y.natAbs * y.natAbs
theorem abs_c (x : Int) (h : -200000000 ≤ x ∧ x ≤ 200000000) (w : World) : Calls Try.prog 83 #[.int .i64 x] w fun e w' => e = .returned (.int .i64 (x.natAbs : Int)) ∧ Below w.heap.size w w' :=
  metric_abs.calls x _ w (by unfold metric_abs.f; congr 1; unfold mx; rw [show wrap64 (-x) = -x by unfold wrap64; omega]; omega)
theorem nearest_c (a t : Nat) (ha : a ≤ 400000000) (ht : 1 ≤ t ∧ t ≤ 1000000) (w : World) : Calls Try.prog 82 #[.int .i64 (a : Int), .int .i64 (t : Int)] w fun e w' => e = .returned (.int .i64 (nst a t : Int)) ∧ Below w.heap.size w w' :=
  (metric_nearest.calls a t _ w (show metric_nearest.f a t = some (nst a t : Int) by
    unfold metric_nearest.f
    rw [if_neg (by omega)]
    congr 1
    have e1 : Int.tdiv (t : Int) 2 = ((t / 2 : Nat) : Int) := rfl
    have b1 : t / 2 ≤ 1000000 := by omega
    rw [e1, show wrap64 ((t / 2 : Nat) : Int) = ((t / 2 : Nat) : Int) by unfold wrap64; omega, show wrap64 ((a : Int) + ((t / 2 : Nat) : Int)) = ((a + t / 2 : Nat) : Int) by unfold wrap64; omega]
    have e2 : Int.tdiv ((a + t / 2 : Nat) : Int) (t : Int) = (((a + t / 2) / t : Nat) : Int) := rfl
    have b2 : (a + t / 2) / t ≤ a + t / 2 := Nat.div_le_self _ _
    rw [e2]
    unfold nst
    generalize (a + t / 2) / t = q at *
    unfold wrap64; omega)).mono (fun _ _ ⟨h, n, e⟩ => ⟨h, by rw [e]; exact below_d n⟩)
theorem nearest_i (v : Int) (a t : Nat) (hv : v = (a : Int)) (ha : a ≤ 400000000) (ht : 1 ≤ t ∧ t ≤ 1000000) (w : World) : Calls Try.prog 82 #[.int .i64 v, .int .i64 (t : Int)] w fun e w' => e = .returned (.int .i64 (nst a t : Int)) ∧ Below w.heap.size w w' := by
  subst hv; exact nearest_c a t ha ht w
set_option maxHeartbeats 1000000 in
set_option maxRecDepth 100000 in
theorem way1_c (gn gt : Nat) (n t r : Int) (W : World) (hn : W.heap[gn]? = some (I1 n)) (ht : W.heap[gt]? = some (I1 t)) (h : root_Near.f n t = some r) :
    Calls Try.prog 77 #[.pointer (some ⟨gn, 0, none⟩), .pointer (some ⟨gt, 0, none⟩)] W fun e w' => e = .returned (.int .i64 r) ∧ Below W.heap.size W w' := by
  have c0 := cell_of hn
  have c1 := cell_of ht
  have HH := Lib.hid h
  clear h hn ht
  go_enter Try.func77, Try.ntmps77
  go_wp2_with fail
  refine (root_Near.calls n t _ _ HH.out).mono ?_
  rintro e w2 ⟨rfl, hb⟩
  have HB := Aside0.mk hb
  clear hb
  go_wp2
  go_ret
  exact ⟨rfl, HB.out⟩
set_option maxHeartbeats 1000000 in
set_option maxRecDepth 100000 in
theorem way2_c (gn gt : Nat) (n t r : Int) (W : World) (hn : W.heap[gn]? = some (I1 n)) (ht : W.heap[gt]? = some (I1 t)) (h : root_Ceil.f n 1 t = some r) :
    Calls Try.prog 79 #[.pointer (some ⟨gn, 0, none⟩), .pointer (some ⟨gt, 0, none⟩)] W fun e w' => e = .returned (.int .i64 r) ∧ Below W.heap.size W w' := by
  have c0 := cell_of hn
  have c1 := cell_of ht
  have HH := Lib.hid h
  clear h hn ht
  go_enter Try.func79, Try.ntmps79
  go_wp2_with fail
  refine (root_Ceil.calls n 1 t _ _ HH.out).mono ?_
  rintro e w2 ⟨rfl, hb⟩
  have HB := Aside0.mk hb
  clear hb
  go_wp2
  go_ret
  exact ⟨rfl, HB.out⟩
set_option maxHeartbeats 1000000 in
set_option maxRecDepth 100000 in
theorem way5_c (gn gt : Nat) (n t r : Int) (W : World) (hn : W.heap[gn]? = some (I1 n)) (ht : W.heap[gt]? = some (I1 t)) (h : root_Ceil.f n 10 t = some r) :
    Calls Try.prog 85 #[.pointer (some ⟨gn, 0, none⟩), .pointer (some ⟨gt, 0, none⟩)] W fun e w' => e = .returned (.int .i64 r) ∧ Below W.heap.size W w' := by
  have c0 := cell_of hn
  have c1 := cell_of ht
  have HH := Lib.hid h
  clear h hn ht
  go_enter Try.func85, Try.ntmps85
  go_wp2_with fail
  refine (root_Ceil.calls n 10 t _ _ HH.out).mono ?_
  rintro e w2 ⟨rfl, hb⟩
  have HB := Aside0.mk hb
  clear hb
  go_wp2
  go_ret
  exact ⟨rfl, HB.out⟩
set_option maxHeartbeats 1000000 in
set_option maxRecDepth 100000 in
theorem way6_c (gn gt : Nat) (n t r : Int) (W : World) (hn : W.heap[gn]? = some (I1 n)) (ht : W.heap[gt]? = some (I1 t)) (h : root_Down.f n 10 t = some r) :
    Calls Try.prog 86 #[.pointer (some ⟨gn, 0, none⟩), .pointer (some ⟨gt, 0, none⟩)] W fun e w' => e = .returned (.int .i64 r) ∧ Below W.heap.size W w' := by
  have c0 := cell_of hn
  have c1 := cell_of ht
  have HH := Lib.hid h
  clear h hn ht
  go_enter Try.func86, Try.ntmps86
  go_wp2_with fail
  refine (root_Down.calls n 10 t _ _ HH.out).mono ?_
  rintro e w2 ⟨rfl, hb⟩
  have HB := Aside0.mk hb
  clear hb
  go_wp2
  go_ret
  exact ⟨rfl, HB.out⟩
set_option maxHeartbeats 1000000 in
set_option maxRecDepth 100000 in
theorem way3_c (gx gy gt : Nat) (x y : Int) (t : Nat) (W : World) (hx : W.heap[gx]? = some (I1 x)) (hy : W.heap[gy]? = some (I1 y)) (ht : W.heap[gt]? = some (I1 t)) (bx : -200000000 ≤ x ∧ x ≤ 200000000) (by_ : -200000000 ≤ y ∧ y ≤ 200000000) (bt : 1 ≤ t ∧ t ≤ 1000000) :
    Calls Try.prog 81 #[.pointer (some ⟨gx, 0, none⟩), .pointer (some ⟨gy, 0, none⟩), .pointer (some ⟨gt, 0, none⟩)] W fun e w' => e = .returned (.int .i64 (nst (x.natAbs + y.natAbs) t : Int)) ∧ Below W.heap.size W w' := by
  have c0 := cell_of hx
  have c1 := cell_of hy
  have c2 := cell_of ht
  have HA := Lib.hid (abs_c x bx)
  have HC := Lib.hid (abs_c y by_)
  have HN := Lib.hid (fun v a (hv : v = ((a : Nat) : Int)) ha W' => nearest_i v a t hv ha bt W')
  have bX : (x.natAbs : Int) ≤ 200000000 := by omega
  have bY : (y.natAbs : Int) ≤ 200000000 := by omega
  have HX := Lib.hid hx
  have HY := Lib.hid hy
  have HT := Lib.hid ht
  clear hx hy ht bx by_ bt c0 c1 c2
  generalize x.natAbs = X at *
  generalize y.natAbs = Y at *
  have hs : wrap64 ((X : Int) + (Y : Int)) = ((X + Y : Nat) : Int) := by unfold wrap64; omega
  go_enter Try.func81, Try.ntmps81
  go_wp2_with fail
  refine start_ (n := 8) (S := fun w' => w'.cell? ⟨gx, 0, none⟩ = some (.int .i64 x) ∧ w'.cell? ⟨gy, 0, none⟩ = some (.int .i64 y) ∧ w'.cell? ⟨gt, 0, none⟩ = some (.int .i64 (t : Int)) ∧ w'.heap[gx]? = some (I1 x) ∧ w'.heap[gy]? = some (I1 y) ∧ w'.heap[gt]? = some (I1 t) ∧ Below W.heap.size W w') (ds := []) #[false, false, false, false, false, false, false, false] (by kernel_rfl) rfl rfl ⟨cell_of (blk_drew HX.out), cell_of (blk_drew HY.out), cell_of (blk_drew HT.out), blk_drew HX.out, blk_drew HY.out, blk_drew HT.out, below_drew1 (Below.refl _ _)⟩ (fun hHeld => ?_)
  refine take_ (i := 0) (N := some 4) (v := ?_) (a' := ?_) #[true, false, false, false, false, false, false, false] rfl rfl (by kernel_rfl) (fun _ _ _ h => h) (Or.inl ⟨by rfl, ?_⟩) hHeld ?_ ?_
  rotate_left
  · rintro w' ⟨s0, s1, s2, s3, s4, s5, s6⟩
    go_simp
    with_reducible rfl
  rotate_left
  · simp only [Act.put, List.setIfInBounds_toArray, List.set_cons_zero, List.set_cons_succ, i64_w, i32_w]
    rfl
  refine take_ (i := 2) (N := some 6) (v := ?_) (a' := ?_) #[true, false, true, false, false, false, false, false] rfl rfl (by kernel_rfl) (fun _ _ _ h => h) (Or.inl ⟨by rfl, ?_⟩) hHeld ?_ ?_
  rotate_left
  · rintro w' ⟨s0, s1, s2, s3, s4, s5, s6⟩
    go_simp
    with_reducible rfl
  rotate_left
  · simp only [Act.put, List.setIfInBounds_toArray, List.set_cons_zero, List.set_cons_succ, i64_w, i32_w]
    rfl
  refine take_ (i := 5) (N := some 9) (v := ?_) (a' := ?_) #[true, false, true, false, false, true, false, false] rfl rfl (by kernel_rfl) (fun _ _ _ h => h) (Or.inl ⟨by rfl, ?_⟩) hHeld ?_ ?_
  rotate_left
  · rintro w' ⟨s0, s1, s2, s3, s4, s5, s6⟩
    go_simp
    with_reducible rfl
  rotate_left
  · simp only [Act.put, List.setIfInBounds_toArray, List.set_cons_zero, List.set_cons_succ, i64_w, i32_w]
    rfl
  refine one_ (i := 1) (N := some 5) #[true, true, true, false, false, true, false, false] rfl rfl (by kernel_rfl) (by decide) (fun K hK => ?_)
  refine goes_ Try.func83 (by kernel_rfl) rfl #[.int .i64 x] (by rfl) rfl rfl (by simp only [List.map_toArray, List.map_cons, List.map_nil]; rfl) ?_
  with_reducible refine (HA.out _).mono ?_
  rintro e w2 ⟨rfl, hb2⟩
  refine ⟨_, rfl, ?_⟩
  refine hK.out _ _ ⟨cell_of (blk_below hHeld.2.2.2.1 hb2), cell_of (blk_below hHeld.2.2.2.2.1 hb2), cell_of (blk_below hHeld.2.2.2.2.2.1 hb2), blk_below hHeld.2.2.2.1 hb2, blk_below hHeld.2.2.2.2.1 hb2, blk_below hHeld.2.2.2.2.2.1 hb2, below_step hHeld.2.2.2.2.2.2 hb2⟩ (fun hHeld => ?_)
  clear hK K
  refine norm_ (a' := ?_) ?_ ?_
  rotate_left
  · show Act.put _ (some 5) _ = _
    simp only [Act.put, List.setIfInBounds_toArray, List.set_cons_zero, List.set_cons_succ, i64_w, i32_w]
    rfl
  refine one_ (i := 3) (N := some 7) #[true, true, true, true, false, true, false, false] rfl rfl (by kernel_rfl) (by decide) (fun K hK => ?_)
  refine goes_ Try.func83 (by kernel_rfl) rfl #[.int .i64 y] (by rfl) rfl rfl (by simp only [List.map_toArray, List.map_cons, List.map_nil]; rfl) ?_
  with_reducible refine (HC.out _).mono ?_
  rintro e w3 ⟨rfl, hb3⟩
  refine ⟨_, rfl, ?_⟩
  refine hK.out _ _ ⟨cell_of (blk_below hHeld.2.2.2.1 hb3), cell_of (blk_below hHeld.2.2.2.2.1 hb3), cell_of (blk_below hHeld.2.2.2.2.2.1 hb3), blk_below hHeld.2.2.2.1 hb3, blk_below hHeld.2.2.2.2.1 hb3, blk_below hHeld.2.2.2.2.2.1 hb3, below_step hHeld.2.2.2.2.2.2 hb3⟩ (fun hHeld => ?_)
  clear hK K
  refine norm_ (a' := ?_) ?_ ?_
  rotate_left
  · show Act.put _ (some 7) _ = _
    simp only [Act.put, List.setIfInBounds_toArray, List.set_cons_zero, List.set_cons_succ, i64_w, i32_w]
    rfl
  refine pure_ (i := 4) (N := some 8) (v := ?_) (a' := ?_) #[true, true, true, true, true, true, false, false] rfl rfl (by kernel_rfl) (fun _ _ _ h => h) (Or.inl ⟨by rfl, ?_⟩) ?_ ?_
  rotate_left
  · intro w'
    go_simp
    with_reducible rfl
  rotate_left
  · simp only [Act.put, List.setIfInBounds_toArray, List.set_cons_zero, List.set_cons_succ, i64_w, i32_w]
    rfl
  refine one_ (i := 6) (N := some 10) #[true, true, true, true, true, true, true, false] rfl rfl (by kernel_rfl) (by decide) (fun K hK => ?_)
  refine goes_ Try.func82 (by kernel_rfl) rfl #[.int .i64 (wrap64 ((X : Int) + (Y : Int))), .int .i64 (t : Int)] (by rfl) rfl rfl (by simp only [List.map_toArray, List.map_cons, List.map_nil]; rfl) ?_
  with_reducible refine (HN.out _ (X + Y) (by first | exact hs | rfl) (by omega) _).mono ?_
  rintro e w4 ⟨rfl, hb4⟩
  refine ⟨_, rfl, ?_⟩
  refine hK.out _ _ ⟨cell_of (blk_below hHeld.2.2.2.1 hb4), cell_of (blk_below hHeld.2.2.2.2.1 hb4), cell_of (blk_below hHeld.2.2.2.2.2.1 hb4), blk_below hHeld.2.2.2.1 hb4, blk_below hHeld.2.2.2.2.1 hb4, blk_below hHeld.2.2.2.2.2.1 hb4, below_step hHeld.2.2.2.2.2.2 hb4⟩ (fun hHeld => ?_)
  clear hK K
  refine norm_ (a' := ?_) ?_ ?_
  rotate_left
  · show Act.put _ (some 10) _ = _
    simp only [Act.put, List.setIfInBounds_toArray, List.set_cons_zero, List.set_cons_succ, i64_w, i32_w]
    rfl
  refine pure_ (i := 7) (N := some 3) (v := ?_) (a' := ?_) #[true, true, true, true, true, true, true, true] rfl rfl (by kernel_rfl) (fun _ _ _ h => h) (Or.inl ⟨by rfl, ?_⟩) ?_ ?_
  rotate_left
  · intro w'
    go_simp
    with_reducible rfl
  rotate_left
  · simp only [Act.put, List.setIfInBounds_toArray, List.set_cons_zero, List.set_cons_succ, i64_w, i32_w]
    rfl
  refine done_ (by kernel_rfl) ?_

  have HE := Aside0.mk hHeld.2.2.2.2.2.2
  go_wp2
  go_ret
  exact ⟨rfl, HE.out⟩
set_option maxHeartbeats 1000000 in
set_option maxRecDepth 100000 in
theorem way4_c (gx gy gt : Nat) (x y : Int) (t : Nat) (W : World) (hx : W.heap[gx]? = some (I1 x)) (hy : W.heap[gy]? = some (I1 y)) (ht : W.heap[gt]? = some (I1 t)) (bx : -200000000 ≤ x ∧ x ≤ 200000000) (by_ : -200000000 ≤ y ∧ y ≤ 200000000) (bt : 1 ≤ t ∧ t ≤ 1000000) :
    Calls Try.prog 84 #[.pointer (some ⟨gx, 0, none⟩), .pointer (some ⟨gy, 0, none⟩), .pointer (some ⟨gt, 0, none⟩)] W fun e w' => e = .returned (.int .i64 (nst (max x.natAbs y.natAbs) t : Int)) ∧ Below W.heap.size W w' := by
  have c0 := cell_of hx
  have c1 := cell_of hy
  have c2 := cell_of ht
  have HA := Lib.hid (abs_c x bx)
  have HC := Lib.hid (abs_c y by_)
  have HN := Lib.hid (fun v a (hv : v = ((a : Nat) : Int)) ha W' => nearest_i v a t hv ha bt W')
  have bX : (x.natAbs : Int) ≤ 200000000 := by omega
  have bY : (y.natAbs : Int) ≤ 200000000 := by omega
  have HX := Lib.hid hx
  have HY := Lib.hid hy
  have HT := Lib.hid ht
  clear hx hy ht bx by_ bt c0 c1 c2
  generalize x.natAbs = X at *
  generalize y.natAbs = Y at *
  have hs : (if X < Y then (Y : Int) else (X : Int)) = ((max X Y : Nat) : Int) := by split <;> omega
  go_enter Try.func84, Try.ntmps84
  go_wp2_with fail
  refine start_ (n := 8) (S := fun w' => w'.cell? ⟨gx, 0, none⟩ = some (.int .i64 x) ∧ w'.cell? ⟨gy, 0, none⟩ = some (.int .i64 y) ∧ w'.cell? ⟨gt, 0, none⟩ = some (.int .i64 (t : Int)) ∧ w'.heap[gx]? = some (I1 x) ∧ w'.heap[gy]? = some (I1 y) ∧ w'.heap[gt]? = some (I1 t) ∧ Below W.heap.size W w') (ds := []) #[false, false, false, false, false, false, false, false] (by kernel_rfl) rfl rfl ⟨cell_of (blk_drew HX.out), cell_of (blk_drew HY.out), cell_of (blk_drew HT.out), blk_drew HX.out, blk_drew HY.out, blk_drew HT.out, below_drew1 (Below.refl _ _)⟩ (fun hHeld => ?_)
  refine take_ (i := 0) (N := some 4) (v := ?_) (a' := ?_) #[true, false, false, false, false, false, false, false] rfl rfl (by kernel_rfl) (fun _ _ _ h => h) (Or.inl ⟨by rfl, ?_⟩) hHeld ?_ ?_
  rotate_left
  · rintro w' ⟨s0, s1, s2, s3, s4, s5, s6⟩
    go_simp
    with_reducible rfl
  rotate_left
  · simp only [Act.put, List.setIfInBounds_toArray, List.set_cons_zero, List.set_cons_succ, i64_w, i32_w]
    rfl
  refine take_ (i := 2) (N := some 6) (v := ?_) (a' := ?_) #[true, false, true, false, false, false, false, false] rfl rfl (by kernel_rfl) (fun _ _ _ h => h) (Or.inl ⟨by rfl, ?_⟩) hHeld ?_ ?_
  rotate_left
  · rintro w' ⟨s0, s1, s2, s3, s4, s5, s6⟩
    go_simp
    with_reducible rfl
  rotate_left
  · simp only [Act.put, List.setIfInBounds_toArray, List.set_cons_zero, List.set_cons_succ, i64_w, i32_w]
    rfl
  refine take_ (i := 5) (N := some 9) (v := ?_) (a' := ?_) #[true, false, true, false, false, true, false, false] rfl rfl (by kernel_rfl) (fun _ _ _ h => h) (Or.inl ⟨by rfl, ?_⟩) hHeld ?_ ?_
  rotate_left
  · rintro w' ⟨s0, s1, s2, s3, s4, s5, s6⟩
    go_simp
    with_reducible rfl
  rotate_left
  · simp only [Act.put, List.setIfInBounds_toArray, List.set_cons_zero, List.set_cons_succ, i64_w, i32_w]
    rfl
  refine one_ (i := 1) (N := some 5) #[true, true, true, false, false, true, false, false] rfl rfl (by kernel_rfl) (by decide) (fun K hK => ?_)
  refine goes_ Try.func83 (by kernel_rfl) rfl #[.int .i64 x] (by rfl) rfl rfl (by simp only [List.map_toArray, List.map_cons, List.map_nil]; rfl) ?_
  with_reducible refine (HA.out _).mono ?_
  rintro e w2 ⟨rfl, hb2⟩
  refine ⟨_, rfl, ?_⟩
  refine hK.out _ _ ⟨cell_of (blk_below hHeld.2.2.2.1 hb2), cell_of (blk_below hHeld.2.2.2.2.1 hb2), cell_of (blk_below hHeld.2.2.2.2.2.1 hb2), blk_below hHeld.2.2.2.1 hb2, blk_below hHeld.2.2.2.2.1 hb2, blk_below hHeld.2.2.2.2.2.1 hb2, below_step hHeld.2.2.2.2.2.2 hb2⟩ (fun hHeld => ?_)
  clear hK K
  refine norm_ (a' := ?_) ?_ ?_
  rotate_left
  · show Act.put _ (some 5) _ = _
    simp only [Act.put, List.setIfInBounds_toArray, List.set_cons_zero, List.set_cons_succ, i64_w, i32_w]
    rfl
  refine one_ (i := 3) (N := some 7) #[true, true, true, true, false, true, false, false] rfl rfl (by kernel_rfl) (by decide) (fun K hK => ?_)
  refine goes_ Try.func83 (by kernel_rfl) rfl #[.int .i64 y] (by rfl) rfl rfl (by simp only [List.map_toArray, List.map_cons, List.map_nil]; rfl) ?_
  with_reducible refine (HC.out _).mono ?_
  rintro e w3 ⟨rfl, hb3⟩
  refine ⟨_, rfl, ?_⟩
  refine hK.out _ _ ⟨cell_of (blk_below hHeld.2.2.2.1 hb3), cell_of (blk_below hHeld.2.2.2.2.1 hb3), cell_of (blk_below hHeld.2.2.2.2.2.1 hb3), blk_below hHeld.2.2.2.1 hb3, blk_below hHeld.2.2.2.2.1 hb3, blk_below hHeld.2.2.2.2.2.1 hb3, below_step hHeld.2.2.2.2.2.2 hb3⟩ (fun hHeld => ?_)
  clear hK K
  refine norm_ (a' := ?_) ?_ ?_
  rotate_left
  · show Act.put _ (some 7) _ = _
    simp only [Act.put, List.setIfInBounds_toArray, List.set_cons_zero, List.set_cons_succ, i64_w, i32_w]
    rfl
  refine pure_ (i := 4) (N := some 8) (v := ?_) (a' := ?_) #[true, true, true, true, true, true, false, false] rfl rfl (by kernel_rfl) (fun _ _ _ h => h) (Or.inl ⟨by rfl, ?_⟩) ?_ ?_
  rotate_left
  · intro w'
    go_simp
    with_reducible rfl
  rotate_left
  · simp only [Act.put, List.setIfInBounds_toArray, List.set_cons_zero, List.set_cons_succ, i64_w, i32_w]
    rfl
  refine one_ (i := 6) (N := some 10) #[true, true, true, true, true, true, true, false] rfl rfl (by kernel_rfl) (by decide) (fun K hK => ?_)
  refine goes_ Try.func82 (by kernel_rfl) rfl #[.int .i64 (((max X Y : Nat) : Int)), .int .i64 (t : Int)] (by rfl) rfl rfl (by simp only [List.map_toArray, List.map_cons, List.map_nil]; rfl) ?_
  with_reducible refine (HN.out _ (max X Y) (by first | exact hs | rfl) (by omega) _).mono ?_
  rintro e w4 ⟨rfl, hb4⟩
  refine ⟨_, rfl, ?_⟩
  refine hK.out _ _ ⟨cell_of (blk_below hHeld.2.2.2.1 hb4), cell_of (blk_below hHeld.2.2.2.2.1 hb4), cell_of (blk_below hHeld.2.2.2.2.2.1 hb4), blk_below hHeld.2.2.2.1 hb4, blk_below hHeld.2.2.2.2.1 hb4, blk_below hHeld.2.2.2.2.2.1 hb4, below_step hHeld.2.2.2.2.2.2 hb4⟩ (fun hHeld => ?_)
  clear hK K
  refine norm_ (a' := ?_) ?_ ?_
  rotate_left
  · show Act.put _ (some 10) _ = _
    simp only [Act.put, List.setIfInBounds_toArray, List.set_cons_zero, List.set_cons_succ, i64_w, i32_w]
    rfl
  refine pure_ (i := 7) (N := some 3) (v := ?_) (a' := ?_) #[true, true, true, true, true, true, true, true] rfl rfl (by kernel_rfl) (fun _ _ _ h => h) (Or.inl ⟨by rfl, ?_⟩) ?_ ?_
  rotate_left
  · intro w'
    go_simp
    with_reducible rfl
  rotate_left
  · simp only [Act.put, List.setIfInBounds_toArray, List.set_cons_zero, List.set_cons_succ, i64_w, i32_w]
    rfl
  refine done_ (by kernel_rfl) ?_

  have HE := Aside0.mk hHeld.2.2.2.2.2.2
  go_wp2
  go_ret
  exact ⟨rfl, HE.out⟩
theorem store_nil (P : Program) (w : World) (a : Addr) (m : Mode) : Sem.run P (store a Value.nilFunc m) w =
      match w.cell? a with
      | some _ =>
        if w.frozen? a = true then
          Result.halt (Halt.unsupported (Unsupported.unsafePointer "a write to bytes that a string shares")) w
        else Result.ok () (w.setCell a Value.nilFunc)
      | none =>
        match World.farStore P w a Value.nilFunc (m == Mode.atomic) with
        | Except.ok (w', _) => Result.ok () w'
        | Except.error h => Result.halt h w := run_store P w a _ m rfl
theorem store_func (P : Program) (w : World) (a : Addr) (f : Fn) (x y : Array Value) (m : Mode) : Sem.run P (store a (Value.func f x y) m) w =
      match w.cell? a with
      | some _ =>
        if w.frozen? a = true then
          Result.halt (Halt.unsupported (Unsupported.unsafePointer "a write to bytes that a string shares")) w
        else Result.ok () (w.setCell a (Value.func f x y))
      | none =>
        match World.farStore P w a (Value.func f x y) (m == Mode.atomic) with
        | Except.ok (w', _) => Result.ok () w'
        | Except.error h => Result.halt h w := run_store P w a _ m rfl
attribute [local go_sem] store_nil store_func
/-- A power of ten. -/
def ten (k : Nat) : Nat := 10 ^ k
theorem ten_le {k : Nat} (h : k ≤ 6) : 1 ≤ ten k ∧ ten k ≤ 1000000 := by
  have : k = 0 ∨ k = 1 ∨ k = 2 ∨ k = 3 ∨ k = 4 ∨ k = 5 ∨ k = 6 := by omega
  rcases this with rfl | rfl | rfl | rfl | rfl | rfl | rfl <;> decide
theorem ten_succ (k : Nat) : ten (k + 1) = ten k * 10 := Nat.pow_succ ..
/-- Dist's variables. -/
def DSt (w : World) (x y t : Int) (W : World) : Prop := W.heap[w.heap.size]? = some (I1 x) ∧ W.heap[w.heap.size + 1]? = some (I1 y) ∧ W.heap[w.heap.size + 1 + 1]? = some (I1 t) ∧ Below w.heap.size w W
theorem DSt.put {w W : World} {x y t : Int} (h : DSt w x y t W) (u : Int) : DSt w x y u (W.setCell ⟨w.heap.size + 1 + 1, 0, none⟩ (.int .i64 u)) :=
  ⟨blk_far h.1 (by show w.heap.size ≠ w.heap.size + 1 + 1; omega) _, blk_far h.2.1 (by show w.heap.size + 1 ≠ w.heap.size + 1 + 1; omega) _, blk_put h.2.2.1 0 _ rfl, below_set h.2.2.2 (by omega)⟩
theorem DSt.cells {w W : World} {x y t : Int} (h : DSt w x y t W) : W.cell? ⟨w.heap.size, 0, none⟩ = some (.int .i64 x) ∧ W.cell? ⟨w.heap.size + 1, 0, none⟩ = some (.int .i64 y) ∧ W.cell? ⟨w.heap.size + 1 + 1, 0, none⟩ = some (.int .i64 t) ∧ W.frozen? ⟨w.heap.size + 1 + 1, 0, none⟩ = false :=
  ⟨cell_of h.1, cell_of h.2.1, cell_of h.2.2.1, blk_frozen h.2.2.1 0⟩
theorem DSt.start (w : World) (x y : Int) (nd : Nat) : DSt w x y 1 ((((w.alloc (I1 x)).alloc (I1 y)).drewN nd).alloc (I1 1)) := by
  have b0 := heap_alloc_new w (I1 x)
  have b1 := heap_alloc_new (w.alloc (I1 x)) (I1 y)
  have b2 := heap_alloc_new (((w.alloc (I1 x)).alloc (I1 y)).drewN nd) (I1 1)
  have e : (((w.alloc (I1 x)).alloc (I1 y)).drewN nd).heap.size = w.heap.size + 1 + 1 := by
    show ((w.alloc (I1 x)).alloc (I1 y)).heap.size = _
    rw [World.size_alloc, World.size_alloc]
  rw [World.size_alloc] at b1
  rw [e] at b2
  exact ⟨blk_alloc (blk_drewN (blk_alloc b0 _) nd) _, blk_alloc (blk_drewN b1 nd) _, b2, below_alloc (pw_below_drewN (below_alloc (below_alloc (Below.refl _ _) _) _) nd) _⟩
/-- The distance, in each metric. -/
def way (m : Int) (t : Nat) (x y : Int) : Nat :=
  if m = 1 then near (sq2 x y) t else if m = 2 then ceil (sq2 x y) 1 t else if m = 3 then nst (x.natAbs + y.natAbs) t else if m = 4 then nst (max x.natAbs y.natAbs) t else if m = 5 then ceil (sq2 x y) 10 t else down (sq2 x y) 10 t
def far (x : Int) : Prop := x < -200000000 ∨ 200000000 < x
instance (x : Int) : Decidable (far x) := by unfold far; infer_instance
theorem sq_int {x : Int} (h : ¬ far x) : wrap64 (x * x) = ((x.natAbs * x.natAbs : Nat) : Int) ∧ x.natAbs * x.natAbs ≤ 40000000000000000 := by
  unfold far at h
  have h1 : x.natAbs ≤ 200000000 := by omega
  have h2 : x.natAbs * x.natAbs ≤ 200000000 * 200000000 := Nat.mul_le_mul h1 h1
  have h3 : x * x = ((x.natAbs * x.natAbs : Nat) : Int) := by rw [Int.natAbs_mul_self]
  generalize x.natAbs * x.natAbs = q at *
  exact ⟨by rw [h3]; unfold wrap64; omega, by omega⟩
theorem sum_sq {x y : Int} (hx : ¬ far x) (hy : ¬ far y) : wrap64 (wrap64 (x * x) + wrap64 (y * y)) = (sq2 x y : Int) ∧ sq2 x y ≤ 80000000000000000 := by
  obtain ⟨a, b⟩ := sq_int hx
  obtain ⟨c, d⟩ := sq_int hy
  rw [a, c]
  unfold sq2
  generalize x.natAbs * x.natAbs = p at *
  generalize y.natAbs * y.natAbs = q at *
  exact ⟨by unfold wrap64; omega, by omega⟩
set_option maxHeartbeats 4000000 in
set_option maxRecDepth 100000 in
theorem arg_c (m s x y : Int) (w : World) (h : m ≤ 0 ∨ 6 < m ∨ s < 0 ∨ 6 < s) : Calls Try.prog 62 #[.int .i64 m, .int .i64 s, .int .i64 x, .int .i64 y] w fun e w' => e = .returned (.tuple #[.int .i64 0, .int .i64 1]) ∧ Below w.heap.size w w' := by
  have HB0 := Aside0.mk (below_alloc (below_alloc (Below.refl w.heap.size w) (.cells #[.int .i64 x] 3)) (.cells #[.int .i64 y] 3))
  by_cases c1 : m ≤ 0
  · have b1 : decide (m ≤ 0) = true := decide_eq_true c1
    clear h c1
    go_enter Try.func62, Try.ntmps62
    go_wp2
    go_ret2
    exact ⟨rfl, HB0.out⟩
  · have b1 : decide (m ≤ 0) = false := decide_eq_false c1
    have HK := Lib.hid (known_c m)
    by_cases c2 : m ≤ 6
    · have hk : knownB m = true := by unfold knownB; rw [decide_eq_true (by omega), decide_eq_true c2]; rfl
      rw [hk] at HK
      by_cases c3 : s < 0
      · have b3 : decide (s < 0) = true := decide_eq_true c3
        clear h c1 c2 c3 hk
        go_enter Try.func62, Try.ntmps62
        go_wp2_with fail
        refine (HK.out _).mono ?_
        rintro e w2 ⟨rfl, hb⟩
        have HB := Aside0.mk (below_step HB0.out hb)
        clear hb
        go_wp2
        go_ret2
        exact ⟨rfl, HB.out⟩
      · have b3 : decide (s < 0) = false := decide_eq_false c3
        have b4 : decide (s > 6) = true := decide_eq_true (by omega)
        clear h c1 c2 c3 hk
        go_enter Try.func62, Try.ntmps62
        go_wp2_with fail
        refine (HK.out _).mono ?_
        rintro e w2 ⟨rfl, hb⟩
        have HB := Aside0.mk (below_step HB0.out hb)
        clear hb
        go_wp2
        go_ret2
        exact ⟨rfl, HB.out⟩
    · have hk : knownB m = false := by unfold knownB; rw [decide_eq_false c2, Bool.and_false]
      rw [hk] at HK
      clear h c1 c2 hk
      go_enter Try.func62, Try.ntmps62
      go_wp2_with fail
      refine (HK.out _).mono ?_
      rintro e w2 ⟨rfl, hb⟩
      have HB := Aside0.mk (below_step HB0.out hb)
      clear hb
      go_wp2
      go_ret2
      exact ⟨rfl, HB.out⟩
set_option maxHeartbeats 4000000 in
set_option maxRecDepth 100000 in
theorem far_c (m s x y : Int) (w : World) (hm : 1 ≤ m ∧ m ≤ 6) (hs : 0 ≤ s ∧ s ≤ 6) (h : far x ∨ far y) : Calls Try.prog 62 #[.int .i64 m, .int .i64 s, .int .i64 x, .int .i64 y] w fun e w' => e = .returned (.tuple #[.int .i64 0, .int .i64 2]) ∧ Below w.heap.size w w' := by
  have HB0 := Aside0.mk (below_alloc (below_alloc (Below.refl w.heap.size w) (I1 x)) (I1 y))
  have b0 := blk_alloc (heap_alloc_new w (I1 x)) (I1 y)
  have b1 := heap_alloc_new (w.alloc (I1 x)) (I1 y)
  rw [World.size_alloc] at b1
  have HX := Lib.hid b0
  have HY := Lib.hid b1
  have k1 : decide (m ≤ 0) = false := decide_eq_false (by omega)
  have HK := Lib.hid (known_c m)
  have hk : knownB m = true := by unfold knownB; rw [decide_eq_true (by omega), decide_eq_true hm.2]; rfl
  rw [hk] at HK
  have k3 : decide (s < 0) = false := decide_eq_false (by omega)
  have k4 : decide (s > 6) = false := decide_eq_false (by omega)
  clear b0 b1 hk
  clear hm hs
  by_cases d1 : x < -200000000
  · have d2 := d1
    have d3 := d1
    have b5 : decide (x < -200000000) = true := decide_eq_true d1
    clear h d1 d2 d3
    go_enter Try.func62, Try.ntmps62
    go_wp2_with fail
    refine (HK.out _).mono ?_
    rintro e w2 ⟨rfl, hb⟩
    have HB := Aside0.mk (below_step HB0.out hb)
    have e0 := cell_of (blk_below HX.out hb)
    have e1 := cell_of (blk_below HY.out hb)
    clear hb
    go_wp2
    go_ret2
    exact ⟨rfl, HB.out⟩
  · have b5 : decide (x < -200000000) = false := decide_eq_false d1
    by_cases d2 : x > 200000000
    · have d3 := d2
      have b6 : decide (x > 200000000) = true := decide_eq_true d2
      clear h d1 d2 d3
      go_enter Try.func62, Try.ntmps62
      go_wp2_with fail
      refine (HK.out _).mono ?_
      rintro e w2 ⟨rfl, hb⟩
      have HB := Aside0.mk (below_step HB0.out hb)
      have e0 := cell_of (blk_below HX.out hb)
      have e1 := cell_of (blk_below HY.out hb)
      clear hb
      go_wp2
      go_ret2
      exact ⟨rfl, HB.out⟩
    · have b6 : decide (x > 200000000) = false := decide_eq_false d2
      by_cases d3 : y < -200000000
      · have b7 : decide (y < -200000000) = true := decide_eq_true d3
        clear h d1 d2 d3
        go_enter Try.func62, Try.ntmps62
        go_wp2_with fail
        refine (HK.out _).mono ?_
        rintro e w2 ⟨rfl, hb⟩
        have HB := Aside0.mk (below_step HB0.out hb)
        have e0 := cell_of (blk_below HX.out hb)
        have e1 := cell_of (blk_below HY.out hb)
        clear hb
        go_wp2
        go_ret2
        exact ⟨rfl, HB.out⟩
      · have b7 : decide (y < -200000000) = false := decide_eq_false d3
        have b8 : decide (y > 200000000) = true := decide_eq_true (by unfold far at h; omega)
        clear h d1 d2 d3
        go_enter Try.func62, Try.ntmps62
        go_wp2_with fail
        refine (HK.out _).mono ?_
        rintro e w2 ⟨rfl, hb⟩
        have HB := Aside0.mk (below_step HB0.out hb)
        have e0 := cell_of (blk_below HX.out hb)
        have e1 := cell_of (blk_below HY.out hb)
        clear hb
        go_wp2
        go_ret2
        exact ⟨rfl, HB.out⟩
set_option maxHeartbeats 4000000 in
set_option maxRecDepth 100000 in
theorem dist1_c (s : Nat) (x y : Int) (w : World) (hs : s ≤ 6) (hx : ¬ far x) (hy : ¬ far y) : Calls Try.prog 62 #[.int .i64 1, .int .i64 s, .int .i64 x, .int .i64 y] w fun e w' => e = .returned (.tuple #[.int .i64 (near (sq2 x y) (ten s) : Nat), .int .i64 0]) ∧ Below w.heap.size w w' := by
  have HK := Lib.hid (show metric_Known.f 1 = some true from rfl)
  have k3 : decide ((s : Int) < 0) = false := decide_eq_false (by omega)
  have k4 : decide ((s : Int) > 6) = false := decide_eq_false (by omega)
  obtain ⟨hsum, hq⟩ := sum_sq hx hy
  have ht := ten_le hs
  unfold far at hx hy
  have b5 : decide (x < -200000000) = false := decide_eq_false (by omega)
  have b6 : decide (x > 200000000) = false := decide_eq_false (by omega)
  have b7 : decide (y < -200000000) = false := decide_eq_false (by omega)
  have b8 : decide (y > 200000000) = false := decide_eq_false (by omega)
  have HSum := Lib.hid hsum
  have HR := Lib.hid (show root_Near.f (sq2 x y : Int) (ten s : Int) = some ((near (sq2 x y) (ten s) : Nat) : Int) from near_eq (by omega) (by omega))
  clear hx hy hsum ht hq
  go_enter Try.func62, Try.ntmps62
  go_wp2_with fail
  refine (metric_Known.calls _ _ _ HK.out).mono ?_
  rintro e w2 ⟨rfl, ⟨nd, rfl⟩⟩
  have HD := Aside0.mk (DSt.start w x y nd)
  go_wp2_with fail
  go_loopw [43] (fun v wr => ∃ k : Nat, v = .int .i64 k ∧ k ≤ s ∧ Aside0 (DSt w x y (ten k : Int) wr)) (fun v _ => s - (intOf v).toNat)
  case atStart => exact ⟨0, rfl, Nat.zero_le _, HD⟩
  case round =>
    obtain ⟨k, rfl, hk, HK2⟩ := hrel
    clear HD
    obtain ⟨c0, c1, c2, f2⟩ := HK2.out.cells
    by_cases hlt : k < s
    · have hb := (ten_le (show k ≤ 6 by omega)).2
      have HN := Aside0.mk (show DSt w x y (ten (k + 1) : Int) (wr.setCell ⟨w.heap.size + 1 + 1, 0, none⟩ (.int .i64 (wrap64 ((ten k : Int) * 10)))) from by
        rw [show wrap64 ((ten k : Int) * 10) = (ten (k + 1) : Int) by rw [ten_succ]; unfold wrap64; omega]
        exact HK2.out.put _)
      rw [show wrap64 ((ten k : Int) * 10) = (ten k : Int) * 10 by unfold wrap64; omega] at HN
      generalize ten k = p at *
      go_wp2_with fail
      go_roundw
      case rel => exact ⟨k + 1, by go_num, by omega, HN⟩
      case measure => simp [intOf]; omega
    · obtain rfl : k = s := by omega
      have hlt1 : w.heap.size < wr.heap.size := blk_lt HK2.out.1
      have hlt2 : w.heap.size + 1 < wr.heap.size := blk_lt HK2.out.2.1
      have hlt3 : w.heap.size + 1 + 1 < wr.heap.size := blk_lt HK2.out.2.2.1
      have hsq := HSum.out
      go_wp2_with fail
      have hT := blk_alloc (blk_alloc HK2.out.2.2.1 (I1 (sq2 x y : Int))) (.cells #[.nilFunc, .func (.func 77) #[] #[.pointer (some ⟨wr.heap.size, 0, none⟩), .pointer (some ⟨w.heap.size + 1 + 1, 0, none⟩)], .func (.func 79) #[] #[.pointer (some ⟨wr.heap.size, 0, none⟩), .pointer (some ⟨w.heap.size + 1 + 1, 0, none⟩)], .func (.func 81) #[] #[.pointer (some ⟨w.heap.size, 0, none⟩), .pointer (some ⟨w.heap.size + 1, 0, none⟩), .pointer (some ⟨w.heap.size + 1 + 1, 0, none⟩)], .func (.func 84) #[] #[.pointer (some ⟨w.heap.size, 0, none⟩), .pointer (some ⟨w.heap.size + 1, 0, none⟩), .pointer (some ⟨w.heap.size + 1 + 1, 0, none⟩)], .func (.func 85) #[] #[.pointer (some ⟨wr.heap.size, 0, none⟩), .pointer (some ⟨w.heap.size + 1 + 1, 0, none⟩)], .func (.func 86) #[] #[.pointer (some ⟨wr.heap.size, 0, none⟩), .pointer (some ⟨w.heap.size + 1 + 1, 0, none⟩)]] 113)
      have hN := blk_alloc (heap_alloc_new wr (I1 (sq2 x y : Int))) (.cells #[.nilFunc, .func (.func 77) #[] #[.pointer (some ⟨wr.heap.size, 0, none⟩), .pointer (some ⟨w.heap.size + 1 + 1, 0, none⟩)], .func (.func 79) #[] #[.pointer (some ⟨wr.heap.size, 0, none⟩), .pointer (some ⟨w.heap.size + 1 + 1, 0, none⟩)], .func (.func 81) #[] #[.pointer (some ⟨w.heap.size, 0, none⟩), .pointer (some ⟨w.heap.size + 1, 0, none⟩), .pointer (some ⟨w.heap.size + 1 + 1, 0, none⟩)], .func (.func 84) #[] #[.pointer (some ⟨w.heap.size, 0, none⟩), .pointer (some ⟨w.heap.size + 1, 0, none⟩), .pointer (some ⟨w.heap.size + 1 + 1, 0, none⟩)], .func (.func 85) #[] #[.pointer (some ⟨wr.heap.size, 0, none⟩), .pointer (some ⟨w.heap.size + 1 + 1, 0, none⟩)], .func (.func 86) #[] #[.pointer (some ⟨wr.heap.size, 0, none⟩), .pointer (some ⟨w.heap.size + 1 + 1, 0, none⟩)]] 113)
      refine (way1_c _ _ _ _ _ _ hN hT HR.out).mono ?_
      rintro e w5 ⟨rfl, hb⟩
      have HE := Aside0.mk (below_step (below_alloc (below_alloc HK2.out.2.2.2 _) _) hb)
      clear hb
      go_wp2
      go_ret2
      exact ⟨rfl, HE.out⟩
set_option maxHeartbeats 4000000 in
set_option maxRecDepth 100000 in
theorem dist2_c (s : Nat) (x y : Int) (w : World) (hs : s ≤ 6) (hx : ¬ far x) (hy : ¬ far y) : Calls Try.prog 62 #[.int .i64 2, .int .i64 s, .int .i64 x, .int .i64 y] w fun e w' => e = .returned (.tuple #[.int .i64 (ceil (sq2 x y) 1 (ten s) : Nat), .int .i64 0]) ∧ Below w.heap.size w w' := by
  have HK := Lib.hid (show metric_Known.f 2 = some true from rfl)
  have k3 : decide ((s : Int) < 0) = false := decide_eq_false (by omega)
  have k4 : decide ((s : Int) > 6) = false := decide_eq_false (by omega)
  obtain ⟨hsum, hq⟩ := sum_sq hx hy
  have ht := ten_le hs
  unfold far at hx hy
  have b5 : decide (x < -200000000) = false := decide_eq_false (by omega)
  have b6 : decide (x > 200000000) = false := decide_eq_false (by omega)
  have b7 : decide (y < -200000000) = false := decide_eq_false (by omega)
  have b8 : decide (y > 200000000) = false := decide_eq_false (by omega)
  have HSum := Lib.hid hsum
  have HR := Lib.hid (show root_Ceil.f (sq2 x y : Int) 1 (ten s : Int) = some ((ceil (sq2 x y) 1 (ten s) : Nat) : Int) from ceil_eq (k := 1) (by omega) (by omega) (by omega) (by omega) (by omega))
  clear hx hy hsum ht hq
  go_enter Try.func62, Try.ntmps62
  go_wp2_with fail
  refine (metric_Known.calls _ _ _ HK.out).mono ?_
  rintro e w2 ⟨rfl, ⟨nd, rfl⟩⟩
  have HD := Aside0.mk (DSt.start w x y nd)
  go_wp2_with fail
  go_loopw [43] (fun v wr => ∃ k : Nat, v = .int .i64 k ∧ k ≤ s ∧ Aside0 (DSt w x y (ten k : Int) wr)) (fun v _ => s - (intOf v).toNat)
  case atStart => exact ⟨0, rfl, Nat.zero_le _, HD⟩
  case round =>
    obtain ⟨k, rfl, hk, HK2⟩ := hrel
    clear HD
    obtain ⟨c0, c1, c2, f2⟩ := HK2.out.cells
    by_cases hlt : k < s
    · have hb := (ten_le (show k ≤ 6 by omega)).2
      have HN := Aside0.mk (show DSt w x y (ten (k + 1) : Int) (wr.setCell ⟨w.heap.size + 1 + 1, 0, none⟩ (.int .i64 (wrap64 ((ten k : Int) * 10)))) from by
        rw [show wrap64 ((ten k : Int) * 10) = (ten (k + 1) : Int) by rw [ten_succ]; unfold wrap64; omega]
        exact HK2.out.put _)
      rw [show wrap64 ((ten k : Int) * 10) = (ten k : Int) * 10 by unfold wrap64; omega] at HN
      generalize ten k = p at *
      go_wp2_with fail
      go_roundw
      case rel => exact ⟨k + 1, by go_num, by omega, HN⟩
      case measure => simp [intOf]; omega
    · obtain rfl : k = s := by omega
      have hlt1 : w.heap.size < wr.heap.size := blk_lt HK2.out.1
      have hlt2 : w.heap.size + 1 < wr.heap.size := blk_lt HK2.out.2.1
      have hlt3 : w.heap.size + 1 + 1 < wr.heap.size := blk_lt HK2.out.2.2.1
      have hsq := HSum.out
      go_wp2_with fail
      have hT := blk_alloc (blk_alloc HK2.out.2.2.1 (I1 (sq2 x y : Int))) (.cells #[.nilFunc, .func (.func 77) #[] #[.pointer (some ⟨wr.heap.size, 0, none⟩), .pointer (some ⟨w.heap.size + 1 + 1, 0, none⟩)], .func (.func 79) #[] #[.pointer (some ⟨wr.heap.size, 0, none⟩), .pointer (some ⟨w.heap.size + 1 + 1, 0, none⟩)], .func (.func 81) #[] #[.pointer (some ⟨w.heap.size, 0, none⟩), .pointer (some ⟨w.heap.size + 1, 0, none⟩), .pointer (some ⟨w.heap.size + 1 + 1, 0, none⟩)], .func (.func 84) #[] #[.pointer (some ⟨w.heap.size, 0, none⟩), .pointer (some ⟨w.heap.size + 1, 0, none⟩), .pointer (some ⟨w.heap.size + 1 + 1, 0, none⟩)], .func (.func 85) #[] #[.pointer (some ⟨wr.heap.size, 0, none⟩), .pointer (some ⟨w.heap.size + 1 + 1, 0, none⟩)], .func (.func 86) #[] #[.pointer (some ⟨wr.heap.size, 0, none⟩), .pointer (some ⟨w.heap.size + 1 + 1, 0, none⟩)]] 113)
      have hN := blk_alloc (heap_alloc_new wr (I1 (sq2 x y : Int))) (.cells #[.nilFunc, .func (.func 77) #[] #[.pointer (some ⟨wr.heap.size, 0, none⟩), .pointer (some ⟨w.heap.size + 1 + 1, 0, none⟩)], .func (.func 79) #[] #[.pointer (some ⟨wr.heap.size, 0, none⟩), .pointer (some ⟨w.heap.size + 1 + 1, 0, none⟩)], .func (.func 81) #[] #[.pointer (some ⟨w.heap.size, 0, none⟩), .pointer (some ⟨w.heap.size + 1, 0, none⟩), .pointer (some ⟨w.heap.size + 1 + 1, 0, none⟩)], .func (.func 84) #[] #[.pointer (some ⟨w.heap.size, 0, none⟩), .pointer (some ⟨w.heap.size + 1, 0, none⟩), .pointer (some ⟨w.heap.size + 1 + 1, 0, none⟩)], .func (.func 85) #[] #[.pointer (some ⟨wr.heap.size, 0, none⟩), .pointer (some ⟨w.heap.size + 1 + 1, 0, none⟩)], .func (.func 86) #[] #[.pointer (some ⟨wr.heap.size, 0, none⟩), .pointer (some ⟨w.heap.size + 1 + 1, 0, none⟩)]] 113)
      refine (way2_c _ _ _ _ _ _ hN hT HR.out).mono ?_
      rintro e w5 ⟨rfl, hb⟩
      have HE := Aside0.mk (below_step (below_alloc (below_alloc HK2.out.2.2.2 _) _) hb)
      clear hb
      go_wp2
      go_ret2
      exact ⟨rfl, HE.out⟩
set_option maxHeartbeats 4000000 in
set_option maxRecDepth 100000 in
theorem dist3_c (s : Nat) (x y : Int) (w : World) (hs : s ≤ 6) (hx : ¬ far x) (hy : ¬ far y) : Calls Try.prog 62 #[.int .i64 3, .int .i64 s, .int .i64 x, .int .i64 y] w fun e w' => e = .returned (.tuple #[.int .i64 (nst (x.natAbs + y.natAbs) (ten s) : Nat), .int .i64 0]) ∧ Below w.heap.size w w' := by
  have HK := Lib.hid (show metric_Known.f 3 = some true from rfl)
  have k3 : decide ((s : Int) < 0) = false := decide_eq_false (by omega)
  have k4 : decide ((s : Int) > 6) = false := decide_eq_false (by omega)
  obtain ⟨hsum, hq⟩ := sum_sq hx hy
  have ht := ten_le hs
  unfold far at hx hy
  have b5 : decide (x < -200000000) = false := decide_eq_false (by omega)
  have b6 : decide (x > 200000000) = false := decide_eq_false (by omega)
  have b7 : decide (y < -200000000) = false := decide_eq_false (by omega)
  have b8 : decide (y > 200000000) = false := decide_eq_false (by omega)
  have HSum := Lib.hid hsum
  have HXb := Aside0.mk (show -200000000 ≤ x ∧ x ≤ 200000000 by omega)
  have HYb := Aside0.mk (show -200000000 ≤ y ∧ y ≤ 200000000 by omega)
  have HTb := Lib.hid ht
  clear hx hy hsum ht hq
  go_enter Try.func62, Try.ntmps62
  go_wp2_with fail
  refine (metric_Known.calls _ _ _ HK.out).mono ?_
  rintro e w2 ⟨rfl, ⟨nd, rfl⟩⟩
  have HD := Aside0.mk (DSt.start w x y nd)
  go_wp2_with fail
  go_loopw [43] (fun v wr => ∃ k : Nat, v = .int .i64 k ∧ k ≤ s ∧ Aside0 (DSt w x y (ten k : Int) wr)) (fun v _ => s - (intOf v).toNat)
  case atStart => exact ⟨0, rfl, Nat.zero_le _, HD⟩
  case round =>
    obtain ⟨k, rfl, hk, HK2⟩ := hrel
    clear HD
    obtain ⟨c0, c1, c2, f2⟩ := HK2.out.cells
    by_cases hlt : k < s
    · have hb := (ten_le (show k ≤ 6 by omega)).2
      have HN := Aside0.mk (show DSt w x y (ten (k + 1) : Int) (wr.setCell ⟨w.heap.size + 1 + 1, 0, none⟩ (.int .i64 (wrap64 ((ten k : Int) * 10)))) from by
        rw [show wrap64 ((ten k : Int) * 10) = (ten (k + 1) : Int) by rw [ten_succ]; unfold wrap64; omega]
        exact HK2.out.put _)
      rw [show wrap64 ((ten k : Int) * 10) = (ten k : Int) * 10 by unfold wrap64; omega] at HN
      generalize ten k = p at *
      go_wp2_with fail
      go_roundw
      case rel => exact ⟨k + 1, by go_num, by omega, HN⟩
      case measure => simp [intOf]; omega
    · obtain rfl : k = s := by omega
      have hlt1 : w.heap.size < wr.heap.size := blk_lt HK2.out.1
      have hlt2 : w.heap.size + 1 < wr.heap.size := blk_lt HK2.out.2.1
      have hlt3 : w.heap.size + 1 + 1 < wr.heap.size := blk_lt HK2.out.2.2.1
      have hsq := HSum.out
      go_wp2_with fail
      have hT := blk_alloc (blk_alloc HK2.out.2.2.1 (I1 (sq2 x y : Int))) (.cells #[.nilFunc, .func (.func 77) #[] #[.pointer (some ⟨wr.heap.size, 0, none⟩), .pointer (some ⟨w.heap.size + 1 + 1, 0, none⟩)], .func (.func 79) #[] #[.pointer (some ⟨wr.heap.size, 0, none⟩), .pointer (some ⟨w.heap.size + 1 + 1, 0, none⟩)], .func (.func 81) #[] #[.pointer (some ⟨w.heap.size, 0, none⟩), .pointer (some ⟨w.heap.size + 1, 0, none⟩), .pointer (some ⟨w.heap.size + 1 + 1, 0, none⟩)], .func (.func 84) #[] #[.pointer (some ⟨w.heap.size, 0, none⟩), .pointer (some ⟨w.heap.size + 1, 0, none⟩), .pointer (some ⟨w.heap.size + 1 + 1, 0, none⟩)], .func (.func 85) #[] #[.pointer (some ⟨wr.heap.size, 0, none⟩), .pointer (some ⟨w.heap.size + 1 + 1, 0, none⟩)], .func (.func 86) #[] #[.pointer (some ⟨wr.heap.size, 0, none⟩), .pointer (some ⟨w.heap.size + 1 + 1, 0, none⟩)]] 113)
      have hX := blk_alloc (blk_alloc HK2.out.1 (I1 (sq2 x y : Int))) (.cells #[.nilFunc, .func (.func 77) #[] #[.pointer (some ⟨wr.heap.size, 0, none⟩), .pointer (some ⟨w.heap.size + 1 + 1, 0, none⟩)], .func (.func 79) #[] #[.pointer (some ⟨wr.heap.size, 0, none⟩), .pointer (some ⟨w.heap.size + 1 + 1, 0, none⟩)], .func (.func 81) #[] #[.pointer (some ⟨w.heap.size, 0, none⟩), .pointer (some ⟨w.heap.size + 1, 0, none⟩), .pointer (some ⟨w.heap.size + 1 + 1, 0, none⟩)], .func (.func 84) #[] #[.pointer (some ⟨w.heap.size, 0, none⟩), .pointer (some ⟨w.heap.size + 1, 0, none⟩), .pointer (some ⟨w.heap.size + 1 + 1, 0, none⟩)], .func (.func 85) #[] #[.pointer (some ⟨wr.heap.size, 0, none⟩), .pointer (some ⟨w.heap.size + 1 + 1, 0, none⟩)], .func (.func 86) #[] #[.pointer (some ⟨wr.heap.size, 0, none⟩), .pointer (some ⟨w.heap.size + 1 + 1, 0, none⟩)]] 113)
      have hY := blk_alloc (blk_alloc HK2.out.2.1 (I1 (sq2 x y : Int))) (.cells #[.nilFunc, .func (.func 77) #[] #[.pointer (some ⟨wr.heap.size, 0, none⟩), .pointer (some ⟨w.heap.size + 1 + 1, 0, none⟩)], .func (.func 79) #[] #[.pointer (some ⟨wr.heap.size, 0, none⟩), .pointer (some ⟨w.heap.size + 1 + 1, 0, none⟩)], .func (.func 81) #[] #[.pointer (some ⟨w.heap.size, 0, none⟩), .pointer (some ⟨w.heap.size + 1, 0, none⟩), .pointer (some ⟨w.heap.size + 1 + 1, 0, none⟩)], .func (.func 84) #[] #[.pointer (some ⟨w.heap.size, 0, none⟩), .pointer (some ⟨w.heap.size + 1, 0, none⟩), .pointer (some ⟨w.heap.size + 1 + 1, 0, none⟩)], .func (.func 85) #[] #[.pointer (some ⟨wr.heap.size, 0, none⟩), .pointer (some ⟨w.heap.size + 1 + 1, 0, none⟩)], .func (.func 86) #[] #[.pointer (some ⟨wr.heap.size, 0, none⟩), .pointer (some ⟨w.heap.size + 1 + 1, 0, none⟩)]] 113)
      refine (way3_c _ _ _ x y _ _ hX hY hT HXb.out HYb.out HTb.out).mono ?_
      rintro e w5 ⟨rfl, hb⟩
      have HE := Aside0.mk (below_step (below_alloc (below_alloc HK2.out.2.2.2 _) _) hb)
      clear hb
      go_wp2
      go_ret2
      exact ⟨rfl, HE.out⟩
set_option maxHeartbeats 4000000 in
set_option maxRecDepth 100000 in
theorem dist4_c (s : Nat) (x y : Int) (w : World) (hs : s ≤ 6) (hx : ¬ far x) (hy : ¬ far y) : Calls Try.prog 62 #[.int .i64 4, .int .i64 s, .int .i64 x, .int .i64 y] w fun e w' => e = .returned (.tuple #[.int .i64 (nst (max x.natAbs y.natAbs) (ten s) : Nat), .int .i64 0]) ∧ Below w.heap.size w w' := by
  have HK := Lib.hid (show metric_Known.f 4 = some true from rfl)
  have k3 : decide ((s : Int) < 0) = false := decide_eq_false (by omega)
  have k4 : decide ((s : Int) > 6) = false := decide_eq_false (by omega)
  obtain ⟨hsum, hq⟩ := sum_sq hx hy
  have ht := ten_le hs
  unfold far at hx hy
  have b5 : decide (x < -200000000) = false := decide_eq_false (by omega)
  have b6 : decide (x > 200000000) = false := decide_eq_false (by omega)
  have b7 : decide (y < -200000000) = false := decide_eq_false (by omega)
  have b8 : decide (y > 200000000) = false := decide_eq_false (by omega)
  have HSum := Lib.hid hsum
  have HXb := Aside0.mk (show -200000000 ≤ x ∧ x ≤ 200000000 by omega)
  have HYb := Aside0.mk (show -200000000 ≤ y ∧ y ≤ 200000000 by omega)
  have HTb := Lib.hid ht
  clear hx hy hsum ht hq
  go_enter Try.func62, Try.ntmps62
  go_wp2_with fail
  refine (metric_Known.calls _ _ _ HK.out).mono ?_
  rintro e w2 ⟨rfl, ⟨nd, rfl⟩⟩
  have HD := Aside0.mk (DSt.start w x y nd)
  go_wp2_with fail
  go_loopw [43] (fun v wr => ∃ k : Nat, v = .int .i64 k ∧ k ≤ s ∧ Aside0 (DSt w x y (ten k : Int) wr)) (fun v _ => s - (intOf v).toNat)
  case atStart => exact ⟨0, rfl, Nat.zero_le _, HD⟩
  case round =>
    obtain ⟨k, rfl, hk, HK2⟩ := hrel
    clear HD
    obtain ⟨c0, c1, c2, f2⟩ := HK2.out.cells
    by_cases hlt : k < s
    · have hb := (ten_le (show k ≤ 6 by omega)).2
      have HN := Aside0.mk (show DSt w x y (ten (k + 1) : Int) (wr.setCell ⟨w.heap.size + 1 + 1, 0, none⟩ (.int .i64 (wrap64 ((ten k : Int) * 10)))) from by
        rw [show wrap64 ((ten k : Int) * 10) = (ten (k + 1) : Int) by rw [ten_succ]; unfold wrap64; omega]
        exact HK2.out.put _)
      rw [show wrap64 ((ten k : Int) * 10) = (ten k : Int) * 10 by unfold wrap64; omega] at HN
      generalize ten k = p at *
      go_wp2_with fail
      go_roundw
      case rel => exact ⟨k + 1, by go_num, by omega, HN⟩
      case measure => simp [intOf]; omega
    · obtain rfl : k = s := by omega
      have hlt1 : w.heap.size < wr.heap.size := blk_lt HK2.out.1
      have hlt2 : w.heap.size + 1 < wr.heap.size := blk_lt HK2.out.2.1
      have hlt3 : w.heap.size + 1 + 1 < wr.heap.size := blk_lt HK2.out.2.2.1
      have hsq := HSum.out
      go_wp2_with fail
      have hT := blk_alloc (blk_alloc HK2.out.2.2.1 (I1 (sq2 x y : Int))) (.cells #[.nilFunc, .func (.func 77) #[] #[.pointer (some ⟨wr.heap.size, 0, none⟩), .pointer (some ⟨w.heap.size + 1 + 1, 0, none⟩)], .func (.func 79) #[] #[.pointer (some ⟨wr.heap.size, 0, none⟩), .pointer (some ⟨w.heap.size + 1 + 1, 0, none⟩)], .func (.func 81) #[] #[.pointer (some ⟨w.heap.size, 0, none⟩), .pointer (some ⟨w.heap.size + 1, 0, none⟩), .pointer (some ⟨w.heap.size + 1 + 1, 0, none⟩)], .func (.func 84) #[] #[.pointer (some ⟨w.heap.size, 0, none⟩), .pointer (some ⟨w.heap.size + 1, 0, none⟩), .pointer (some ⟨w.heap.size + 1 + 1, 0, none⟩)], .func (.func 85) #[] #[.pointer (some ⟨wr.heap.size, 0, none⟩), .pointer (some ⟨w.heap.size + 1 + 1, 0, none⟩)], .func (.func 86) #[] #[.pointer (some ⟨wr.heap.size, 0, none⟩), .pointer (some ⟨w.heap.size + 1 + 1, 0, none⟩)]] 113)
      have hX := blk_alloc (blk_alloc HK2.out.1 (I1 (sq2 x y : Int))) (.cells #[.nilFunc, .func (.func 77) #[] #[.pointer (some ⟨wr.heap.size, 0, none⟩), .pointer (some ⟨w.heap.size + 1 + 1, 0, none⟩)], .func (.func 79) #[] #[.pointer (some ⟨wr.heap.size, 0, none⟩), .pointer (some ⟨w.heap.size + 1 + 1, 0, none⟩)], .func (.func 81) #[] #[.pointer (some ⟨w.heap.size, 0, none⟩), .pointer (some ⟨w.heap.size + 1, 0, none⟩), .pointer (some ⟨w.heap.size + 1 + 1, 0, none⟩)], .func (.func 84) #[] #[.pointer (some ⟨w.heap.size, 0, none⟩), .pointer (some ⟨w.heap.size + 1, 0, none⟩), .pointer (some ⟨w.heap.size + 1 + 1, 0, none⟩)], .func (.func 85) #[] #[.pointer (some ⟨wr.heap.size, 0, none⟩), .pointer (some ⟨w.heap.size + 1 + 1, 0, none⟩)], .func (.func 86) #[] #[.pointer (some ⟨wr.heap.size, 0, none⟩), .pointer (some ⟨w.heap.size + 1 + 1, 0, none⟩)]] 113)
      have hY := blk_alloc (blk_alloc HK2.out.2.1 (I1 (sq2 x y : Int))) (.cells #[.nilFunc, .func (.func 77) #[] #[.pointer (some ⟨wr.heap.size, 0, none⟩), .pointer (some ⟨w.heap.size + 1 + 1, 0, none⟩)], .func (.func 79) #[] #[.pointer (some ⟨wr.heap.size, 0, none⟩), .pointer (some ⟨w.heap.size + 1 + 1, 0, none⟩)], .func (.func 81) #[] #[.pointer (some ⟨w.heap.size, 0, none⟩), .pointer (some ⟨w.heap.size + 1, 0, none⟩), .pointer (some ⟨w.heap.size + 1 + 1, 0, none⟩)], .func (.func 84) #[] #[.pointer (some ⟨w.heap.size, 0, none⟩), .pointer (some ⟨w.heap.size + 1, 0, none⟩), .pointer (some ⟨w.heap.size + 1 + 1, 0, none⟩)], .func (.func 85) #[] #[.pointer (some ⟨wr.heap.size, 0, none⟩), .pointer (some ⟨w.heap.size + 1 + 1, 0, none⟩)], .func (.func 86) #[] #[.pointer (some ⟨wr.heap.size, 0, none⟩), .pointer (some ⟨w.heap.size + 1 + 1, 0, none⟩)]] 113)
      refine (way4_c _ _ _ x y _ _ hX hY hT HXb.out HYb.out HTb.out).mono ?_
      rintro e w5 ⟨rfl, hb⟩
      have HE := Aside0.mk (below_step (below_alloc (below_alloc HK2.out.2.2.2 _) _) hb)
      clear hb
      go_wp2
      go_ret2
      exact ⟨rfl, HE.out⟩
set_option maxHeartbeats 4000000 in
set_option maxRecDepth 100000 in
theorem dist5_c (s : Nat) (x y : Int) (w : World) (hs : s ≤ 6) (hx : ¬ far x) (hy : ¬ far y) : Calls Try.prog 62 #[.int .i64 5, .int .i64 s, .int .i64 x, .int .i64 y] w fun e w' => e = .returned (.tuple #[.int .i64 (ceil (sq2 x y) 10 (ten s) : Nat), .int .i64 0]) ∧ Below w.heap.size w w' := by
  have HK := Lib.hid (show metric_Known.f 5 = some true from rfl)
  have k3 : decide ((s : Int) < 0) = false := decide_eq_false (by omega)
  have k4 : decide ((s : Int) > 6) = false := decide_eq_false (by omega)
  obtain ⟨hsum, hq⟩ := sum_sq hx hy
  have ht := ten_le hs
  unfold far at hx hy
  have b5 : decide (x < -200000000) = false := decide_eq_false (by omega)
  have b6 : decide (x > 200000000) = false := decide_eq_false (by omega)
  have b7 : decide (y < -200000000) = false := decide_eq_false (by omega)
  have b8 : decide (y > 200000000) = false := decide_eq_false (by omega)
  have HSum := Lib.hid hsum
  have HR := Lib.hid (show root_Ceil.f (sq2 x y : Int) 10 (ten s : Int) = some ((ceil (sq2 x y) 10 (ten s) : Nat) : Int) from ceil_eq (k := 10) (by omega) (by omega) (by omega) (by omega) (by omega))
  clear hx hy hsum ht hq
  go_enter Try.func62, Try.ntmps62
  go_wp2_with fail
  refine (metric_Known.calls _ _ _ HK.out).mono ?_
  rintro e w2 ⟨rfl, ⟨nd, rfl⟩⟩
  have HD := Aside0.mk (DSt.start w x y nd)
  go_wp2_with fail
  go_loopw [43] (fun v wr => ∃ k : Nat, v = .int .i64 k ∧ k ≤ s ∧ Aside0 (DSt w x y (ten k : Int) wr)) (fun v _ => s - (intOf v).toNat)
  case atStart => exact ⟨0, rfl, Nat.zero_le _, HD⟩
  case round =>
    obtain ⟨k, rfl, hk, HK2⟩ := hrel
    clear HD
    obtain ⟨c0, c1, c2, f2⟩ := HK2.out.cells
    by_cases hlt : k < s
    · have hb := (ten_le (show k ≤ 6 by omega)).2
      have HN := Aside0.mk (show DSt w x y (ten (k + 1) : Int) (wr.setCell ⟨w.heap.size + 1 + 1, 0, none⟩ (.int .i64 (wrap64 ((ten k : Int) * 10)))) from by
        rw [show wrap64 ((ten k : Int) * 10) = (ten (k + 1) : Int) by rw [ten_succ]; unfold wrap64; omega]
        exact HK2.out.put _)
      rw [show wrap64 ((ten k : Int) * 10) = (ten k : Int) * 10 by unfold wrap64; omega] at HN
      generalize ten k = p at *
      go_wp2_with fail
      go_roundw
      case rel => exact ⟨k + 1, by go_num, by omega, HN⟩
      case measure => simp [intOf]; omega
    · obtain rfl : k = s := by omega
      have hlt1 : w.heap.size < wr.heap.size := blk_lt HK2.out.1
      have hlt2 : w.heap.size + 1 < wr.heap.size := blk_lt HK2.out.2.1
      have hlt3 : w.heap.size + 1 + 1 < wr.heap.size := blk_lt HK2.out.2.2.1
      have hsq := HSum.out
      go_wp2_with fail
      have hT := blk_alloc (blk_alloc HK2.out.2.2.1 (I1 (sq2 x y : Int))) (.cells #[.nilFunc, .func (.func 77) #[] #[.pointer (some ⟨wr.heap.size, 0, none⟩), .pointer (some ⟨w.heap.size + 1 + 1, 0, none⟩)], .func (.func 79) #[] #[.pointer (some ⟨wr.heap.size, 0, none⟩), .pointer (some ⟨w.heap.size + 1 + 1, 0, none⟩)], .func (.func 81) #[] #[.pointer (some ⟨w.heap.size, 0, none⟩), .pointer (some ⟨w.heap.size + 1, 0, none⟩), .pointer (some ⟨w.heap.size + 1 + 1, 0, none⟩)], .func (.func 84) #[] #[.pointer (some ⟨w.heap.size, 0, none⟩), .pointer (some ⟨w.heap.size + 1, 0, none⟩), .pointer (some ⟨w.heap.size + 1 + 1, 0, none⟩)], .func (.func 85) #[] #[.pointer (some ⟨wr.heap.size, 0, none⟩), .pointer (some ⟨w.heap.size + 1 + 1, 0, none⟩)], .func (.func 86) #[] #[.pointer (some ⟨wr.heap.size, 0, none⟩), .pointer (some ⟨w.heap.size + 1 + 1, 0, none⟩)]] 113)
      have hN := blk_alloc (heap_alloc_new wr (I1 (sq2 x y : Int))) (.cells #[.nilFunc, .func (.func 77) #[] #[.pointer (some ⟨wr.heap.size, 0, none⟩), .pointer (some ⟨w.heap.size + 1 + 1, 0, none⟩)], .func (.func 79) #[] #[.pointer (some ⟨wr.heap.size, 0, none⟩), .pointer (some ⟨w.heap.size + 1 + 1, 0, none⟩)], .func (.func 81) #[] #[.pointer (some ⟨w.heap.size, 0, none⟩), .pointer (some ⟨w.heap.size + 1, 0, none⟩), .pointer (some ⟨w.heap.size + 1 + 1, 0, none⟩)], .func (.func 84) #[] #[.pointer (some ⟨w.heap.size, 0, none⟩), .pointer (some ⟨w.heap.size + 1, 0, none⟩), .pointer (some ⟨w.heap.size + 1 + 1, 0, none⟩)], .func (.func 85) #[] #[.pointer (some ⟨wr.heap.size, 0, none⟩), .pointer (some ⟨w.heap.size + 1 + 1, 0, none⟩)], .func (.func 86) #[] #[.pointer (some ⟨wr.heap.size, 0, none⟩), .pointer (some ⟨w.heap.size + 1 + 1, 0, none⟩)]] 113)
      refine (way5_c _ _ _ _ _ _ hN hT HR.out).mono ?_
      rintro e w5 ⟨rfl, hb⟩
      have HE := Aside0.mk (below_step (below_alloc (below_alloc HK2.out.2.2.2 _) _) hb)
      clear hb
      go_wp2
      go_ret2
      exact ⟨rfl, HE.out⟩
set_option maxHeartbeats 4000000 in
set_option maxRecDepth 100000 in
theorem dist6_c (s : Nat) (x y : Int) (w : World) (hs : s ≤ 6) (hx : ¬ far x) (hy : ¬ far y) : Calls Try.prog 62 #[.int .i64 6, .int .i64 s, .int .i64 x, .int .i64 y] w fun e w' => e = .returned (.tuple #[.int .i64 (down (sq2 x y) 10 (ten s) : Nat), .int .i64 0]) ∧ Below w.heap.size w w' := by
  have HK := Lib.hid (show metric_Known.f 6 = some true from rfl)
  have k3 : decide ((s : Int) < 0) = false := decide_eq_false (by omega)
  have k4 : decide ((s : Int) > 6) = false := decide_eq_false (by omega)
  obtain ⟨hsum, hq⟩ := sum_sq hx hy
  have ht := ten_le hs
  unfold far at hx hy
  have b5 : decide (x < -200000000) = false := decide_eq_false (by omega)
  have b6 : decide (x > 200000000) = false := decide_eq_false (by omega)
  have b7 : decide (y < -200000000) = false := decide_eq_false (by omega)
  have b8 : decide (y > 200000000) = false := decide_eq_false (by omega)
  have HSum := Lib.hid hsum
  have HR := Lib.hid (show root_Down.f (sq2 x y : Int) 10 (ten s : Int) = some ((down (sq2 x y) 10 (ten s) : Nat) : Int) from down_eq (m := 10) (by omega) (by omega) (by omega))
  clear hx hy hsum ht hq
  go_enter Try.func62, Try.ntmps62
  go_wp2_with fail
  refine (metric_Known.calls _ _ _ HK.out).mono ?_
  rintro e w2 ⟨rfl, ⟨nd, rfl⟩⟩
  have HD := Aside0.mk (DSt.start w x y nd)
  go_wp2_with fail
  go_loopw [43] (fun v wr => ∃ k : Nat, v = .int .i64 k ∧ k ≤ s ∧ Aside0 (DSt w x y (ten k : Int) wr)) (fun v _ => s - (intOf v).toNat)
  case atStart => exact ⟨0, rfl, Nat.zero_le _, HD⟩
  case round =>
    obtain ⟨k, rfl, hk, HK2⟩ := hrel
    clear HD
    obtain ⟨c0, c1, c2, f2⟩ := HK2.out.cells
    by_cases hlt : k < s
    · have hb := (ten_le (show k ≤ 6 by omega)).2
      have HN := Aside0.mk (show DSt w x y (ten (k + 1) : Int) (wr.setCell ⟨w.heap.size + 1 + 1, 0, none⟩ (.int .i64 (wrap64 ((ten k : Int) * 10)))) from by
        rw [show wrap64 ((ten k : Int) * 10) = (ten (k + 1) : Int) by rw [ten_succ]; unfold wrap64; omega]
        exact HK2.out.put _)
      rw [show wrap64 ((ten k : Int) * 10) = (ten k : Int) * 10 by unfold wrap64; omega] at HN
      generalize ten k = p at *
      go_wp2_with fail
      go_roundw
      case rel => exact ⟨k + 1, by go_num, by omega, HN⟩
      case measure => simp [intOf]; omega
    · obtain rfl : k = s := by omega
      have hlt1 : w.heap.size < wr.heap.size := blk_lt HK2.out.1
      have hlt2 : w.heap.size + 1 < wr.heap.size := blk_lt HK2.out.2.1
      have hlt3 : w.heap.size + 1 + 1 < wr.heap.size := blk_lt HK2.out.2.2.1
      have hsq := HSum.out
      go_wp2_with fail
      have hT := blk_alloc (blk_alloc HK2.out.2.2.1 (I1 (sq2 x y : Int))) (.cells #[.nilFunc, .func (.func 77) #[] #[.pointer (some ⟨wr.heap.size, 0, none⟩), .pointer (some ⟨w.heap.size + 1 + 1, 0, none⟩)], .func (.func 79) #[] #[.pointer (some ⟨wr.heap.size, 0, none⟩), .pointer (some ⟨w.heap.size + 1 + 1, 0, none⟩)], .func (.func 81) #[] #[.pointer (some ⟨w.heap.size, 0, none⟩), .pointer (some ⟨w.heap.size + 1, 0, none⟩), .pointer (some ⟨w.heap.size + 1 + 1, 0, none⟩)], .func (.func 84) #[] #[.pointer (some ⟨w.heap.size, 0, none⟩), .pointer (some ⟨w.heap.size + 1, 0, none⟩), .pointer (some ⟨w.heap.size + 1 + 1, 0, none⟩)], .func (.func 85) #[] #[.pointer (some ⟨wr.heap.size, 0, none⟩), .pointer (some ⟨w.heap.size + 1 + 1, 0, none⟩)], .func (.func 86) #[] #[.pointer (some ⟨wr.heap.size, 0, none⟩), .pointer (some ⟨w.heap.size + 1 + 1, 0, none⟩)]] 113)
      have hN := blk_alloc (heap_alloc_new wr (I1 (sq2 x y : Int))) (.cells #[.nilFunc, .func (.func 77) #[] #[.pointer (some ⟨wr.heap.size, 0, none⟩), .pointer (some ⟨w.heap.size + 1 + 1, 0, none⟩)], .func (.func 79) #[] #[.pointer (some ⟨wr.heap.size, 0, none⟩), .pointer (some ⟨w.heap.size + 1 + 1, 0, none⟩)], .func (.func 81) #[] #[.pointer (some ⟨w.heap.size, 0, none⟩), .pointer (some ⟨w.heap.size + 1, 0, none⟩), .pointer (some ⟨w.heap.size + 1 + 1, 0, none⟩)], .func (.func 84) #[] #[.pointer (some ⟨w.heap.size, 0, none⟩), .pointer (some ⟨w.heap.size + 1, 0, none⟩), .pointer (some ⟨w.heap.size + 1 + 1, 0, none⟩)], .func (.func 85) #[] #[.pointer (some ⟨wr.heap.size, 0, none⟩), .pointer (some ⟨w.heap.size + 1 + 1, 0, none⟩)], .func (.func 86) #[] #[.pointer (some ⟨wr.heap.size, 0, none⟩), .pointer (some ⟨w.heap.size + 1 + 1, 0, none⟩)]] 113)
      refine (way6_c _ _ _ _ _ _ hN hT HR.out).mono ?_
      rintro e w5 ⟨rfl, hb⟩
      have HE := Aside0.mk (below_step (below_alloc (below_alloc HK2.out.2.2.2 _) _) hb)
      clear hb
      go_wp2
      go_ret2
      exact ⟨rfl, HE.out⟩
end DistWalk
open DistWalk
/-- What metric.Dist computes. -/
def metric_Dist.f (m s x y : Int) : Option (Int × Int) :=
  if m ≤ 0 ∨ 6 < m ∨ s < 0 ∨ 6 < s then some (0, 1) else if far x ∨ far y then some (0, 2) else some ((way m (ten s.toNat) x y : Int), 0)
theorem metric_Dist.calls (m s x y : Int) (r1 r2 : Int) (w : World) (h : metric_Dist.f m s x y = some (r1, r2)) :
    Calls Try.prog 62 #[.int .i64 m, .int .i64 s, .int .i64 x, .int .i64 y] w fun e w' => e = .returned (.tuple #[.int .i64 r1, .int .i64 r2]) ∧ Below w.heap.size w w' := by
  unfold metric_Dist.f at h
  by_cases c1 : m ≤ 0 ∨ 6 < m ∨ s < 0 ∨ 6 < s
  · rw [if_pos c1] at h
    cases h
    exact arg_c m s x y w c1
  · rw [if_neg c1] at h
    by_cases c2 : far x ∨ far y
    · rw [if_pos c2] at h
      cases h
      exact far_c m s x y w (by omega) (by omega) c2
    · rw [if_neg c2] at h
      cases h
      obtain ⟨n, rfl⟩ : ∃ n : Nat, s = (n : Int) := ⟨s.toNat, by omega⟩
      rw [Int.toNat_natCast]
      have hx : ¬ far x := fun e => c2 (.inl e)
      have hy : ¬ far y := fun e => c2 (.inr e)
      have hm : m = 1 ∨ m = 2 ∨ m = 3 ∨ m = 4 ∨ m = 5 ∨ m = 6 := by omega
      rcases hm with rfl | rfl | rfl | rfl | rfl | rfl
      · exact dist1_c n x y w (by omega) hx hy
      · exact dist2_c n x y w (by omega) hx hy
      · exact dist3_c n x y w (by omega) hx hy
      · exact dist4_c n x y w (by omega) hx hy
      · exact dist5_c n x y w (by omega) hx hy
      · exact dist6_c n x y w (by omega) hx hy
attribute [irreducible] metric_Dist.f
end Go.Proofs.Ytlncbckpcmojpaa
