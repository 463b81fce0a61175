/- feas: times, up to its loop. -/
import Derived.Test.YtlncbckpcmojpaaMkd
set_option linter.unusedVariables false
set_option linter.unusedSimpArgs false
namespace Go.Proofs.Ytlncbckpcmojpaa
open Go.RowKit Go.Proofs.YtlncbckpcmojpaaW.PrintWords Go.Proofs.YtlncbckpcmojpaaW.PrintLast Go.Proofs.YtlncbckpcmojpaaW.PrintMore
namespace FeasWalk
open P
def unitOf (mt : Int) : Int := if mt = 6 then 10 else 1
set_option maxHeartbeats 2000000 in
theorem unit_c (x : Look) (W : World) : Calls Try.prog 46 #[x.val] W fun e w' => e = .returned (.int .i64 (unitOf x.mt)) ∧ Below W.heap.size W w' := by
  obtain ⟨nm, kd, mt, sc, cp, fl, A, c, ns, B, e0, mx⟩ := x
  unfold Look.val
  simp only
  have hB : Below W.heap.size W (W.alloc (.cells #[.string nm, .int .i64 kd, .int .i64 mt, .int .i64 sc, .int .i64 cp, .int .i64 fl, .slice A ns.length c, .slice B mx.length e0] 25)) := (Below.refl _ W).alloc (Nat.le_refl _) _
  have HB := Lib.hid hB
  clear hB
  by_cases h : mt = 6
  · have b1 : (mt == 6) = true := beq_iff_eq.2 h
    have HN := Lib.hid (show unitOf mt = 10 from if_pos h)
    clear h
    go_enter Try.func46, Try.ntmps46
    go_wp2
    go_ret
    exact ⟨ret_int HN.out.symm, HB.out⟩
  · have b1 : (mt == 6) = false := beq_eq_false_iff_ne.2 h
    have HN := Lib.hid (show unitOf mt = 1 from if_neg h)
    clear h
    go_enter Try.func46, Try.ntmps46
    go_wp2
    go_ret
    exact ⟨ret_int HN.out.symm, HB.out⟩
/-- The way, where there is one. -/
def legP (x : Look) (i j : Nat) : Int := ((legOf x i j).getD (0, 0)).1
/-- Behind the way to a stop: which is late first, when its service begins. -/
structure Run where
  at_ : Nat
  now : Int
  late : Int
  out : List Int
def goTo (x : Look) (u : Int) (r : Run) (s : Nat) : Run :=
  ⟨s, wrap64 (r.now + legP x r.at_ s), lateT r.late (wrap64 (r.now + legP x r.at_ s)) u (rd_T32 x.ns (s : Int)).f4 s, r.out⟩
def serve (x : Look) (u : Int) (r : Run) (s : Nat) : Run :=
  ⟨r.at_, wrap64 (mx r.now (wrap64 (u * (rd_T32 x.ns (s : Int)).f3)) + wrap64 (u * (rd_T32 x.ns (s : Int)).f5)), r.late, r.out ++ [mx r.now (wrap64 (u * (rd_T32 x.ns (s : Int)).f3))]⟩
def start (x : Look) (u : Int) : Run := ⟨0, wrap64 (u * (rd_T32 x.ns 0).f3), -1, []⟩
def along (x : Look) (u : Int) (l : List Int) : Run := l.foldl (fun r s => serve x u (goTo x u r s.toNat) s.toNat) (start x u)
/-- When services begin, and the first stop that is late (0: the depot; -1: none). -/
def timesOf (x : Look) (l : List Int) : List Int × Int := if l = [] then ([], -1) else let r := goTo x (unitOf x.mt) (along x (unitOf x.mt) l) 0; (r.out, r.late)
/-- What holds ahead of the loop's round k. -/
def TInv (x : Look) (l : List Int) (K Bk g6 Bn N0 : Nat) (v : Value) (W : World) (k : Nat) (v4 : Value) (wr : World) : Prop :=
  x.at wr K v ∧ wr.heap[Bk]? = some (.cells #[.pointer (some ⟨K, 0, none⟩)] 61 (0, 0)) ∧ wr.heap[Bk + 1]? = some (I1 (along x (unitOf x.mt) (l.take k)).late) ∧ wr.heap[g6]? = some (I1 (unitOf x.mt)) ∧
    wr.heap[Bn]? = some (I1 (along x (unitOf x.mt) (l.take k)).now) ∧ wr.heap[Bn + 1]? = some (I1 ((along x (unitOf x.mt) (l.take k)).at_ : Int)) ∧ Kd.R (Kd.int .i64) 3 wr Bk (fun j => N0 ≤ j) v4 (along x (unitOf x.mt) (l.take k)).out ∧
    Below Bk W wr ∧ N0 ≤ wr.heap.size ∧ (along x (unitOf x.mt) (l.take k)).at_ < x.ns.length ∧ (along x (unitOf x.mt) (l.take k)).out.length = k
theorem along_step (x : Look) (u : Int) (l : List Int) {k : Nat} (hk : k < l.length) : along x u (l.take (k + 1)) = serve x u (goTo x u (along x u (l.take k)) l[k].toNat) l[k].toNat := by
  unfold along
  rw [List.take_succ_eq_append_getElem hk, List.foldl_append]; rfl
theorem wrap_i (a b : Int) (h : wrap64 a = b) : IntKind.i64.wrap a = b := (i64_w _).trans h
set_option maxHeartbeats 8000000 in
set_option maxRecDepth 100000 in
theorem times_c (x : Look) (K : Nat) (v : Value) (A : Option Addr) (cap : Nat) (l : List Int) (W : World) (hK : x.at W K v) (hr : x.rows W) (hn : x.ns.length ≤ 65536) (hn0 : 0 < x.ns.length) (hl : Kd.C (Kd.int .i64) W A l.length l) (hll : l.length ≤ 1000000)
    (hin : ∀ s ∈ l, 0 ≤ s ∧ s < (x.ns.length : Int)) (hleg : ∀ i j, i < x.ns.length → j < x.ns.length → ∃ r2, legOf x i j = some (legP x i j, r2)) :
    Calls Try.prog 43 #[.pointer (some ⟨K, 0, none⟩), .slice A l.length cap] W fun e w' => ∃ v', e = .returned (.tuple #[v', .int .i64 (timesOf x l).2]) ∧ Kd.R (Kd.int .i64) 3 w' W.heap.size (fun _ => True) v' (timesOf x l).1 ∧ Below W.heap.size W w' := by
  have HU := Lib.hid (fun w' => unit_c x w')
  obtain ⟨X, hX⟩ : ∃ X : Look, X = x := ⟨_, rfl⟩
  rw [← hX]
  have HXat := Lib.hid (show X.at W K v by rw [hX]; exact hK)
  have HXr := Lib.hid (show X.rows W by rw [hX]; exact hr)
  have HLEG := Lib.hid (show ∀ i j, i < X.ns.length → j < X.ns.length → ∃ r2, legOf X i j = some (legP X i j, r2) by rw [hX]; exact hleg)
  have HIN := Lib.hid (show ∀ s ∈ l, 0 ≤ s ∧ s < (X.ns.length : Int) by rw [hX]; exact hin)
  clear hleg hin
  obtain ⟨nm, kd, mt, sc, cp, fl, A0, c, ns, B, e0, mx⟩ := x
  have HXns := Lib.hid (show X.ns = ns by rw [hX])
  have HXmt := Lib.hid (show X.mt = mt by rw [hX])
  have HXA0 := Lib.hid (show X.A = A0 by rw [hX])
  have HXc := Lib.hid (show X.c = c by rw [hX])
  clear hX
  unfold Look.at at hK
  unfold Look.val at HU
  simp only at hK hn hn0 HU
  by_cases hl0 : l = []
  · subst hl0
    have HB := Lib.hid (show Below W.heap.size W ((W.alloc (.cells #[.pointer (some ⟨K, 0, none⟩)] 61)).alloc (I1 (-1))).drew from Below.drew (((Below.refl _ W).alloc (Nat.le_refl _) _).alloc (by simp) _))
    clear hK hr hl hn hn0 hll HU
    go_enter Try.func43, Try.ntmps43
    go_wp2
    go_region
    go_wp2
    refine ⟨rfl, .tuple #[.slice none 0 0, .int .i64 (-1)], ?_, _, rfl, Kd.R_nil .., HB.out⟩
    simp [results, Try.f43, go_sem]
  have bk0 := ((W.alloc (.cells #[.pointer (some ⟨K, 0, none⟩)] 61)))
  have hBk0 := blk_alloc (heap_alloc_new W (.cells #[.pointer (some ⟨K, 0, none⟩)] 61)) (I1 (-1))
  have hBl0 := heap_alloc_new (W.alloc (.cells #[.pointer (some ⟨K, 0, none⟩)] 61)) (I1 (-1))
  have hW0 : Below W.heap.size W ((W.alloc (.cells #[.pointer (some ⟨K, 0, none⟩)] 61)).alloc (I1 (-1))) := ((Below.refl _ W).alloc (Nat.le_refl _) _).alloc (by simp) _
  rw [World.size_alloc] at hBl0
  clear bk0
  generalize hW1 : (W.alloc (.cells #[.pointer (some ⟨K, 0, none⟩)] 61)).alloc (I1 (-1)) = W1 at *
  obtain ⟨Bk, hBk⟩ : ∃ Bk, W.heap.size = Bk := ⟨_, rfl⟩
  rw [hBk] at hBk0 hBl0
  have hb0 : (l.length == 0) = false := beq_eq_false_iff_ne.2 (fun h => hl0 (List.length_eq_zero_iff.1 h))
  have hb1 : ((l.length : Int) == 0) = false := beq_eq_false_iff_ne.2 (fun h => hl0 (List.length_eq_zero_iff.1 (by omega)))
  obtain ⟨ad, e1, c0, c1, c2, c3, c4, c5, c6⟩ := at_T32 (Kd.C_below hr.1 hW0) 0 (by omega) (by show (0 : Int) < (ns.length : Int); omega)
  have e1 : A0 = some ad := e1
  have HXA := Lib.hid (HXA0.out.trans e1)
  clear HXA0
  subst e1
  rw [show (0 : Int).toNat * 7 = 0 from rfl] at c0 c1 c2 c3 c4 c5 c6
  obtain ⟨k0, k1, k2, k3, k4, k5, k6, k7, k8, f0, f1, f2, f3, f4, f5, f6, f7, f8⟩ := blk9_ (blk_below hK hW0)
  have HS := Lib.hid (show ∀ w', Below W1.heap.size W1 w' → (w'.cell? ⟨Bk, 0, none⟩ = some (.pointer (some ⟨K, 0, none⟩)) ∧ w'.cell? ⟨K, 0, none⟩ = some (.string nm) ∧ w'.cell? ⟨K, 1, none⟩ = some (.int .i64 kd) ∧ w'.cell? ⟨K, 2, none⟩ = some (.int .i64 mt) ∧ w'.cell? ⟨K, 3, none⟩ = some (.int .i64 sc) ∧ w'.cell? ⟨K, 4, none⟩ = some (.int .i64 cp) ∧ w'.cell? ⟨K, 5, none⟩ = some (.int .i64 fl) ∧ w'.cell? ⟨K, 6, none⟩ = some (.slice (some ad) ns.length c) ∧ w'.cell? ⟨K, 7, none⟩ = some (.slice B mx.length e0) ∧ w'.cell? ad = some (.int .i64 (rd_T32 ns 0).f0) ∧ w'.cell? ⟨ad.block, ad.off + 1, none⟩ = some (.int .i64 (rd_T32 ns 0).f1) ∧ w'.cell? ⟨ad.block, ad.off + 2, none⟩ = some (.int .i64 (rd_T32 ns 0).f2) ∧ w'.cell? ⟨ad.block, ad.off + 3, none⟩ = some (.int .i64 (rd_T32 ns 0).f3) ∧ w'.cell? ⟨ad.block, ad.off + 4, none⟩ = some (.int .i64 (rd_T32 ns 0).f4) ∧ w'.cell? ⟨ad.block, ad.off + 5, none⟩ = some (.int .i64 (rd_T32 ns 0).f5) ∧ w'.cell? ⟨ad.block, ad.off + 6, none⟩ = some (.int .i64 (rd_T32 ns 0).f6) ∧ Below W1.heap.size W1 w') from fun w' hb => ⟨old_cell hb (blk1_ hBk0).1, old_cell hb k0, old_cell hb k1, old_cell hb k2, old_cell hb k3, old_cell hb k4, old_cell hb k5, old_cell hb k6, old_cell hb k7, old_cell hb c0, old_cell hb c1, old_cell hb c2, old_cell hb c3, old_cell hb c4, old_cell hb c5, old_cell hb c6, hb⟩)
  have HW := Lib.hid hW1
  have HK := Lib.hid hBk
  have HB0 := Lib.hid hW0
  have HBk := Lib.hid hBk0
  have HBl := Lib.hid hBl0
  have HR := Lib.hid hr
  have HL := Lib.hid hl
  have HN0 := Lib.hid hl0
  have p0 : (0 : Int) ≤ 0 ∧ (0 : Int) < (ns.length : Int) := by omega
  clear hK hW1 hBk hW0 hBk0 hBl0 hr hl hl0 c0 c1 c2 c3 c4 c5 c6 k0 k1 k2 k3 k4 k5 k6 k7 k8 f0 f1 f2 f3 f4 f5 f6 f7 f8
  go_enter Try.func43, Try.ntmps43
  go_upto_region 4 with (fail)
  rw [HW.out, HK.out]
  -- REGION
  refine start_ (n := 16) (S := fun w' => w'.cell? ⟨Bk, 0, none⟩ = some (.pointer (some ⟨K, 0, none⟩)) ∧ w'.cell? ⟨K, 0, none⟩ = some (.string nm) ∧ w'.cell? ⟨K, 1, none⟩ = some (.int .i64 kd) ∧ w'.cell? ⟨K, 2, none⟩ = some (.int .i64 mt) ∧ w'.cell? ⟨K, 3, none⟩ = some (.int .i64 sc) ∧ w'.cell? ⟨K, 4, none⟩ = some (.int .i64 cp) ∧ w'.cell? ⟨K, 5, none⟩ = some (.int .i64 fl) ∧ w'.cell? ⟨K, 6, none⟩ = some (.slice (some ad) ns.length c) ∧ w'.cell? ⟨K, 7, none⟩ = some (.slice B mx.length e0) ∧ w'.cell? ad = some (.int .i64 (rd_T32 ns 0).f0) ∧ w'.cell? ⟨ad.block, ad.off + 1, none⟩ = some (.int .i64 (rd_T32 ns 0).f1) ∧ w'.cell? ⟨ad.block, ad.off + 2, none⟩ = some (.int .i64 (rd_T32 ns 0).f2) ∧ w'.cell? ⟨ad.block, ad.off + 3, none⟩ = some (.int .i64 (rd_T32 ns 0).f3) ∧ w'.cell? ⟨ad.block, ad.off + 4, none⟩ = some (.int .i64 (rd_T32 ns 0).f4) ∧ w'.cell? ⟨ad.block, ad.off + 5, none⟩ = some (.int .i64 (rd_T32 ns 0).f5) ∧ w'.cell? ⟨ad.block, ad.off + 6, none⟩ = some (.int .i64 (rd_T32 ns 0).f6) ∧ Below W1.heap.size W1 w') (ds := [15]) #[false, false, false, false, false, false, false, false, false, false, false, false, false, false, false, false] (by kernel_rfl) rfl rfl (HS.out _ (below_drew1 (Below.refl _ _))) (fun hHeld => ?_)
  refine take_ (i := 0) (N := some 18) (v := ?_) (a' := ?_) #[true, false, false, false, false, false, false, false, false, false, false, false, false, false, false, false] rfl rfl (by kernel_rfl) (fun _ _ _ h => h) (Or.inl ⟨by rfl, ?_⟩) hHeld ?_ ?_
  rotate_left
  · rintro w' ⟨s0, s1, s2, s3, s4, s5, s6, s7, s8, s9, s10, s11, s12, s13, s14, s15, s16⟩
    go_simp
    with_reducible rfl
  rotate_left
  · simp only [Act.put, List.setIfInBounds_toArray, List.set_cons_zero, List.set_cons_succ, i64_w, i32_w]
    rfl
  refine pure_ (i := 1) (N := some 19) (v := ?_) (a' := ?_) #[true, true, false, false, false, false, false, false, false, false, false, false, false, false, false, false] rfl rfl (by kernel_rfl) (fun _ _ _ h => h) (Or.inl ⟨by rfl, ?_⟩) ?_ ?_
  rotate_left
  · intro w'
    go_simp
    with_reducible rfl
  rotate_left
  · simp only [Act.put, List.setIfInBounds_toArray, List.set_cons_zero, List.set_cons_succ, i64_w, i32_w]
    rfl
  refine pure_ (i := 2) (N := some 20) (v := ?_) (a' := ?_) #[true, true, true, false, false, false, false, false, false, false, false, false, false, false, false, false] rfl rfl (by kernel_rfl) (fun _ _ _ h => h) (Or.inl ⟨by rfl, ?_⟩) ?_ ?_
  rotate_left
  · intro w'
    go_simp
    with_reducible rfl
  rotate_left
  · simp only [Act.put, List.setIfInBounds_toArray, List.set_cons_zero, List.set_cons_succ, i64_w, i32_w]
    rfl
  refine take_ (i := 3) (N := some 21) (v := ?_) (a' := ?_) #[true, true, true, true, false, false, false, false, false, false, false, false, false, false, false, false] rfl rfl (by kernel_rfl) (fun _ _ _ h => h) (Or.inl ⟨by rfl, ?_⟩) hHeld ?_ ?_
  rotate_left
  · rintro w' ⟨s0, s1, s2, s3, s4, s5, s6, s7, s8, s9, s10, s11, s12, s13, s14, s15, s16⟩
    go_simp
    with_reducible rfl
  rotate_left
  · simp only [Act.put, List.setIfInBounds_toArray, List.set_cons_zero, List.set_cons_succ, i64_w, i32_w]
    rfl
  refine take_ (i := 5) (N := some 23) (v := ?_) (a' := ?_) #[true, true, true, true, false, true, false, false, false, false, false, false, false, false, false, false] rfl rfl (by kernel_rfl) (fun _ _ _ h => h) (Or.inl ⟨by rfl, ?_⟩) hHeld ?_ ?_
  rotate_left
  · rintro w' ⟨s0, s1, s2, s3, s4, s5, s6, s7, s8, s9, s10, s11, s12, s13, s14, s15, s16⟩
    go_simp
    with_reducible rfl
  rotate_left
  · simp only [Act.put, List.setIfInBounds_toArray, List.set_cons_zero, List.set_cons_succ, i64_w, i32_w]
    rfl
  refine pure_ (i := 6) (N := some 24) (v := ?_) (a' := ?_) #[true, true, true, true, false, true, true, false, false, false, false, false, false, false, false, false] rfl rfl (by kernel_rfl) (fun _ _ _ h => h) (Or.inl ⟨by rfl, ?_⟩) ?_ ?_
  rotate_left
  · intro w'
    go_simp
    with_reducible rfl
  rotate_left
  · simp only [Act.put, List.setIfInBounds_toArray, List.set_cons_zero, List.set_cons_succ, i64_w, i32_w]
    rfl
  refine pure_ (i := 7) (N := some 25) (v := ?_) (a' := ?_) #[true, true, true, true, false, true, true, true, false, false, false, false, false, false, false, false] rfl rfl (by kernel_rfl) (fun _ _ _ h => h) (Or.inl ⟨by rfl, ?_⟩) ?_ ?_
  rotate_left
  · intro w'
    go_simp
    with_reducible rfl
  rotate_left
  · simp only [Act.put, List.setIfInBounds_toArray, List.set_cons_zero, List.set_cons_succ, i64_w, i32_w]
    rfl
  refine pure_ (i := 8) (N := some 26) (v := ?_) (a' := ?_) #[true, true, true, true, false, true, true, true, true, false, false, false, false, false, false, false] rfl rfl (by kernel_rfl) (fun _ _ _ h => h) (Or.inl ⟨by rfl, ?_⟩) ?_ ?_
  rotate_left
  · intro w'
    go_simp
    with_reducible rfl
  rotate_left
  · simp only [Act.put, List.setIfInBounds_toArray, List.set_cons_zero, List.set_cons_succ, i64_w, i32_w]
    rfl
  refine take_ (i := 9) (N := some 27) (v := ?_) (a' := ?_) #[true, true, true, true, false, true, true, true, true, true, false, false, false, false, false, false] rfl rfl (by kernel_rfl) (fun _ _ _ h => h) (Or.inl ⟨by rfl, ?_⟩) hHeld ?_ ?_
  rotate_left
  · rintro w' ⟨s0, s1, s2, s3, s4, s5, s6, s7, s8, s9, s10, s11, s12, s13, s14, s15, s16⟩
    go_simp
    with_reducible rfl
  rotate_left
  · simp only [Act.put, List.setIfInBounds_toArray, List.set_cons_zero, List.set_cons_succ, i64_w, i32_w]
    rfl
  refine pure_ (i := 10) (N := some 28) (v := ?_) (a' := ?_) #[true, true, true, true, false, true, true, true, true, true, true, false, false, false, false, false] rfl rfl (by kernel_rfl) (fun _ _ _ h => h) (Or.inl ⟨by rfl, ?_⟩) ?_ ?_
  rotate_left
  · intro w'
    go_simp
    with_reducible rfl
  rotate_left
  · simp only [Act.put, List.setIfInBounds_toArray, List.set_cons_zero, List.set_cons_succ, i64_w, i32_w]
    rfl
  refine take_ (i := 11) (N := some 29) (v := ?_) (a' := ?_) #[true, true, true, true, false, true, true, true, true, true, true, true, false, false, false, false] rfl rfl (by kernel_rfl) (fun _ _ _ h => h) (Or.inl ⟨by rfl, ?_⟩) hHeld ?_ ?_
  rotate_left
  · rintro w' ⟨s0, s1, s2, s3, s4, s5, s6, s7, s8, s9, s10, s11, s12, s13, s14, s15, s16⟩
    go_simp
    with_reducible rfl
  rotate_left
  · simp only [Act.put, List.setIfInBounds_toArray, List.set_cons_zero, List.set_cons_succ, i64_w, i32_w]
    rfl
  refine join_ (σ := Nat × Nat) 2 #[true, true, true, true, true, true, true, true, true, true, true, true, true, true, false, false] (fun s_ => [(22, .int .i64 (unitOf mt)), (6, .pointer (some ⟨s_.1, 0, none⟩)), (7, .pointer (some ⟨s_.2, 0, none⟩))]) (fun s_ w' => (w'.cell? ⟨Bk, 0, none⟩ = some (.pointer (some ⟨K, 0, none⟩)) ∧ w'.cell? ⟨K, 0, none⟩ = some (.string nm) ∧ w'.cell? ⟨K, 1, none⟩ = some (.int .i64 kd) ∧ w'.cell? ⟨K, 2, none⟩ = some (.int .i64 mt) ∧ w'.cell? ⟨K, 3, none⟩ = some (.int .i64 sc) ∧ w'.cell? ⟨K, 4, none⟩ = some (.int .i64 cp) ∧ w'.cell? ⟨K, 5, none⟩ = some (.int .i64 fl) ∧ w'.cell? ⟨K, 6, none⟩ = some (.slice (some ad) ns.length c) ∧ w'.cell? ⟨K, 7, none⟩ = some (.slice B mx.length e0) ∧ w'.cell? ad = some (.int .i64 (rd_T32 ns 0).f0) ∧ w'.cell? ⟨ad.block, ad.off + 1, none⟩ = some (.int .i64 (rd_T32 ns 0).f1) ∧ w'.cell? ⟨ad.block, ad.off + 2, none⟩ = some (.int .i64 (rd_T32 ns 0).f2) ∧ w'.cell? ⟨ad.block, ad.off + 3, none⟩ = some (.int .i64 (rd_T32 ns 0).f3) ∧ w'.cell? ⟨ad.block, ad.off + 4, none⟩ = some (.int .i64 (rd_T32 ns 0).f4) ∧ w'.cell? ⟨ad.block, ad.off + 5, none⟩ = some (.int .i64 (rd_T32 ns 0).f5) ∧ w'.cell? ⟨ad.block, ad.off + 6, none⟩ = some (.int .i64 (rd_T32 ns 0).f6) ∧ Below W1.heap.size W1 w') ∧ w'.heap[s_.1]? = some (.cells #[.int .i64 0] 3 (0, 0)) ∧ w'.heap[s_.2]? = some (.cells #[.int .i64 0, .int .i64 0, .int .i64 0, .int .i64 0, .int .i64 0, .int .i64 0, .int .i64 0] 32 (0, 0)) ∧ W1.heap.size ≤ s_.1 ∧ W1.heap.size ≤ s_.2 ∧ s_.1 ≠ s_.2) ?_ ?_
  rotate_left
  · intro hCont
    refine three_ (i := 4) (j := 12) (k := 13) (Ni := some 22) (Nj := some 6) (Nk := some 7) #[true, true, true, true, true, true, true, true, true, true, true, true, false, false, false, false] #[true, true, true, true, false, true, true, true, true, true, true, true, true, false, false, false] #[true, true, true, true, false, true, true, true, true, true, true, true, false, true, false, false] rfl rfl rfl rfl rfl rfl (by kernel_rfl) (by decide) (by decide) (by decide) (fun K hK => ?_) (fun K hK => ?_) (fun K hK => ?_)
    · skip
      have hbl0 := hHeld.2.2.2.2.2.2.2.2.2.2.2.2.2.2.2.2
      refine goes_ Try.func46 (by kernel_rfl) rfl #[.agg #[.string nm, .int .i64 kd, .int .i64 mt, .int .i64 sc, .int .i64 cp, .int .i64 fl, .slice (some ad) ns.length c, .slice B mx.length e0]] (by rfl) rfl rfl (by simp only [List.map_toArray, List.map_cons, List.map_nil]; rfl) ?_
      with_reducible refine (HU.out _).mono ?_
      rintro e wc ⟨rfl, hb⟩
      refine ⟨_, rfl, ?_⟩
      have hbn0 := hbl0.trans (hb.mono hbl0.size)
      clear hb hbl0
      refine hK.out _ _ (HS.out _ hbn0) (fun hHeld => ?_)
      clear hK K
      refine norm_ (a' := ?_) ?_ ?_
      rotate_left
      · show Act.put _ (some 22) _ = _
        simp only [Act.put, List.setIfInBounds_toArray, List.set_cons_zero, List.set_cons_succ, i64_w, i32_w]
        rfl
      refine two_ (i := 12) (j := 13) (Ni := some 6) (Nj := some 7) #[true, true, true, true, true, true, true, true, true, true, true, true, true, false, false, false] #[true, true, true, true, true, true, true, true, true, true, true, true, false, true, false, false] rfl rfl rfl rfl (by kernel_rfl) (by decide) (by decide) (fun K hK => ?_) (fun K hK => ?_)
      · skip
        have hbl1 := hHeld.2.2.2.2.2.2.2.2.2.2.2.2.2.2.2.2
        refine box_step ?hg (N := 6) ?hd (cs := #[.int .i64 0]) (t := 3) ?hr ?_; (case hd => rfl); (case hg => rfl); (case hr => first | (go_simp; done) | (go_simp; rfl))
        intro g6 hg6 w6 hZ6 hb
        have hs6 : W1.heap.size ≤ g6 := by rw [hg6]; exact hbl1.size
        have hbn1 := hbl1.trans (hb.mono hbl1.size)
        clear hb hbl1
        refine hK.out _ _ (HS.out _ hbn1) (fun hHeld => ?_)
        clear hK K
        refine norm_ (a' := ?_) ?_ ?_
        rotate_left
        · show Act.put _ (some 6) _ = _
          simp only [Act.put, List.setIfInBounds_toArray, List.set_cons_zero, List.set_cons_succ, i64_w, i32_w]
          rfl
        refine one_ (i := 13) (N := some 7) #[true, true, true, true, true, true, true, true, true, true, true, true, true, true, false, false] rfl rfl (by kernel_rfl) (by decide) (fun K hK => ?_)
        have hY6 := hZ6
        have hbl2 := hHeld.2.2.2.2.2.2.2.2.2.2.2.2.2.2.2.2
        refine box_step ?hg (N := 7) ?hd (cs := #[.int .i64 0, .int .i64 0, .int .i64 0, .int .i64 0, .int .i64 0, .int .i64 0, .int .i64 0]) (t := 32) ?hr ?_; (case hd => rfl); (case hg => rfl); (case hr => first | (go_simp; done) | (go_simp; rfl))
        intro g7 hg7 w7 hZ7 hb
        have hs7 : W1.heap.size ≤ g7 := by rw [hg7]; exact hbl2.size
        have hbn2 := hbl2.trans (hb.mono hbl2.size)
        have hZ6 := blk_below hZ6 hb
        have hne : g6 ≠ g7 := by rw [hg7]; exact Nat.ne_of_lt (blk_lt hY6)
        clear hb hbl2
        refine hK.out _ _ (HS.out _ hbn2) (fun hHeld => ?_)
        clear hK K
        refine norm_ (a' := ?_) ?_ ?_
        rotate_left
        · show Act.put _ (some 7) _ = _
          simp only [Act.put, List.setIfInBounds_toArray, List.set_cons_zero, List.set_cons_succ, i64_w, i32_w]
          rfl
        exact norm_ (by simp only [putAll, Act.put, List.setIfInBounds_toArray, List.set_cons_zero, List.set_cons_succ]) (hCont (g6, g7) _ ⟨hHeld, hZ6, hZ7, hs6, hs7, hne⟩)
      · skip
        have hbl1 := hHeld.2.2.2.2.2.2.2.2.2.2.2.2.2.2.2.2
        refine box_step ?hg (N := 7) ?hd (cs := #[.int .i64 0, .int .i64 0, .int .i64 0, .int .i64 0, .int .i64 0, .int .i64 0, .int .i64 0]) (t := 32) ?hr ?_; (case hd => rfl); (case hg => rfl); (case hr => first | (go_simp; done) | (go_simp; rfl))
        intro g7 hg7 w7 hZ7 hb
        have hs7 : W1.heap.size ≤ g7 := by rw [hg7]; exact hbl1.size
        have hbn1 := hbl1.trans (hb.mono hbl1.size)
        clear hb hbl1
        refine hK.out _ _ (HS.out _ hbn1) (fun hHeld => ?_)
        clear hK K
        refine norm_ (a' := ?_) ?_ ?_
        rotate_left
        · show Act.put _ (some 7) _ = _
          simp only [Act.put, List.setIfInBounds_toArray, List.set_cons_zero, List.set_cons_succ, i64_w, i32_w]
          rfl
        refine one_ (i := 12) (N := some 6) #[true, true, true, true, true, true, true, true, true, true, true, true, true, true, false, false] rfl rfl (by kernel_rfl) (by decide) (fun K hK => ?_)
        have hY7 := hZ7
        have hbl2 := hHeld.2.2.2.2.2.2.2.2.2.2.2.2.2.2.2.2
        refine box_step ?hg (N := 6) ?hd (cs := #[.int .i64 0]) (t := 3) ?hr ?_; (case hd => rfl); (case hg => rfl); (case hr => first | (go_simp; done) | (go_simp; rfl))
        intro g6 hg6 w6 hZ6 hb
        have hs6 : W1.heap.size ≤ g6 := by rw [hg6]; exact hbl2.size
        have hbn2 := hbl2.trans (hb.mono hbl2.size)
        have hZ7 := blk_below hZ7 hb
        have hne : g7 ≠ g6 := by rw [hg6]; exact Nat.ne_of_lt (blk_lt hY7)
        clear hb hbl2
        refine hK.out _ _ (HS.out _ hbn2) (fun hHeld => ?_)
        clear hK K
        refine norm_ (a' := ?_) ?_ ?_
        rotate_left
        · show Act.put _ (some 6) _ = _
          simp only [Act.put, List.setIfInBounds_toArray, List.set_cons_zero, List.set_cons_succ, i64_w, i32_w]
          rfl
        exact norm_ (by simp only [putAll, Act.put, List.setIfInBounds_toArray, List.set_cons_zero, List.set_cons_succ]) (hCont (g6, g7) _ ⟨hHeld, hZ6, hZ7, hs6, hs7, fun e => hne e.symm⟩)
    · skip
      have hbl0 := hHeld.2.2.2.2.2.2.2.2.2.2.2.2.2.2.2.2
      refine box_step ?hg (N := 6) ?hd (cs := #[.int .i64 0]) (t := 3) ?hr ?_; (case hd => rfl); (case hg => rfl); (case hr => first | (go_simp; done) | (go_simp; rfl))
      intro g6 hg6 w6 hZ6 hb
      have hs6 : W1.heap.size ≤ g6 := by rw [hg6]; exact hbl0.size
      have hbn0 := hbl0.trans (hb.mono hbl0.size)
      clear hb hbl0
      refine hK.out _ _ (HS.out _ hbn0) (fun hHeld => ?_)
      clear hK K
      refine norm_ (a' := ?_) ?_ ?_
      rotate_left
      · show Act.put _ (some 6) _ = _
        simp only [Act.put, List.setIfInBounds_toArray, List.set_cons_zero, List.set_cons_succ, i64_w, i32_w]
        rfl
      refine two_ (i := 4) (j := 13) (Ni := some 22) (Nj := some 7) #[true, true, true, true, true, true, true, true, true, true, true, true, true, false, false, false] #[true, true, true, true, false, true, true, true, true, true, true, true, true, true, false, false] rfl rfl rfl rfl (by kernel_rfl) (by decide) (by decide) (fun K hK => ?_) (fun K hK => ?_)
      · skip
        have hY6 := hZ6
        have hbl1 := hHeld.2.2.2.2.2.2.2.2.2.2.2.2.2.2.2.2
        refine goes_ Try.func46 (by kernel_rfl) rfl #[.agg #[.string nm, .int .i64 kd, .int .i64 mt, .int .i64 sc, .int .i64 cp, .int .i64 fl, .slice (some ad) ns.length c, .slice B mx.length e0]] (by rfl) rfl rfl (by simp only [List.map_toArray, List.map_cons, List.map_nil]; rfl) ?_
        with_reducible refine (HU.out _).mono ?_
        rintro e wc ⟨rfl, hb⟩
        refine ⟨_, rfl, ?_⟩
        have hbn1 := hbl1.trans (hb.mono hbl1.size)
        have hZ6 := blk_below hZ6 hb
        clear hb hbl1
        refine hK.out _ _ (HS.out _ hbn1) (fun hHeld => ?_)
        clear hK K
        refine norm_ (a' := ?_) ?_ ?_
        rotate_left
        · show Act.put _ (some 22) _ = _
          simp only [Act.put, List.setIfInBounds_toArray, List.set_cons_zero, List.set_cons_succ, i64_w, i32_w]
          rfl
        refine one_ (i := 13) (N := some 7) #[true, true, true, true, true, true, true, true, true, true, true, true, true, true, false, false] rfl rfl (by kernel_rfl) (by decide) (fun K hK => ?_)
        have hY6 := hZ6
        have hbl2 := hHeld.2.2.2.2.2.2.2.2.2.2.2.2.2.2.2.2
        refine box_step ?hg (N := 7) ?hd (cs := #[.int .i64 0, .int .i64 0, .int .i64 0, .int .i64 0, .int .i64 0, .int .i64 0, .int .i64 0]) (t := 32) ?hr ?_; (case hd => rfl); (case hg => rfl); (case hr => first | (go_simp; done) | (go_simp; rfl))
        intro g7 hg7 w7 hZ7 hb
        have hs7 : W1.heap.size ≤ g7 := by rw [hg7]; exact hbl2.size
        have hbn2 := hbl2.trans (hb.mono hbl2.size)
        have hZ6 := blk_below hZ6 hb
        have hne : g6 ≠ g7 := by rw [hg7]; exact Nat.ne_of_lt (blk_lt hY6)
        clear hb hbl2
        refine hK.out _ _ (HS.out _ hbn2) (fun hHeld => ?_)
        clear hK K
        refine norm_ (a' := ?_) ?_ ?_
        rotate_left
        · show Act.put _ (some 7) _ = _
          simp only [Act.put, List.setIfInBounds_toArray, List.set_cons_zero, List.set_cons_succ, i64_w, i32_w]
          rfl
        exact norm_ (by simp only [putAll, Act.put, List.setIfInBounds_toArray, List.set_cons_zero, List.set_cons_succ]) (hCont (g6, g7) _ ⟨hHeld, hZ6, hZ7, hs6, hs7, hne⟩)
      · skip
        have hY6 := hZ6
        have hbl1 := hHeld.2.2.2.2.2.2.2.2.2.2.2.2.2.2.2.2
        refine box_step ?hg (N := 7) ?hd (cs := #[.int .i64 0, .int .i64 0, .int .i64 0, .int .i64 0, .int .i64 0, .int .i64 0, .int .i64 0]) (t := 32) ?hr ?_; (case hd => rfl); (case hg => rfl); (case hr => first | (go_simp; done) | (go_simp; rfl))
        intro g7 hg7 w7 hZ7 hb
        have hs7 : W1.heap.size ≤ g7 := by rw [hg7]; exact hbl1.size
        have hbn1 := hbl1.trans (hb.mono hbl1.size)
        have hZ6 := blk_below hZ6 hb
        have hne : g6 ≠ g7 := by rw [hg7]; exact Nat.ne_of_lt (blk_lt hY6)
        clear hb hbl1
        refine hK.out _ _ (HS.out _ hbn1) (fun hHeld => ?_)
        clear hK K
        refine norm_ (a' := ?_) ?_ ?_
        rotate_left
        · show Act.put _ (some 7) _ = _
          simp only [Act.put, List.setIfInBounds_toArray, List.set_cons_zero, List.set_cons_succ, i64_w, i32_w]
          rfl
        refine one_ (i := 4) (N := some 22) #[true, true, true, true, true, true, true, true, true, true, true, true, true, true, false, false] rfl rfl (by kernel_rfl) (by decide) (fun K hK => ?_)
        have hY6 := hZ6
        have hY7 := hZ7
        have hbl2 := hHeld.2.2.2.2.2.2.2.2.2.2.2.2.2.2.2.2
        refine goes_ Try.func46 (by kernel_rfl) rfl #[.agg #[.string nm, .int .i64 kd, .int .i64 mt, .int .i64 sc, .int .i64 cp, .int .i64 fl, .slice (some ad) ns.length c, .slice B mx.length e0]] (by rfl) rfl rfl (by simp only [List.map_toArray, List.map_cons, List.map_nil]; rfl) ?_
        with_reducible refine (HU.out _).mono ?_
        rintro e wc ⟨rfl, hb⟩
        refine ⟨_, rfl, ?_⟩
        have hbn2 := hbl2.trans (hb.mono hbl2.size)
        have hZ6 := blk_below hZ6 hb
        have hZ7 := blk_below hZ7 hb
        clear hb hbl2
        refine hK.out _ _ (HS.out _ hbn2) (fun hHeld => ?_)
        clear hK K
        refine norm_ (a' := ?_) ?_ ?_
        rotate_left
        · show Act.put _ (some 22) _ = _
          simp only [Act.put, List.setIfInBounds_toArray, List.set_cons_zero, List.set_cons_succ, i64_w, i32_w]
          rfl
        exact norm_ (by simp only [putAll, Act.put, List.setIfInBounds_toArray, List.set_cons_zero, List.set_cons_succ]) (hCont (g6, g7) _ ⟨hHeld, hZ6, hZ7, hs6, hs7, hne⟩)
    · skip
      have hbl0 := hHeld.2.2.2.2.2.2.2.2.2.2.2.2.2.2.2.2
      refine box_step ?hg (N := 7) ?hd (cs := #[.int .i64 0, .int .i64 0, .int .i64 0, .int .i64 0, .int .i64 0, .int .i64 0, .int .i64 0]) (t := 32) ?hr ?_; (case hd => rfl); (case hg => rfl); (case hr => first | (go_simp; done) | (go_simp; rfl))
      intro g7 hg7 w7 hZ7 hb
      have hs7 : W1.heap.size ≤ g7 := by rw [hg7]; exact hbl0.size
      have hbn0 := hbl0.trans (hb.mono hbl0.size)
      clear hb hbl0
      refine hK.out _ _ (HS.out _ hbn0) (fun hHeld => ?_)
      clear hK K
      refine norm_ (a' := ?_) ?_ ?_
      rotate_left
      · show Act.put _ (some 7) _ = _
        simp only [Act.put, List.setIfInBounds_toArray, List.set_cons_zero, List.set_cons_succ, i64_w, i32_w]
        rfl
      refine two_ (i := 4) (j := 12) (Ni := some 22) (Nj := some 6) #[true, true, true, true, true, true, true, true, true, true, true, true, false, true, false, false] #[true, true, true, true, false, true, true, true, true, true, true, true, true, true, false, false] rfl rfl rfl rfl (by kernel_rfl) (by decide) (by decide) (fun K hK => ?_) (fun K hK => ?_)
      · skip
        have hY7 := hZ7
        have hbl1 := hHeld.2.2.2.2.2.2.2.2.2.2.2.2.2.2.2.2
        refine goes_ Try.func46 (by kernel_rfl) rfl #[.agg #[.string nm, .int .i64 kd, .int .i64 mt, .int .i64 sc, .int .i64 cp, .int .i64 fl, .slice (some ad) ns.length c, .slice B mx.length e0]] (by rfl) rfl rfl (by simp only [List.map_toArray, List.map_cons, List.map_nil]; rfl) ?_
        with_reducible refine (HU.out _).mono ?_
        rintro e wc ⟨rfl, hb⟩
        refine ⟨_, rfl, ?_⟩
        have hbn1 := hbl1.trans (hb.mono hbl1.size)
        have hZ7 := blk_below hZ7 hb
        clear hb hbl1
        refine hK.out _ _ (HS.out _ hbn1) (fun hHeld => ?_)
        clear hK K
        refine norm_ (a' := ?_) ?_ ?_
        rotate_left
        · show Act.put _ (some 22) _ = _
          simp only [Act.put, List.setIfInBounds_toArray, List.set_cons_zero, List.set_cons_succ, i64_w, i32_w]
          rfl
        refine one_ (i := 12) (N := some 6) #[true, true, true, true, true, true, true, true, true, true, true, true, true, true, false, false] rfl rfl (by kernel_rfl) (by decide) (fun K hK => ?_)
        have hY7 := hZ7
        have hbl2 := hHeld.2.2.2.2.2.2.2.2.2.2.2.2.2.2.2.2
        refine box_step ?hg (N := 6) ?hd (cs := #[.int .i64 0]) (t := 3) ?hr ?_; (case hd => rfl); (case hg => rfl); (case hr => first | (go_simp; done) | (go_simp; rfl))
        intro g6 hg6 w6 hZ6 hb
        have hs6 : W1.heap.size ≤ g6 := by rw [hg6]; exact hbl2.size
        have hbn2 := hbl2.trans (hb.mono hbl2.size)
        have hZ7 := blk_below hZ7 hb
        have hne : g7 ≠ g6 := by rw [hg6]; exact Nat.ne_of_lt (blk_lt hY7)
        clear hb hbl2
        refine hK.out _ _ (HS.out _ hbn2) (fun hHeld => ?_)
        clear hK K
        refine norm_ (a' := ?_) ?_ ?_
        rotate_left
        · show Act.put _ (some 6) _ = _
          simp only [Act.put, List.setIfInBounds_toArray, List.set_cons_zero, List.set_cons_succ, i64_w, i32_w]
          rfl
        exact norm_ (by simp only [putAll, Act.put, List.setIfInBounds_toArray, List.set_cons_zero, List.set_cons_succ]) (hCont (g6, g7) _ ⟨hHeld, hZ6, hZ7, hs6, hs7, fun e => hne e.symm⟩)
      · skip
        have hY7 := hZ7
        have hbl1 := hHeld.2.2.2.2.2.2.2.2.2.2.2.2.2.2.2.2
        refine box_step ?hg (N := 6) ?hd (cs := #[.int .i64 0]) (t := 3) ?hr ?_; (case hd => rfl); (case hg => rfl); (case hr => first | (go_simp; done) | (go_simp; rfl))
        intro g6 hg6 w6 hZ6 hb
        have hs6 : W1.heap.size ≤ g6 := by rw [hg6]; exact hbl1.size
        have hbn1 := hbl1.trans (hb.mono hbl1.size)
        have hZ7 := blk_below hZ7 hb
        have hne : g7 ≠ g6 := by rw [hg6]; exact Nat.ne_of_lt (blk_lt hY7)
        clear hb hbl1
        refine hK.out _ _ (HS.out _ hbn1) (fun hHeld => ?_)
        clear hK K
        refine norm_ (a' := ?_) ?_ ?_
        rotate_left
        · show Act.put _ (some 6) _ = _
          simp only [Act.put, List.setIfInBounds_toArray, List.set_cons_zero, List.set_cons_succ, i64_w, i32_w]
          rfl
        refine one_ (i := 4) (N := some 22) #[true, true, true, true, true, true, true, true, true, true, true, true, true, true, false, false] rfl rfl (by kernel_rfl) (by decide) (fun K hK => ?_)
        have hY7 := hZ7
        have hY6 := hZ6
        have hbl2 := hHeld.2.2.2.2.2.2.2.2.2.2.2.2.2.2.2.2
        refine goes_ Try.func46 (by kernel_rfl) rfl #[.agg #[.string nm, .int .i64 kd, .int .i64 mt, .int .i64 sc, .int .i64 cp, .int .i64 fl, .slice (some ad) ns.length c, .slice B mx.length e0]] (by rfl) rfl rfl (by simp only [List.map_toArray, List.map_cons, List.map_nil]; rfl) ?_
        with_reducible refine (HU.out _).mono ?_
        rintro e wc ⟨rfl, hb⟩
        refine ⟨_, rfl, ?_⟩
        have hbn2 := hbl2.trans (hb.mono hbl2.size)
        have hZ7 := blk_below hZ7 hb
        have hZ6 := blk_below hZ6 hb
        clear hb hbl2
        refine hK.out _ _ (HS.out _ hbn2) (fun hHeld => ?_)
        clear hK K
        refine norm_ (a' := ?_) ?_ ?_
        rotate_left
        · show Act.put _ (some 22) _ = _
          simp only [Act.put, List.setIfInBounds_toArray, List.set_cons_zero, List.set_cons_succ, i64_w, i32_w]
          rfl
        exact norm_ (by simp only [putAll, Act.put, List.setIfInBounds_toArray, List.set_cons_zero, List.set_cons_succ]) (hCont (g6, g7) _ ⟨hHeld, hZ6, hZ7, hs6, hs7, fun e => hne e.symm⟩)
  rintro ⟨g6, g7⟩ w4 ⟨hHeld, h6, h7, hg6, hg7, hne⟩
  refine norm_ (a' := ?_) ?_ ?_
  rotate_left
  · simp only [putAll, Act.put, List.setIfInBounds_toArray, List.set_cons_zero, List.set_cons_succ]
    rfl
  refine one_ (i := 14) (N := none) #[true, true, true, true, true, true, true, true, true, true, true, true, true, true, true, false] rfl rfl (by kernel_rfl) (by decide) (fun K hK => ?_)
  obtain ⟨a0, b0⟩ := blk1_ h6
  have hbl := hHeld.2.2.2.2.2.2.2.2.2.2.2.2.2.2.2.2
  refine skip_ (w1 := ?_) (by rfl) rfl ?_ ?_
  rotate_left
  · go_simp
    rfl
  clear a0 b0
  refine hK.out _ _ (HS.out _ (hbl.setCell (p := ⟨g6, 0, none⟩) hg6 _)) (fun hHeld => ?_)
  clear hK K
  have q6 : Aside0 ((w4.setCell ⟨g6, 0, none⟩ (.int .i64 (unitOf mt))).heap[g6]? = some (I1 (unitOf mt))) := ⟨blk_put h6 0 _ rfl⟩
  have q7 : Aside0 ((w4.setCell ⟨g6, 0, none⟩ (.int .i64 (unitOf mt))).heap[g7]? = _) := ⟨blk_far (p := ⟨g6, 0, none⟩) h7 hne.symm _⟩
  generalize w4.setCell ⟨g6, 0, none⟩ (.int .i64 (unitOf mt)) = w5 at q6 q7 hHeld ⊢
  have h6 := q6.out
  have h7 := q7.out
  clear q6 q7 hbl
  refine last_ (i := 15) (N := none) #[true, true, true, true, true, true, true, true, true, true, true, true, true, true, true, true] rfl rfl (by kernel_rfl) (by decide) (fun K hK => ?_)
  obtain ⟨a0, a1, a2, a3, a4, a5, a6, b0, b1, b2, b3, b4, b5, b6⟩ := blk7_ h7
  refine skip_ (w1 := ?_) (by rfl) rfl ?_ ?_
  rotate_left
  · go_simp
    rfl
  clear a0 a1 a2 a3 a4 a5 a6 b0 b1 b2 b3 b4 b5 b6
  refine hK.out _ _ ?_
  clear hK K
  refine done_ (by kernel_rfl) ?_
  -- BEHIND
  have q7 : Aside0 ((((((((w5.setCell ⟨g7, 0, none⟩ (.int .i64 (rd_T32 ns 0).f0)).setCell ⟨g7, 1, none⟩ (.int .i64 (rd_T32 ns 0).f1)).setCell ⟨g7, 2, none⟩ (.int .i64 (rd_T32 ns 0).f2)).setCell ⟨g7, 3, none⟩ (.int .i64 (rd_T32 ns 0).f3)).setCell ⟨g7, 4, none⟩ (.int .i64 (rd_T32 ns 0).f4)).setCell ⟨g7, 5, none⟩ (.int .i64 (rd_T32 ns 0).f5)).setCell ⟨g7, 6, none⟩ (.int .i64 (rd_T32 ns 0).f6)).heap[g7]? = _) := ⟨put7 h7⟩
  have q6 : Aside0 ((((((((w5.setCell ⟨g7, 0, none⟩ (.int .i64 (rd_T32 ns 0).f0)).setCell ⟨g7, 1, none⟩ (.int .i64 (rd_T32 ns 0).f1)).setCell ⟨g7, 2, none⟩ (.int .i64 (rd_T32 ns 0).f2)).setCell ⟨g7, 3, none⟩ (.int .i64 (rd_T32 ns 0).f3)).setCell ⟨g7, 4, none⟩ (.int .i64 (rd_T32 ns 0).f4)).setCell ⟨g7, 5, none⟩ (.int .i64 (rd_T32 ns 0).f5)).setCell ⟨g7, 6, none⟩ (.int .i64 (rd_T32 ns 0).f6)).heap[g6]? = _) := ⟨far7 h6 hne⟩
  have qB : Aside0 (Below W1.heap.size W1 (((((((w5.setCell ⟨g7, 0, none⟩ (.int .i64 (rd_T32 ns 0).f0)).setCell ⟨g7, 1, none⟩ (.int .i64 (rd_T32 ns 0).f1)).setCell ⟨g7, 2, none⟩ (.int .i64 (rd_T32 ns 0).f2)).setCell ⟨g7, 3, none⟩ (.int .i64 (rd_T32 ns 0).f3)).setCell ⟨g7, 4, none⟩ (.int .i64 (rd_T32 ns 0).f4)).setCell ⟨g7, 5, none⟩ (.int .i64 (rd_T32 ns 0).f5)).setCell ⟨g7, 6, none⟩ (.int .i64 (rd_T32 ns 0).f6))) := ⟨below7 hHeld.2.2.2.2.2.2.2.2.2.2.2.2.2.2.2.2 hg7⟩
  generalize ((((((w5.setCell ⟨g7, 0, none⟩ (.int .i64 (rd_T32 ns 0).f0)).setCell ⟨g7, 1, none⟩ (.int .i64 (rd_T32 ns 0).f1)).setCell ⟨g7, 2, none⟩ (.int .i64 (rd_T32 ns 0).f2)).setCell ⟨g7, 3, none⟩ (.int .i64 (rd_T32 ns 0).f3)).setCell ⟨g7, 4, none⟩ (.int .i64 (rd_T32 ns 0).f4)).setCell ⟨g7, 5, none⟩ (.int .i64 (rd_T32 ns 0).f5)).setCell ⟨g7, 6, none⟩ (.int .i64 (rd_T32 ns 0).f6) = w6 at q6 q7 qB ⊢
  clear h6 h7 hHeld
  have HKW := Lib.hid (show K < Bk by rw [← HK.out]; exact blk_lt HXat.out)
  have HB1 := Lib.hid (blk_lt HBl.out)
  have HQ6 := Lib.hid q6.out
  obtain ⟨u0, -⟩ := blk1_ q6.out
  obtain ⟨x0, x1, x2, d3, x4, x5, x6, y0, y1, y2, y3, y4, y5, y6⟩ := blk7_ q7.out
  clear x0 x1 x2 x4 x5 x6 y0 y1 y2 y3 y4 y5 y6 q7 q6
  obtain ⟨y, hy⟩ : ∃ y, wrap64 (unitOf mt * (rd_T32 ns 0).f3) = y := ⟨_, rfl⟩
  have hyw := wrap_i _ _ hy
  have HY := Lib.hid hy
  clear hy
  go_upto_region 7 with (fail)
  have bn0 := blk_alloc (heap_alloc_new w6 (I1 y)) (I1 0)
  have ba0 := heap_alloc_new (w6.alloc (I1 y)) (I1 0)
  rw [World.size_alloc] at ba0
  have bg6 := blk_alloc (blk_alloc HQ6.out (I1 y)) (I1 0)
  have hV : Below W1.heap.size W1 ((w6.alloc (I1 y)).alloc (I1 0)) := (qB.out.alloc qB.out.size _).alloc (Nat.le_trans qB.out.size (by simp)) _
  have hlt6 := blk_lt HQ6.out
  have hsz : (w6.heap.size + 1) < ((w6.alloc (I1 y)).alloc (I1 0)).heap.size := blk_lt ba0
  have hs6 := qB.out.size
  generalize (w6.alloc (I1 y)).alloc (I1 0) = V at bn0 ba0 bg6 hV hsz ⊢
  generalize w6.heap.size = Bn at bn0 ba0 hlt6 hsz hs6 ⊢
  have HV := Lib.hid hV
  have HNUM := Lib.hid (show K < Bk ∧ Bk + 1 < W1.heap.size ∧ W1.heap.size ≤ g6 ∧ g6 < Bn ∧ Bn + 1 < V.heap.size from ⟨HKW.out, HB1.out, hg6, hlt6, hsz⟩)
  have HBV := Lib.hid (show Below Bk W V by
    have h1 := HB0.out
    rw [HK.out] at h1
    exact h1.trans (hV.mono (by have := HB1.out; omega)))
  have HI0 := Aside0.mk (show TInv X l K Bk g6 Bn V.heap.size v W 0 (.slice none 0 0) V from
    ⟨blk_below (blk_below HXat.out HB0.out) hV, blk_below HBk.out hV, blk_below HBl.out hV, by rw [HXmt.out]; exact bg6, by
      refine bn0.trans (congrArg (fun z => some (I1 z)) ?_)
      show y = wrap64 (unitOf X.mt * (rd_T32 X.ns 0).f3)
      rw [HXmt.out, HXns.out, HY.out], ba0, Kd.R_nil .., HBV.out, Nat.le_refl _, by rw [HXns.out]; exact hn0, rfl⟩)
  clear bn0 ba0 bg6 hV hsz hs6 hlt6 u0 d3 hyw qB hg6 hg7 hne
  go_wp2
  go_loopw [37, 4] (fun v37 v4 wr => ∃ k : Nat, v37 = .int .i64 k ∧ k ≤ l.length ∧ Aside0 (TInv X l K Bk g6 Bn V.heap.size v W k v4 wr)) (fun v37 v4 wr => l.length - (intOf v37).toNat)
  case atStart => exact ⟨0, rfl, Nat.zero_le _, HI0⟩
  case round =>
    obtain ⟨k, rfl, hk, HI⟩ := hrel
    by_cases hlt : k < l.length
    · obtain ⟨iK, iBk, iLate, iU, iNow, iAt, iR, iB, iN, iat, ilen⟩ := HI.out
      have hstep := along_step X (unitOf X.mt) l hlt
      generalize hr : along X (unitOf X.mt) (l.take k) = r at *
      have HST := Lib.hid hstep
      clear hr hstep HI
      have HWsz := Lib.hid (show W.heap.size ≤ Bk from Nat.le_of_eq HK.out)
      obtain ⟨hs0, hs1⟩ := HIN.out l[k] (List.getElem_mem hlt)
      obtain ⟨s, hs⟩ : ∃ s : Nat, l[k] = (s : Int) := ⟨l[k].toNat, by omega⟩
      have HS0 := Lib.hid hs
      rw [hs] at hs1
      have hsn : s < ns.length := by rw [← HXns.out]; omega
      have HBW := Lib.hid (iB.mono HWsz.out)
      obtain ⟨al, e1, cl⟩ := Kd.at_int (Kd.C_below HL.out HBW.out) (k : Int) (by omega) (by omega)
      subst e1
      rw [Int.toNat_natCast, show rd l (k : Int) = (s : Int) by unfold rd; rw [Int.toNat_natCast, List.getD_eq_getElem?_getD, List.getElem?_eq_getElem hlt]; exact hs] at cl
      have hC := Kd.C_below HXr.out.1 HBW.out
      have hXA : X.A = some ad ∧ X.ns.length = ns.length := ⟨HXA.out, by rw [HXns.out]⟩
      obtain ⟨ad2, e2, c0, c1, c2, c3, c4, c5, c6⟩ := at_T32 hC (s : Int) (by omega) (by rw [HXns.out]; omega)
      rw [hXA.1] at e2
      cases e2
      rw [Int.toNat_natCast] at c0 c1 c2 c3 c4 c5 c6
      have HDn := Lib.hid (show rd_T32 X.ns (s : Int) = rd_T32 X.ns (s : Int) from rfl)
      generalize hd : rd_T32 X.ns (s : Int) = d at *
      clear HDn
      have HDn := Lib.hid hd
      clear hd hC hXA
      have p1 : (0 : Int) ≤ (k : Int) ∧ (k : Int) < (l.length : Int) := by omega
      have p2 : (0 : Int) ≤ (s : Int) ∧ (s : Int) < (ns.length : Int) := by omega
      have bt : decide ((k : Int) < (l.length : Int)) = true := decide_eq_true (by omega)
      obtain ⟨j0, -⟩ := blk1_ iBk
      have kK := iK
      unfold Look.at at kK
      obtain ⟨k0, k1, k2, k3, k4, k5, k6, k7, k8, f0, f1, f2, f3, f4, f5, f6, f7, f8⟩ := blk9_ kK
      rw [HXA.out, HXc.out, HXns.out] at k6
      clear k0 k1 k2 k3 k4 k5 k7 k8 f0 f1 f2 f3 f4 f5 f6 f7 f8 kK hs0 hs1 hs
      go_upto_region 11 with (fail)
      have bD0 := heap_alloc_new wr (.cells #[.int .i64 d.f0, .int .i64 d.f1, .int .i64 d.f2, .int .i64 d.f3, .int .i64 d.f4, .int .i64 d.f5, .int .i64 d.f6] 32)
      have aK0 : (wr.alloc (.cells #[.int .i64 d.f0, .int .i64 d.f1, .int .i64 d.f2, .int .i64 d.f3, .int .i64 d.f4, .int .i64 d.f5, .int .i64 d.f6] 32)).heap[K]? = _ := blk_alloc iK (.cells #[.int .i64 d.f0, .int .i64 d.f1, .int .i64 d.f2, .int .i64 d.f3, .int .i64 d.f4, .int .i64 d.f5, .int .i64 d.f6] 32)
      have aBk := blk_alloc iBk (.cells #[.int .i64 d.f0, .int .i64 d.f1, .int .i64 d.f2, .int .i64 d.f3, .int .i64 d.f4, .int .i64 d.f5, .int .i64 d.f6] 32)
      have aLate := blk_alloc iLate (.cells #[.int .i64 d.f0, .int .i64 d.f1, .int .i64 d.f2, .int .i64 d.f3, .int .i64 d.f4, .int .i64 d.f5, .int .i64 d.f6] 32)
      have aU := blk_alloc iU (.cells #[.int .i64 d.f0, .int .i64 d.f1, .int .i64 d.f2, .int .i64 d.f3, .int .i64 d.f4, .int .i64 d.f5, .int .i64 d.f6] 32)
      have aNow := blk_alloc iNow (.cells #[.int .i64 d.f0, .int .i64 d.f1, .int .i64 d.f2, .int .i64 d.f3, .int .i64 d.f4, .int .i64 d.f5, .int .i64 d.f6] 32)
      have aAt := blk_alloc iAt (.cells #[.int .i64 d.f0, .int .i64 d.f1, .int .i64 d.f2, .int .i64 d.f3, .int .i64 d.f4, .int .i64 d.f5, .int .i64 d.f6] 32)
      have aB := iB.alloc (by have := blk_lt iBk; omega) (.cells #[.int .i64 d.f0, .int .i64 d.f1, .int .i64 d.f2, .int .i64 d.f3, .int .i64 d.f4, .int .i64 d.f5, .int .i64 d.f6] 32)
      have aR : ∀ j, j < wr.heap.size → (wr.alloc (.cells #[.int .i64 d.f0, .int .i64 d.f1, .int .i64 d.f2, .int .i64 d.f3, .int .i64 d.f4, .int .i64 d.f5, .int .i64 d.f6] 32)).heap[j]? = wr.heap[j]? := fun j hj => Below.heap_alloc _ _ _ hj
      have hN := HNUM.out
      generalize hBd : wr.heap.size = Bd at bD0 ⊢
      generalize wr.alloc (.cells #[.int .i64 d.f0, .int .i64 d.f1, .int .i64 d.f2, .int .i64 d.f3, .int .i64 d.f4, .int .i64 d.f5, .int .i64 d.f6] 32) = w7 at bD0 aK0 aBk aLate aU aNow aAt aB aR ⊢
      obtain ⟨rr, hleg⟩ := HLEG.out r.at_ s iat (by rw [HXns.out]; exact hsn)
      have HDR := Lib.hid (drive_c X K Bk (Bn + 1) Bn (Bk + 1) g6 Bk r.at_ s r.now r.late (unitOf X.mt) v w7 aK0 aBk aAt aNow aLate aU (by omega) (by omega) (by omega) (by omega) (by omega) (by omega) (by omega)
        (Look.rows_below HXr.out (aB.mono HWsz.out)) ⟨W, aB, HXr.out, HWsz.out⟩ (by rw [HXns.out]; exact hn) iat (by rw [HXns.out]; exact hsn) _ _ hleg)
      have HIB := Lib.hid (And.intro iB iN)
      have HIR := Lib.hid iR
      have HOB := Lib.hid (show ∀ j, u4.ownBlock = some j → j < Bd ∧ V.heap.size ≤ j from fun j e => by
        have h1 := (Kd.R_bound iR).1 j e
        have h2 := h1.2.2.1
        rw [hBd] at h2
        exact ⟨h2, h1.1⟩)
      have HIL := Lib.hid ilen
      have HAB := Lib.hid aB
      have HAR := Lib.hid aR
      have HaK := Lib.hid aK0
      have HaBk := Lib.hid aBk
      have HaU := Lib.hid aU
      have HaD := Lib.hid bD0
      have HBd := Lib.hid hBd
      clear iK iBk iLate iU iNow iAt iR iB iN ilen aK0 aBk aLate aU aNow aAt aB aR bD0 hBd hN hleg c0 c1 c2 c3 c4 c5 c6 k6 j0 cl iat
      go_wp2_with fail
      refine HDR.out.mono ?_
      rintro e w8 ⟨⟨u9, rfl⟩, b1, b2, b3, fr, hB8⟩
      clear HDR
      have hN := HNUM.out
      have gK : w8.heap[K]? = _ := fr _ _ HaK.out (by omega) (by omega) (by omega)
      have gBk := fr _ _ HaBk.out (by omega) (by omega) (by omega)
      have gU := fr _ _ HaU.out (by omega) (by omega) (by omega)
      have gD := fr _ _ HaD.out (by have := HIB.out.2; rw [HBd.out] at this; omega) (by have := HIB.out.2; rw [HBd.out] at this; omega) (by have := HIB.out.2; rw [HBd.out] at this; omega)
      have gR : Kd.R (Kd.int .i64) 3 w8 Bk (fun j => V.heap.size ≤ j) u4 r.out := Kd.R_step HIR.out (fun j hj hjl => by
        obtain ⟨o, ho⟩ : ∃ o, wr.heap[j]? = some o := ⟨_, Array.getElem?_eq_getElem hjl⟩
        rw [ho]
        exact fr j o ((HAR.out j hjl).trans ho) (by omega) (by omega) (by omega))
      have hB9 : Below Bk W w8 := HAB.out.trans hB8
      have h89 : w7.heap.size ≤ w8.heap.size := hB8.size
      obtain ⟨n1, hn1⟩ : ∃ n1, wrap64 (r.now + legP X r.at_ s) = n1 := ⟨_, rfl⟩
      rw [hn1] at b2 b3
      obtain ⟨z, hz⟩ : ∃ z, wrap64 (unitOf X.mt * d.f3) = z := ⟨_, rfl⟩
      have hzw := wrap_i _ _ hz
      obtain ⟨m, hm⟩ : ∃ m, (if n1 < z then z else n1) = m := ⟨_, rfl⟩
      obtain ⟨cn, fn⟩ := blk1_ b2
      obtain ⟨cu, -⟩ := blk1_ gU
      obtain ⟨x0, x1, x2, d3, x4, x5, x6, y0, y1, y2, y3, y4, y5, y6⟩ := blk7_ gD
      clear x0 x1 x2 x4 x5 x6 y0 y1 y2 y3 y4 y5 y6
      have HF8 := Lib.hid (And.intro gK (And.intro gBk (And.intro gU (And.intro gD (And.intro b1 (And.intro b2 b3))))))
      have HR8 := Lib.hid gR
      have HB8 := Lib.hid hB9
      have HZ := Lib.hid (And.intro hn1 hz)
      have HMx := Lib.hid hm
      have HSZ8 := Lib.hid (show Bd < w8.heap.size ∧ V.heap.size ≤ w8.heap.size by
        have h1 := blk_lt gD
        have h2 := HIB.out.2
        rw [HBd.out] at h2
        exact ⟨h1, by omega⟩)
      clear gK gBk gU gD gR hB9 b1 b2 b3 fr hB8 h89 hn1 hz hN HIR HAB HAR HaK HaBk HaU HaD
      go_upto_region 13 with (fail)
      have hN := HNUM.out
      have gK : ((w8.setCell ⟨Bn, 0, none⟩ (.int .i64 m))).heap[K]? = _ := blk_far (p := ⟨Bn, 0, none⟩) HF8.out.1 (by show K ≠ Bn; omega) _
      have gBk := blk_far (p := ⟨Bn, 0, none⟩) HF8.out.2.1 (by show Bk ≠ Bn; omega) (.int .i64 m)
      have gU := blk_far (p := ⟨Bn, 0, none⟩) HF8.out.2.2.1 (by show g6 ≠ Bn; omega) (.int .i64 m)
      have gD := blk_far (p := ⟨Bn, 0, none⟩) HF8.out.2.2.2.1 (by show Bd ≠ Bn; have := HIB.out.2; rw [HBd.out] at this; omega) (.int .i64 m)
      have gA := blk_far (p := ⟨Bn, 0, none⟩) HF8.out.2.2.2.2.1 (by show Bn + 1 ≠ Bn; omega) (.int .i64 m)
      have gN := blk_put (cs' := #[.int .i64 m]) HF8.out.2.2.2.2.2.1 0 (.int .i64 m) rfl
      have gL := blk_far (p := ⟨Bn, 0, none⟩) HF8.out.2.2.2.2.2.2 (by show Bk + 1 ≠ Bn; omega) (.int .i64 m)
      have gR := Kd.R_far (p := ⟨Bn, 0, none⟩) HR8.out (fun j hj => by show j ≠ Bn; omega) (.int .i64 m)
      have gB := HB8.out.setCell (p := ⟨Bn, 0, none⟩) (by show Bk ≤ Bn; omega) (.int .i64 m)
      have gS : Bd < ((w8.setCell ⟨Bn, 0, none⟩ (.int .i64 m))).heap.size ∧ V.heap.size ≤ ((w8.setCell ⟨Bn, 0, none⟩ (.int .i64 m))).heap.size := by
        have h1 := HSZ8.out
        have h2 : ((w8.setCell ⟨Bn, 0, none⟩ (.int .i64 m))).heap.size = w8.heap.size := by simp [World.setCell]
        omega
      clear HF8 HR8 HB8 HSZ8 cn fn cu d3 hzw hm hN
      generalize ((w8.setCell ⟨Bn, 0, none⟩ (.int .i64 m))) = w9 at gK gBk gU gD gA gN gL gR gB gS ⊢
      have HR9 := Lib.hid gR
      have HB9 := Lib.hid gB
      have HF9 := Lib.hid (And.intro gK (And.intro gBk (And.intro gU (And.intro gD (And.intro gA gL)))))
      have HN9 := Lib.hid gN
      have HS9 := Lib.hid gS
      obtain ⟨cn, -⟩ := blk1_ gN
      clear gK gBk gU gD gA gN gL gR gB gS
      go_upto_region 14 with (first | ((with_reducible refine gate_builtin (b := .append) (xs := #[.tmp 58, .tmp 60]) rfl ?_); at_builtin; refine Kd.R_append (Kd.int .i64) (w0 := W) Bk rfl (.tmp 58) (.tmp 60) 23 3 (.int .i64 0) 8 rfl Try.underlying23 P.info3 rfl (by decide) (by omega) u4 r.out m [.int .i64 m] (fun j => V.heap.size ≤ j) (fun _ => False) rfl rfl ?aP (fun _ hk => hk.elim) ?aF ?aO ?aB ?aS ?aL ?_; (case aP => exact rfl); (case aF => exact (fun j hj => Nat.le_trans HS9.out.2 hj)); (case aO => exact HR9.out); (case aB => exact HB9.out); (case aS => have := HNUM.out; have := HS9.out; omega); (case aL => have := HIL.out; omega); intro v5 w10 ho hb hg hat; have HO10 := Lib.hid ho; have HB10 := Lib.hid hb; have HG10 := Lib.hid hg; clear ho hb hg hat))
      have hN := HNUM.out
      have hBdV : V.heap.size ≤ Bd := by have := HIB.out.2; rw [HBd.out] at this; exact this
      have hne : ∀ g, g < V.heap.size → some g ≠ u4.ownBlock := fun g hg e => by have := (HOB.out g e.symm).2; omega
      have gK : w10.heap[K]? = _ := blk_grown HF9.out.1 HG10.out (hne K (by omega))
      have gBk := blk_grown HF9.out.2.1 HG10.out (hne Bk (by omega))
      have gU := blk_grown HF9.out.2.2.1 HG10.out (hne g6 (by omega))
      have gD := blk_grown HF9.out.2.2.2.1 HG10.out (fun e => by have := (HOB.out Bd e.symm).1; omega)
      have gA := blk_grown HF9.out.2.2.2.2.1 HG10.out (hne (Bn + 1) (by omega))
      have gL := blk_grown HF9.out.2.2.2.2.2 HG10.out (hne (Bk + 1) (by omega))
      have gN := blk_grown HN9.out HG10.out (hne Bn (by omega))
      have gS : V.heap.size ≤ w10.heap.size := Nat.le_trans HS9.out.2 HG10.out.size
      clear HF9 HN9 HS9 HR9 HB9 cn hne
      obtain ⟨cn, fn⟩ := blk1_ gN
      obtain ⟨cu, -⟩ := blk1_ gU
      obtain ⟨x0, x1, x2, x3, x4, d5, x6, y0, y1, y2, y3, y4, y5, y6⟩ := blk7_ gD
      clear x0 x1 x2 x3 x4 x6 y0 y1 y2 y3 y4 y5 y6
      obtain ⟨z2, hz2⟩ : ∃ z, wrap64 (unitOf X.mt * d.f5) = z := ⟨_, rfl⟩
      have hz2w := wrap_i _ _ hz2
      obtain ⟨m2, hm2⟩ : ∃ z, wrap64 (m + z2) = z := ⟨_, rfl⟩
      have hm2w := wrap_i _ _ hm2
      have HF10 := Lib.hid (And.intro gK (And.intro gBk (And.intro gU (And.intro gA (And.intro gL gN)))))
      have HS10 := Lib.hid gS
      have HZ2 := Lib.hid (And.intro hz2 hm2)
      clear gK gBk gU gD gA gL gN gS hN hz2 hm2
      go_wp2
      go_roundw
      case rel =>
        have hN := HNUM.out
        have E : along X (unitOf X.mt) (l.take (k + 1)) = ⟨s, m2, lateT r.late n1 (unitOf X.mt) (rd_T32 X.ns (s : Int)).f4 s, r.out ++ [m]⟩ := by
          rw [HST.out, HS0.out, Int.toNat_natCast]
          unfold serve goTo
          simp only
          rw [HZ.out.1, HDn.out, HZ.out.2, show Go.Proofs.YtlncbckpcmojpaaW.PrintWords.mx n1 z = m from HMx.out, HZ2.out.1, HZ2.out.2]
        refine ⟨k + 1, by go_num, by omega, ⟨?_⟩⟩
        unfold TInv
        rw [E]
        refine ⟨blk_far (p := ⟨Bn, 0, none⟩) HF10.out.1 (by show K ≠ Bn; omega) _, blk_far (p := ⟨Bn, 0, none⟩) HF10.out.2.1 (by show Bk ≠ Bn; omega) _, blk_far (p := ⟨Bn, 0, none⟩) HF10.out.2.2.2.2.1 (by show Bk + 1 ≠ Bn; omega) _, blk_far (p := ⟨Bn, 0, none⟩) HF10.out.2.2.1 (by show g6 ≠ Bn; omega) _,
          blk_put HF10.out.2.2.2.2.2 0 _ rfl, blk_far (p := ⟨Bn, 0, none⟩) HF10.out.2.2.2.1 (by show Bn + 1 ≠ Bn; omega) _, Kd.R_far (p := ⟨Bn, 0, none⟩) HO10.out (fun j hj => by show j ≠ Bn; omega) _, HB10.out.setCell (p := ⟨Bn, 0, none⟩) (by show Bk ≤ Bn; omega) _, by simpa [World.setCell] using HS10.out, by rw [HXns.out]; omega, by simp [HIL.out]⟩
      case measure => simp [intOf]; omega
    · have bt : decide ((k : Int) < (l.length : Int)) = false := decide_eq_false (by omega)
      obtain rfl : k = l.length := by omega
      obtain ⟨iK, iBk, iLate, iU, iNow, iAt, iR, iB, iN, iat, ilen⟩ := HI.out
      rw [List.take_length] at iLate iNow iAt iR iat ilen
      have HT := Lib.hid (show timesOf X l = ((goTo X (unitOf X.mt) (along X (unitOf X.mt) l) 0).out, (goTo X (unitOf X.mt) (along X (unitOf X.mt) l) 0).late) by unfold timesOf; rw [if_neg HN0.out])
      generalize along X (unitOf X.mt) l = r at *
      clear HI
      have HWsz := Lib.hid (show W.heap.size ≤ Bk from Nat.le_of_eq HK.out)
      have hN := HNUM.out
      obtain ⟨rr, hleg⟩ := HLEG.out r.at_ 0 iat (by rw [HXns.out]; exact hn0)
      have HDR := Lib.hid (drive_c X K Bk (Bn + 1) Bn (Bk + 1) g6 Bk r.at_ 0 r.now r.late (unitOf X.mt) v wr iK iBk iAt iNow iLate iU (by omega) (by omega) (by omega) (by omega) (by omega) (by omega) (by omega)
        (Look.rows_below HXr.out (iB.mono HWsz.out)) ⟨W, iB, HXr.out, HWsz.out⟩ (by rw [HXns.out]; exact hn) iat (by rw [HXns.out]; exact hn0) _ _ hleg)
      have HIB := Lib.hid (And.intro iB iN)
      have HIR := Lib.hid iR
      clear iK iBk iLate iU iNow iAt iR iB iN ilen hN hleg iat
      go_wp2_with fail
      refine HDR.out.mono ?_
      rintro e w8 ⟨⟨u9, rfl⟩, b1, b2, b3, fr, hB8⟩
      clear HDR
      have hN := HNUM.out
      have gR : Kd.R (Kd.int .i64) 3 w8 Bk (fun j => V.heap.size ≤ j) u4 r.out := Kd.R_step HIR.out (fun j hj hjl => by
        obtain ⟨o, ho⟩ : ∃ o, wr.heap[j]? = some o := ⟨_, Array.getElem?_eq_getElem hjl⟩
        rw [ho]
        exact fr j o ho (by omega) (by omega) (by omega))
      have hB9 : Below Bk W w8 := HIB.out.1.trans hB8
      have HT2 : timesOf X l = (r.out, lateT r.late (wrap64 (r.now + legP X r.at_ 0)) (unitOf X.mt) (rd_T32 X.ns ((0 : Nat) : Int)).f4 ((0 : Nat) : Int)) := HT.out
      generalize hlate : lateT r.late (wrap64 (r.now + legP X r.at_ 0)) (unitOf X.mt) (rd_T32 X.ns ((0 : Nat) : Int)).f4 ((0 : Nat) : Int) = lt at b3 HT2
      obtain ⟨cl, fl0⟩ := blk1_ b3
      have HE := Lib.hid (And.intro gR (And.intro hB9 HT2))
      have HB3 := Lib.hid b3
      clear gR hB9 HT HT2 b1 b2 fr hB8 hlate hN HIR HIB b3
      go_wp2
      go_region
      have hN := HNUM.out
      have hBl : Bk + 1 < V.heap.size := by omega
      have hR0 := Kd.R_mono (Kd.R_drew (Kd.R_far (p := ⟨Bk + 1, 0, none⟩) HE.out.1 (fun j hj => by show j ≠ Bk + 1; omega) (.int .i64 lt))) (fun _ _ => trivial : ∀ k, V.heap.size ≤ k → (fun _ => True) k)
      have hBf : Below Bk W (w8.setCell ⟨Bk + 1, 0, none⟩ (.int .i64 lt)).drew := Below.drew (HE.out.2.1.setCell (p := ⟨Bk + 1, 0, none⟩) (by show Bk ≤ Bk + 1; omega) _)
      have c9 : (w8.setCell ⟨Bk + 1, 0, none⟩ (.int .i64 lt)).drew.cell? ⟨Bk + 1, 0, none⟩ = some (.int .i64 lt) := (blk1_ (blk_drew (blk_put HB3.out 0 (.int .i64 lt) rfl))).1
      have HRF := Lib.hid (And.intro hR0 hBf)
      clear hR0 hBf hN hBl
      go_wp2
      refine ⟨rfl, .tuple #[u4, .int .i64 lt], ?_, u4, by rw [HE.out.2.2], by rw [HE.out.2.2, HK.out]; exact HRF.out.1, by rw [HK.out]; exact HRF.out.2⟩
      simp [results, Try.f43, go_sem, c9]
end FeasWalk
end Go.Proofs.Ytlncbckpcmojpaa
