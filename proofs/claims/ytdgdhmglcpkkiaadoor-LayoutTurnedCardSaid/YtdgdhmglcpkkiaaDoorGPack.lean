/- layout.Pack: the numbers at the places that the layout tells, in their order. -/
import Derived.Lib.Hide
import Derived.Test.YtdgdhmglcpkkiaaDoorGPlaces
import Derived.Test.YtdgdhmglcpkkiaaDoorGBridge
import Derived.Test.YtdgdhmglcpkkiaaDoorGBlk
import Derived.Test.YtdgdhmglcpkkiaaDoorMlb
set_option linter.unusedVariables false
set_option linter.unusedSimpArgs false
namespace Go.Proofs.YtdgdhmglcpkkiaaDoor
open Go.RowKit
namespace LayWalk
open Go.RowKit Go.Proofs.YtdgdhmglcpkkiaaDoorW.PrintWords Go.Proofs.YtdgdhmglcpkkiaaDoorW.PrintLast Go.Proofs.YtdgdhmglcpkkiaaDoorW.PrintMore RangeE P
attribute [local go_sem] Oper.semAt_some
theorem wrap64_id {a : Int} (h1 : -9223372036854775808 ≤ a) (h2 : a ≤ 9223372036854775807) : wrap64 a = a := by unfold wrap64; omega
/-- The number of a matrix at a place. -/
def valAt (m : List Int) (n : Nat) (x : Place) : Int := rd m ((x.1 : Int) * (n : Int) + (x.2 : Int))
theorem places_mem {lay n : Nat} {x : Place} (h : x ∈ placesOf lay n) : x.1 < n ∧ x.2 < n := by
  unfold placesOf upTo at h
  obtain ⟨a, ha, hx⟩ := List.mem_flatMap.1 h
  rw [List.mem_range] at ha
  unfold rowOf rowTo at hx
  obtain ⟨b, hb, rfl⟩ := List.mem_map.1 hx
  have hf := frm_le (lay := lay) ha
  rw [List.mem_range'_1] at hb
  unfold tagp
  split <;> constructor <;> simp only <;> omega
theorem rowOf_length {lay n a : Nat} (ha : a < n) : (rowOf lay n a).length ≤ n := by
  have hf := frm_le (lay := lay) ha
  unfold rowOf rowTo
  rw [List.length_map, List.length_range']
  omega
theorem upTo_length {lay n : Nat} : ∀ i, i ≤ n → (upTo lay n i).length ≤ i * n
  | 0, _ => by simp [upTo]
  | i + 1, h => by
    rw [upTo_succ, List.length_append, Nat.succ_mul]
    have h1 := upTo_length (lay := lay) (n := n) i (by omega)
    have h2 := rowOf_length (lay := lay) (n := n) (show i < n by omega)
    omega
theorem placesOf_length {lay n : Nat} (hn : n ≤ 400) : (placesOf lay n).length ≤ 160000 := by
  have h1 := upTo_length (lay := lay) (n := n) n (Nat.le_refl _)
  have h2 : n * n ≤ 400 * 400 := Nat.mul_le_mul hn hn
  unfold placesOf
  omega
set_option maxRecDepth 100000 in
set_option maxHeartbeats 8000000 in
theorem pack_in (A : Option Addr) (cap lay n : Nat) (m : List Int) (kf : Nat) (w : World) (ht : Tab w) (hlay : lay = 1 ∨ lay = 2 ∨ lay = 3 ∨ lay = 4 ∨ lay = 5 ∨ lay = 6 ∨ lay = 7) (hn : n ≤ 400) (hl : m.length = n * n)
    (hmay : layout_may.f (lay : Int) (n : Int) = some true) (hfit : layout_fits.f kf (lay : Int) (n : Int) m = some true) (hC : Kd.C (Kd.int .i64) w A m.length m) (hc : m.length ≤ cap) :
    CallsIn Fence.wide 9 Tryd.prog 13 #[.int .i64 (lay : Int), .int .i64 (n : Int), .slice A m.length cap] w fun e W' =>
      ∃ v, e = .returned (.tuple #[v, .int .i64 0]) ∧ Kd.R (Kd.int .i64) 3 W' w.heap.size (fun _ => True) v ((placesOf lay n).map (valAt m n)) ∧ Below w.heap.size w W' := by
  refine callsIn_of_wp_marks Tryd.func13 rfl trivial ?_ rfl
  simp only [Tryd.ntmps13, List.size_toArray, List.length_cons, List.length_nil, Nat.reduceAdd, Nat.reduceSub, Array.replicate_succ, Array.replicate_zero, List.push_toArray, List.append_toArray, List.nil_append, List.cons_append]
  have hnn : n * n ≤ 400 * 400 := Nat.mul_le_mul hn hn
  have e1 := Lib.hid (show wrap64 ((n : Int) * (n : Int)) = (m.length : Int) by rw [← Int.natCast_mul, ← hl]; unfold wrap64; omega)
  have HM := Lib.hid hmay
  have HF := Lib.hid hfit
  have HL := Lib.hid hl
  clear hmay hfit hl
  have hB0 : Below w.heap.size w (((w.alloc (.cells #[.int .i64 (n : Int)] 3)).alloc (.cells #[.slice A m.length cap] 22)).alloc (.cells #[.slice none 0 0] 22)) :=
    (((Below.refl _ w).alloc (Nat.le_refl _) _).alloc (by simp) _).alloc (by simp; omega) _
  have bN0 := ((Boxed.new w 3 (.int .i64 (n : Int))).alloc (.cells #[.slice A m.length cap] 22)).alloc (.cells #[.slice none 0 0] 22)
  have bM0 := (Boxed.new (w.alloc (.cells #[.int .i64 (n : Int)] 3)) 22 (.slice A m.length cap)).alloc (.cells #[.slice none 0 0] 22)
  have bL0 := Boxed.new ((w.alloc (.cells #[.int .i64 (n : Int)] 3)).alloc (.cells #[.slice A m.length cap] 22)) 22 (.slice none 0 0)
  simp only [World.size_alloc] at bM0 bL0
  gi_wp2_with fail
  refine ⟨trivial, (callsIn_wide.2 (layout_may.calls (lay : Int) (n : Int) true _ (tab_below ht hB0) HM.out)).mono ?_⟩
  rintro e w1 ⟨rfl, hb1⟩
  have hB1 := hB0.trans (hb1.mono hB0.size)
  have bN1 : Boxed w1 _ _ _ := (hb1.block _ bN0.lt).trans bN0
  have bM1 : Boxed w1 _ _ _ := (hb1.block _ bM0.lt).trans bM0
  have bL1 : Boxed w1 _ _ _ := (hb1.block _ bL0.lt).trans bL0
  clear hb1 bN0 bM0 bL0 hB0
  have cN1 := bN1.cell
  have cM1 := bM1.cell
  have hnb : ((m.length : Int) != (n : Int) * (n : Int)) = false := bne_eq_false_iff_eq.mpr (by rw [HL.out, Int.natCast_mul])
  gi_wp2_with fail
  refine ⟨trivial, (callsIn_wide.2 (layout_fits.calls kf (lay : Int) (n : Int) A cap m true w1 (Kd.C_below hC hB1) hc (tab_below ht hB1) HF.out)).mono ?_⟩
  rintro e w2 ⟨rfl, hb2⟩
  have hB2 := hB1.trans (hb2.mono hB1.size)
  have bN2 : Boxed w2 _ _ _ := (hb2.block _ bN1.lt).trans bN1
  have bM2 : Boxed w2 _ _ _ := (hb2.block _ bM1.lt).trans bM1
  have bL2 : Boxed w2 _ _ _ := (hb2.block _ bL1.lt).trans bL1
  clear hb2 bN1 bM1 bL1 hB1 cN1 cM1 hnb
  have cN2 := bN2.cell
  gi_wp2_with fail
  refine ⟨trivial, (places_in _ _ _ _).mono ?_⟩
  rintro e w3 ⟨rfl, rfl⟩
  clear cN2
  gi_wp2_with fail
  -- LOOP
  have hB3 := (hB2.alloc hB2.size (.cells #[.int .i64 (lay : Int)] 3)).alloc (Nat.le_trans hB2.size (by simp)) (.cells #[.int .i64 (n : Int)] 3)
  have bN3 := (bN2.alloc (.cells #[.int .i64 (lay : Int)] 3)).alloc (.cells #[.int .i64 (n : Int)] 3)
  have bM3 := (bM2.alloc (.cells #[.int .i64 (lay : Int)] 3)).alloc (.cells #[.int .i64 (n : Int)] 3)
  have bL3 := (bL2.alloc (.cells #[.int .i64 (lay : Int)] 3)).alloc (.cells #[.int .i64 (n : Int)] 3)
  have bA3 := (Boxed.new w2 3 (.int .i64 (lay : Int))).alloc (.cells #[.int .i64 (n : Int)] 3)
  have bC3 := Boxed.new (w2.alloc (.cells #[.int .i64 (lay : Int)] 3)) 3 (.int .i64 (n : Int))
  simp only [World.size_alloc] at bC3
  have kW := bL2.lt
  clear bN2 bM2 bL2 hB2
  generalize ((w2.alloc (.cells #[.int .i64 (lay : Int)] 3)).alloc (.cells #[.int .i64 (n : Int)] 3)) = V at *
  have hV := hB3.size
  have kN := bN3.lt
  have kM := bM3.lt
  have kL := bL3.lt
  have kA := bA3.lt
  have kC := bC3.lt
  refine wpIn_rangeFunc_E (gf := 30) (lb := #[.pointer (some ⟨w2.heap.size + 1, 0, none⟩), .pointer (some ⟨w2.heap.size, 0, none⟩)]) rfl (enters_of Tryd.func30 (by kernel_rfl) rfl)
    (places_seq 8 (by omega) w2.heap.size (w2.heap.size + 1) lay n hlay hn w.heap.size V) (Below.refl _ _) hV (fun _ => rfl)
    (fun pre W' => (Boxed W' w.heap.size 3 (.int .i64 (n : Int)) ∧ Boxed W' (w.heap.size + 1) 22 (.slice A m.length cap)) ∧ (Boxed W' w2.heap.size 3 (.int .i64 (lay : Int)) ∧ Boxed W' (w2.heap.size + 1) 3 (.int .i64 (n : Int))) ∧
      (∃ v, Boxed W' (w.heap.size + 1 + 1) 22 v ∧ W'.ownsRow V.heap.size 3 1 v (pre.map (valAt m n)).length (encs (Value.int .i64) (pre.map (valAt m n))) ∧ True) ∧ Below w.heap.size w W' ∧ V.heap.size ≤ W'.heap.size ∧ pre.length ≤ 1000000)
    (fun _ _ => False)
    (OwnFrom.and (OwnFrom.and (Own.from (boxed_own _ _ _) _) (Own.from (boxed_own _ _ _) _)) (OwnFrom.and (OwnFrom.and (Own.from (boxed_own _ _ _) _) (Own.from (boxed_own _ _ _) _)) (OwnFrom.and (Own.from (holdsRow_own _ _ _ _ _ (fun pre : List Place => (pre.map (valAt m n)).length) (fun pre => encs (Value.int .i64) (pre.map (valAt m n))) (fun _ _ => True)) _)
      (OwnFrom.and (ownFrom_below (Nat.le_refl _) hV) (OwnFrom.and (fun _ _ _ _ hs hg _ => Nat.le_trans hs hg.size) (ownFrom_pure _ _))))))
    (fun _ _ _ _ hs _ _ => hs)
    (fun pre W' h => ⟨h.2.1.1, h.2.1.2⟩)
    ⟨⟨bN3, bM3⟩, ⟨bA3, bC3⟩, ⟨_, bL3, ⟨rfl, .inl ⟨rfl, rfl⟩⟩, trivial⟩, hB3, Nat.le_refl _, by simp⟩
    (fun pre x a' W' => a' = { tmps := #[.int .i64 (lay : Int), .int .i64 (n : Int), .slice A m.length cap, undef, .pointer (some ⟨w.heap.size, 0, none⟩), .pointer (some ⟨w.heap.size + 1, 0, none⟩), .pointer (some ⟨w.heap.size + 1 + 1, 0, none⟩), .int .i64 0, .int .i64 (x.1 : Int), .int .i64 (x.2 : Int), .int .i64 (lay : Int), .int .i64 (n : Int), .bool true, .bool false, .slice A m.length cap, .int .i64 (m.length : Int), .int .i64 (n : Int), .int .i64 (n : Int), .int .i64 ((n : Int) * (n : Int)), .bool false, .bool false, .int .i64 (lay : Int), .int .i64 (n : Int), .slice A m.length cap, .bool true, .bool false, .bool false, .int .i64 (lay : Int), .int .i64 (n : Int), .func (.func 30) #[] #[.pointer (some ⟨w2.heap.size + 1, 0, none⟩), .pointer (some ⟨w2.heap.size, 0, none⟩)], .int .i64 (x.1 : Int), .int .i64 (x.2 : Int), undef, undef, undef, undef, undef, undef, undef, undef, undef, undef, undef, undef], defers := [] } ∧
      ((Boxed W' w.heap.size 3 (.int .i64 (n : Int)) ∧ Boxed W' (w.heap.size + 1) 22 (.slice A m.length cap)) ∧ (Boxed W' w2.heap.size 3 (.int .i64 (lay : Int)) ∧ Boxed W' (w2.heap.size + 1) 3 (.int .i64 (n : Int))) ∧
      (∃ v, Boxed W' (w.heap.size + 1 + 1) 22 v ∧ W'.ownsRow V.heap.size 3 1 v (pre.map (valAt m n)).length (encs (Value.int .i64) (pre.map (valAt m n))) ∧ True) ∧ Below w.heap.size w W' ∧ V.heap.size ≤ W'.heap.size ∧ pre.length ≤ 1000000))
    (fun pre x a' => OwnFrom.and (ownFrom_pure _ _) (OwnFrom.and (OwnFrom.and (Own.from (boxed_own _ _ _) _) (Own.from (boxed_own _ _ _) _)) (OwnFrom.and (OwnFrom.and (Own.from (boxed_own _ _ _) _) (Own.from (boxed_own _ _ _) _)) (OwnFrom.and (Own.from (holdsRow_own _ _ _ _ _ (fun _ : Unit => (pre.map (valAt m n)).length) (fun _ => encs (Value.int .i64) (pre.map (valAt m n))) (fun _ _ => True)) _)
      (OwnFrom.and (ownFrom_below (Nat.le_refl _) hV) (OwnFrom.and (fun _ _ _ _ hs hg _ => Nat.le_trans hs hg.size) (ownFrom_pure _ _)))))))
    ?assign ?body ?done ?stop
  case assign =>
    rintro l pre x W' K hI hK
    have hK' := hK _ W' (Below.refl _ _) (Above.refl _ _) ⟨rfl, hI⟩
    clear hK hI
    simp only [encP]
    gi_wp2
    exact hK'
  case body =>
    rintro l pre x a' wv hl2 ⟨rfl, ⟨bN, bM⟩, ⟨bA, bC⟩, ⟨v, bL, ho, -⟩, hB, kS, hlen⟩ hsp
    obtain ⟨hx1, hx2⟩ := places_mem (hsp.subset (by simp : x ∈ pre ++ [x]))
    have hidx : x.1 * n + x.2 < n * n := by
      have h1 : (x.1 + 1) * n ≤ n * n := Nat.mul_le_mul_right _ hx1
      rw [Nat.succ_mul] at h1
      omega
    obtain ⟨q, hq⟩ : ∃ q : Int, (x.1 : Int) * (n : Int) + (x.2 : Int) = q := ⟨_, rfl⟩
    have hqn : q = ((x.1 * n + x.2 : Nat) : Int) := by rw [← hq]; simp
    have q0 : 0 ≤ q := by omega
    have q1 : q < (m.length : Int) := by rw [HL.out]; omega
    have hb : x.1 * n ≤ 160000 := by omega
    have hq1 : wrap64 (wrap64 ((x.1 : Int) * (n : Int)) + (x.2 : Int)) = q := by
      rw [show (x.1 : Int) * (n : Int) = ((x.1 * n : Nat) : Int) by simp, wrap64_id (a := ((x.1 * n : Nat) : Int)) (by omega) (by omega), wrap64_id (by omega) (by omega)]; rw [← hq]; simp
    have hqw : IntKind.i64.wrap (wrap64 ((x.1 : Int) * (n : Int)) + (x.2 : Int)) = q := (i64_w _).trans hq1
    obtain ⟨ad, eA, he0⟩ := Kd.at_int hC q q0 q1
    have hv : rd m q = valAt m n x := by unfold valAt; rw [hq]
    rw [hv] at he0
    obtain ⟨e, hee⟩ : ∃ e, e = valAt m n x := ⟨_, rfl⟩
    rw [← hee] at he0
    obtain ⟨xs, hxs⟩ : ∃ xs, xs = pre.map (valAt m n) := ⟨_, rfl⟩
    rw [← hxs] at ho
    have HX := Lib.hid (show (pre ++ [x]).map (valAt m n) = xs ++ [e] by rw [hxs, hee]; simp)
    have HP := Lib.hid (show (pre ++ [x]).length ≤ 1000000 from by
      have h1 := hsp.length_le
      have h2 : (placesOf lay n).length ≤ 160000 := placesOf_length hn
      omega)
    have hxl : xs.length ≤ 1000000 := by rw [hxs, List.length_map]; exact hlen
    have he : wv.drew.cell? (ad.add q.toNat) = some (.int .i64 e) := (hB.cell (World.block_lt_of_cell? w _ he0)).trans he0
    have kE : (ad.add q.toNat).block < V.heap.size := Nat.lt_of_lt_of_le (World.block_lt_of_cell? w _ he0) hV
    have hR0 : (Kd.int .i64).R 3 wv.drew V.heap.size (fun _ => True) v xs := Kd.R_drew (Kd.R_of_own ho (fun _ _ => trivial))
    have p0 := eq_true q0
    have p1 := eq_true q1
    clear hq hqn q0 q1 hb hidx hx1 hx2 he0 hv hee hxs hlen hsp hC ho
    subst eA
    generalize (x.1 : Int) = z1 at *
    generalize (x.2 : Int) = z2 at *
    generalize (n : Int) = zn at bN bC hq1 hqw ⊢
    refine wpIn_block ?_
    have bLd : wv.drew.heap[w.heap.size + 1 + 1]? = some (.cells #[v] 22 (0, 0)) := bL
    have bMd : wv.drew.heap[w.heap.size + 1]? = some (.cells #[.slice (some ad) m.length cap] 22 (0, 0)) := bM
    have bNd : wv.drew.heap[w.heap.size]? = some (.cells #[.int .i64 zn] 3 (0, 0)) := bN
    have bAd : wv.drew.heap[w2.heap.size]? = some (.cells #[.int .i64 (lay : Int)] 3 (0, 0)) := bA
    have bCd : wv.drew.heap[w2.heap.size + 1]? = some (.cells #[.int .i64 zn] 3 (0, 0)) := bC
    have hBd : Below w.heap.size w wv.drew := Below.drew hB
    have kSd : V.heap.size ≤ wv.drew.heap.size := kS
    have hAb : Above V.heap.size wv wv.drew := Above.refl _ _
    have hBw : Below w.heap.size wv wv.drew := Below.drew (Below.refl _ _)
    refine Bridge.startIn_ (k := 12) (S := fun w' => w'.cell? ⟨w.heap.size + 1 + 1, 0, none⟩ = some v ∧ w'.cell? ⟨w.heap.size + 1, 0, none⟩ = some (.slice (some ad) m.length cap) ∧ w'.cell? ⟨w.heap.size, 0, none⟩ = some (.int .i64 zn) ∧ w'.cell? (ad.add q.toNat) = some (.int .i64 e) ∧ Below V.heap.size wv.drew w') (ds := [11]) #[false, false, false, false, false, false, false, false, false, false, false, false] (by kernel_rfl) rfl rfl (by rfl) (fun ⟨_, _, h_⟩ => h_) ⟨(blk_cell (((Below.refl _ wv.drew).block _ kL).trans bLd) 0).trans rfl, (blk_cell (((Below.refl _ wv.drew).block _ kM).trans bMd) 0).trans rfl, (blk_cell (((Below.refl _ wv.drew).block _ kN).trans bNd) 0).trans rfl, ((Below.refl _ wv.drew).cell kE).trans he, Below.refl _ wv.drew⟩ (fun hHeld => ?_)
    generalize wv.drew = wd at *
    refine pure_ (i := 2) (N := some 34) (v := ?_) (a' := ?_) #[false, false, true, false, false, false, false, false, false, false, false, false] rfl rfl (by kernel_rfl) (fun _ _ _ h => h) (Or.inl ⟨by rfl, ?_⟩) ?_ ?_
    rotate_left
    · intro w'
      go_simp
      with_reducible rfl
    rotate_left
    · simp only [Act.put, List.setIfInBounds_toArray, List.set_cons_zero, List.set_cons_succ, i64_w, i32_w]
      rfl
    refine pure_ (i := 5) (N := some 37) (v := ?_) (a' := ?_) #[false, false, true, false, false, true, false, false, false, false, false, false] rfl rfl (by kernel_rfl) (fun _ _ _ h => h) (Or.inl ⟨by rfl, ?_⟩) ?_ ?_
    rotate_left
    · intro w'
      go_simp
      with_reducible rfl
    rotate_left
    · simp only [Act.put, List.setIfInBounds_toArray, List.set_cons_zero, List.set_cons_succ, i64_w, i32_w]
      rfl
    refine take_ (i := 0) (N := some 32) (v := ?_) (a' := ?_) #[true, false, true, false, false, true, false, false, false, false, false, false] rfl rfl (by kernel_rfl) (fun _ _ _ h => h) (Or.inl ⟨by rfl, ?_⟩) hHeld ?_ ?_
    rotate_left
    · rintro w' ⟨s0, s1, s2, s3, s4⟩
      go_simp
      with_reducible rfl
    rotate_left
    · simp only [Act.put, List.setIfInBounds_toArray, List.set_cons_zero, List.set_cons_succ, i64_w, i32_w]
      rfl
    refine take_ (i := 1) (N := some 33) (v := ?_) (a' := ?_) #[true, true, true, false, false, true, false, false, false, false, false, false] rfl rfl (by kernel_rfl) (fun _ _ _ h => h) (Or.inl ⟨by rfl, ?_⟩) hHeld ?_ ?_
    rotate_left
    · rintro w' ⟨s0, s1, s2, s3, s4⟩
      go_simp
      with_reducible rfl
    rotate_left
    · simp only [Act.put, List.setIfInBounds_toArray, List.set_cons_zero, List.set_cons_succ, i64_w, i32_w]
      rfl
    refine take_ (i := 3) (N := some 35) (v := ?_) (a' := ?_) #[true, true, true, true, false, true, false, false, false, false, false, false] rfl rfl (by kernel_rfl) (fun _ _ _ h => h) (Or.inl ⟨by rfl, ?_⟩) hHeld ?_ ?_
    rotate_left
    · rintro w' ⟨s0, s1, s2, s3, s4⟩
      go_simp
      with_reducible rfl
    rotate_left
    · simp only [Act.put, List.setIfInBounds_toArray, List.set_cons_zero, List.set_cons_succ, i64_w, i32_w]
      rfl
    refine pure_ (i := 4) (N := some 36) (v := ?_) (a' := ?_) #[true, true, true, true, true, true, false, false, false, false, false, false] rfl rfl (by kernel_rfl) (fun _ _ _ h => h) (Or.inl ⟨by rfl, ?_⟩) ?_ ?_
    rotate_left
    · intro w'
      go_simp
      with_reducible rfl
    rotate_left
    · simp only [Act.put, List.setIfInBounds_toArray, List.set_cons_zero, List.set_cons_succ, i64_w, i32_w]
      rfl
    refine pure_ (i := 6) (N := some 38) (v := ?_) (a' := ?_) #[true, true, true, true, true, true, true, false, false, false, false, false] rfl rfl (by kernel_rfl) (fun _ _ _ h => h) (Or.inl ⟨by rfl, ?_⟩) ?_ ?_
    rotate_left
    · intro w'
      go_simp
      with_reducible rfl
    rotate_left
    · simp only [Act.put, List.setIfInBounds_toArray, List.set_cons_zero, List.set_cons_succ, i64_w, i32_w]
      rfl
    refine pure_ (i := 7) (N := some 39) (v := ?_) (a' := ?_) #[true, true, true, true, true, true, true, true, false, false, false, false] rfl rfl (by kernel_rfl) (fun _ _ _ h => h) (Or.inl ⟨by rfl, ?_⟩) ?_ ?_
    rotate_left
    · intro w'
      go_simp
      with_reducible rfl
    rotate_left
    · simp only [Act.put, List.setIfInBounds_toArray, List.set_cons_zero, List.set_cons_succ, i64_w, i32_w]
      rfl
    refine take_ (i := 8) (N := some 40) (v := ?_) (a' := ?_) #[true, true, true, true, true, true, true, true, true, false, false, false] rfl rfl (by kernel_rfl) (fun _ _ _ h => h) (Or.inl ⟨by rfl, ?_⟩) hHeld ?_ ?_
    rotate_left
    · rintro w' ⟨s0, s1, s2, s3, s4⟩
      go_simp
      with_reducible rfl
    rotate_left
    · simp only [Act.put, List.setIfInBounds_toArray, List.set_cons_zero, List.set_cons_succ, i64_w, i32_w]
      rfl
    refine one_ (i := 9) (N := some 41) #[true, true, true, true, true, true, true, true, true, true, false, false] rfl rfl (by kernel_rfl) (by decide) (fun K hK => ?_)
    have HB1 := Aside0.mk hHeld.2.2.2.2
    refine value_ (w1 := ?_) (v := ?_) (by rfl) rfl ?_ ?_
    rotate_left 2
    · go_simp
      constructor
      · rfl
      · rfl
    refine hK.out _ _ ⟨(blk_cell (((hHeld.2.2.2.2.alloc (Nat.le_trans kSd hHeld.2.2.2.2.size) _).block _ kL).trans bLd) 0).trans rfl, (blk_cell (((hHeld.2.2.2.2.alloc (Nat.le_trans kSd hHeld.2.2.2.2.size) _).block _ kM).trans bMd) 0).trans rfl, (blk_cell (((hHeld.2.2.2.2.alloc (Nat.le_trans kSd hHeld.2.2.2.2.size) _).block _ kN).trans bNd) 0).trans rfl, ((hHeld.2.2.2.2.alloc (Nat.le_trans kSd hHeld.2.2.2.2.size) _).cell kE).trans he, hHeld.2.2.2.2.alloc (Nat.le_trans kSd hHeld.2.2.2.2.size) _⟩ (fun hHeld => ?_)
    clear hK K
    refine norm_ (a' := ?_) ?_ ?_
    rotate_left
    · show Act.put _ (some 41) _ = _
      simp only [Act.put, List.setIfInBounds_toArray, List.set_cons_zero, List.set_cons_succ, i64_w, i32_w]
      rfl
    refine one_ (i := 10) (N := some 42) #[true, true, true, true, true, true, true, true, true, true, true, false] rfl rfl (by kernel_rfl) (by decide) (fun K hK => ?_)
    refine Kd.R_append_step (Kd.int .i64) (w0 := wd) V.heap.size (by rfl) (.tmp 32) (.tmp 41) 22 3 (.int .i64 0) 8 rfl Tryd.underlying22 P.info3 rfl (by decide) (by omega) v xs e [.int .i64 e] (fun _ => True) (fun _ => False) rfl rfl ?aP (fun _ hk => hk.elim) ?aF ?aO ?aB ?aS ?aL ?_
    case aP => exact rfl
    case aF => exact (fun _ _ => trivial)
    case aO => exact hR0
    case aB => exact HB1.out
    case aS => exact Nat.le_trans kSd HB1.out.size
    case aL => omega
    intro v1 w1 ho1 hb hg1 hat
    have HB2 := Aside0.mk hb
    have HO2 := Aside0.mk ho1
    have HG2 := Aside0.mk hg1
    clear ho1 hb hg1 hat
    obtain ⟨A1, c1, e1⟩ := Kd.R_slice HO2.out
    subst e1
    refine hK.out _ _ ⟨(blk_cell (((HB2.out).block _ kL).trans bLd) 0).trans rfl, (blk_cell (((HB2.out).block _ kM).trans bMd) 0).trans rfl, (blk_cell (((HB2.out).block _ kN).trans bNd) 0).trans rfl, ((HB2.out).cell kE).trans he, HB2.out⟩ (fun hHeld => ?_)
    clear hK K
    refine norm_ (a' := ?_) ?_ ?_
    rotate_left
    · show Act.put _ (some 42) _ = _
      simp only [Act.put, List.setIfInBounds_toArray, List.set_cons_zero, List.set_cons_succ, i64_w, i32_w]
      rfl
    refine last_ (i := 11) (N := none) #[true, true, true, true, true, true, true, true, true, true, true, true] rfl rfl (by kernel_rfl) (by decide) (fun K hK => ?_)
    have bL2 := (HB2.out.block _ kL).trans bLd
    have q1 : w1.cell? ⟨w.heap.size + 1 + 1, 0, none⟩ = some v := (blk_cell bL2 0).trans rfl
    have q2 := blk_frozen bL2 0
    refine skip_ (w1 := ?_) (by rfl) rfl ?_ ?_
    rotate_left
    · go_simp
      rfl
    refine hK.out _ _ ?_
    clear hK K
    refine done_ (by kernel_rfl) ?_
    have bLw : Boxed w1 (w.heap.size + 1 + 1) 22 v := (HB2.out.block _ kL).trans bLd
    have bMw : Boxed w1 (w.heap.size + 1) 22 (.slice (some ad) m.length cap) := (HB2.out.block _ kM).trans bMd
    have bNw : Boxed w1 w.heap.size 3 (.int .i64 zn) := (HB2.out.block _ kN).trans bNd
    have bAw : Boxed w1 w2.heap.size 3 (.int .i64 (lay : Int)) := (HB2.out.block _ kA).trans bAd
    have bCw : Boxed w1 (w2.heap.size + 1) 3 (.int .i64 zn) := (HB2.out.block _ kC).trans bCd
    have K1 : KeepsOthers wd w1 := by
      refine KeepsOthers.of_grownBy HG2.out fun j o ej hj => ?_
      have hrow := Kd.own_of_R hR0
      rcases hrow.2 with ⟨rfl, _⟩ | ⟨g, cp, cur, rfl, _, hgb, _⟩
      · simp [Value.ownBlock] at ej
      · obtain rfl : g = j := by simpa [Value.ownBlock] using ej
        rw [hgb] at hj; cases hj; rfl
    have gB : Below w.heap.size wd w1 := HB2.out.mono hV
    have gV : V.heap.size ≤ w1.heap.size := Nat.le_trans kSd HB2.out.size
    refine ⟨Above.trans hAb (Above.of_keeps (K1.trans (KeepsOthers.setCell _ _ _))), (hBw.trans gB).setCell (p := ⟨_, 0, none⟩) (show w.heap.size ≤ w.heap.size + 1 + 1 by omega) _,
      ⟨⟨bNw.other (by omega) _, bMw.other (by omega) _⟩, ⟨bAw.other (by omega) _, bCw.other (by omega) _⟩, ⟨_, bLw.set _, ?_, trivial⟩, (hBd.trans gB).setCell (p := ⟨_, 0, none⟩) (show w.heap.size ≤ w.heap.size + 1 + 1 by omega) _, ?_, HP.out⟩⟩
    · rw [HX.out]
      have hlx : (xs ++ [e]).length = xs.length + 1 := by simp
      have hO := Kd.own_of_R (Kd.R_far (p := ⟨w.heap.size + 1 + 1, 0, none⟩) (Kd.R_types HO2.out bLw (by decide)) (fun _ hk => hk.2) (.slice A1 (xs ++ [e]).length c1))
      rw [hlx] at hO ⊢
      exact hO
    · simpa [World.setCell] using gV
  case done =>
    rintro D ys W' hD rfl ⟨⟨bN, bM⟩, ⟨bA, bC⟩, ⟨v, bL, ho, -⟩, hB, kS, hlen⟩ hDd
    have hR := Kd.R_of_own (h1 := fun _ => rfl) ho (ok := fun _ => True) (fun _ _ => trivial)
    obtain ⟨A1, c1, ev⟩ := Kd.R_slice hR
    subst ev
    obtain ⟨ln, hln⟩ : ∃ ln, (List.map (valAt m n) (placesOf lay n)).length = ln := ⟨_, rfl⟩
    rw [hln] at bL hR
    have c6 := bL.cell
    have f6 := bL.frozen
    gi_wp2
    have hDn : (W'.setCell ⟨w.heap.size + 1 + 1, 0, none⟩ (.slice A1 ln c1)).heap[D]? = some (.deferred (some [])) := (Below.heap_setCell _ _ _ _ (by show D ≠ w.heap.size + 1 + 1; omega)).trans hDd
    refine ⟨by simp, .inl ⟨_, _, rfl, run_takeDeferred hDn, ?_⟩⟩
    have g6 := ((bL.set (.slice A1 ln c1)).kept (grownBy_putObj' _ D (.deferred none)) (fun e => by have := Option.some.inj e; omega)).cell
    have hO1 := Kd.own_of_R (Kd.R_far (p := ⟨w.heap.size + 1 + 1, 0, none⟩) (Kd.R_types hR bL (by decide)) (fun _ hk => hk.2) (.slice A1 ln c1))
    have hO2 := ownsRow_putObj hO1 (.deferred none) hDn rfl
    have hO3 := Kd.R_of_own (h1 := fun _ => rfl) (base := w.heap.size) (ok := fun _ => True) ⟨hO2.1, hO2.2.imp id (fun ⟨g, cp, cur, e, hb, r⟩ => ⟨g, cp, cur, e, Nat.le_trans hV hb, r⟩)⟩ (fun _ _ => trivial)
    refine ⟨.tuple #[.slice A1 ln c1, .int .i64 0], ?_, ⟨_, rfl, hO3, ?_⟩⟩
    · simp [results, Tryd.f13, go_sem, g6]
    · exact (hB.setCell (p := ⟨_, 0, none⟩) (show w.heap.size ≤ w.heap.size + 1 + 1 by omega) _).grown (grownBy_putObj' _ D _) (by have := hB.size; simpa [World.setCell] using this) (fun k e => by cases e; omega)
  case stop =>
    rintro D pre W' hD hpre h hDd
    exact h.elim
end LayWalk
end Go.Proofs.YtdgdhmglcpkkiaaDoor
