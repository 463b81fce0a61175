/- The stops of a plan, and its closure: all stops, route by route, with their places, whatever the loop does with them. -/
import Derived.Lib.Hide
import Derived.Test.YtdjkhcmblekeiaaGAll
namespace Go.Proofs.Ytdjkhcmblekeiaa
open Go.RowKit
namespace StopsWalk
open Go.RowKit Go.Shelf Go.Proofs.YtdjkhcmblekeiaaW.PrintWords RangeD AllWalk P
attribute [local go_sem] Oper.semAt_some

abbrev Stop := (Nat × Nat) × Int
def encS (x : Stop) : Array Value := #[.agg #[.int .i64 (x.1.1 : Int), .int .i64 (x.1.2 : Int)], .int .i64 x.2]
/-- stop k of route i. -/
def tag (i : Nat) (x : Nat × Int) : Stop := ((i, x.1), x.2)
def ofRoute (rs : List (List Int)) (i : Nat) : List Stop := (upto (inner (rd_L1 rs (i : Int))) (rd_L1 rs (i : Int)).length).map (tag i)
def upTo (rs : List (List Int)) (i : Nat) : List Stop := (List.range i).flatMap (ofRoute rs)
/-- All stops of a plan, in their order. -/
def stopsOf (rs : List (List Int)) : List Stop := upTo rs rs.length
theorem upTo_succ (rs : List (List Int)) (i : Nat) : upTo rs (i + 1) = upTo rs i ++ ofRoute rs i := by simp [upTo, List.range_succ]
theorem upTo_pre (rs : List (List Int)) {i j : Nat} (h : i ≤ j) : upTo rs i <+: upTo rs j := by
  obtain ⟨d, rfl⟩ : ∃ d, j = i + d := ⟨j - i, by omega⟩
  clear h
  induction d with
  | zero => exact List.prefix_refl _
  | succ d ih => rw [show i + (d + 1) = (i + d) + 1 from rfl, upTo_succ]; exact ih.trans (List.prefix_append _ _)
theorem ofRoute_length (rs : List (List Int)) (i : Nat) : (ofRoute rs i).length = (rd_L1 rs (i : Int)).length := by simp [ofRoute, upto_length]
theorem upTo_lt (rs : List (List Int)) {i n : Nat} (hi : i < rs.length) (hn : n < (rd_L1 rs (i : Int)).length) : (upTo rs i).length + n < (stopsOf rs).length := by
  have h1 := (upTo_pre rs (show i + 1 ≤ rs.length by omega)).length_le
  rw [upTo_succ, List.length_append, ofRoute_length] at h1
  unfold stopsOf
  omega
theorem stop_pre (rs : List (List Int)) {i : Nat} (hi : i < rs.length) {pre : List (Nat × Int)} (h : pre <+: upto (inner (rd_L1 rs (i : Int))) (rd_L1 rs (i : Int)).length) : upTo rs i ++ pre.map (tag i) <+: stopsOf rs := by
  refine List.IsPrefix.trans ?_ (upTo_pre rs (show i + 1 ≤ rs.length by omega))
  rw [upTo_succ]
  refine (List.prefix_append_right_inj _).2 ?_
  unfold ofRoute
  exact h.map _

theorem meas_lt {i n : Nat} (h : i < n) : n - ((i + 1 : Nat) : Int).toNat < n - (i : Int).toNat := by omega
def Small (rs : List (List Int)) : Prop := rs.length ≤ 65536 ∧ ∀ i : Nat, i < rs.length → (rd_L1 rs (i : Int)).length ≤ 65536

set_option maxRecDepth 100000 in
set_option maxHeartbeats 4000000 in
theorem stops1_in (m : Nat) (hm : 3 ≤ m) (l Bp : Nat) (A : Option Addr) (cap : Nat) (rs : List (List Int)) (w : World) (hz : Small rs) (hC : Kd.C (Kd.slice 3 (Kd.int .i64)) w A rs.length rs) (J Jx : List Stop → World → Prop) (W : World)
    (hJ : OwnFrom W.heap.size J) (hJx : OwnFrom W.heap.size Jx)
    (hY : ∀ pre x W1, J pre W1 → pre.length < (stopsOf rs).length → YieldAt Fence.wide (m - 1) Try.prog l (encS x) W1 fun e W' =>
      (e = .returned (.bool true) ∧ J (pre ++ [x]) W' ∧ Below w.heap.size W1 W' ∧ Above W.heap.size W1 W') ∨ (e = .returned (.bool false) ∧ Jx (pre ++ [x]) W' ∧ Above W.heap.size W1 W'))
    (hwW : Below w.heap.size w W) (bP : Boxed W Bp 24 (.slice A rs.length cap)) (h0 : J [] W) :
    CallsIn Fence.wide m Try.prog 28 #[.func (.yield l) #[] #[], .pointer (some ⟨Bp, 0, none⟩)] W fun e W' => (∃ v, e = .returned v) ∧
      ((∃ ys, ys = stopsOf rs ∧ J ys W') ∨ (∃ pre, pre <+: stopsOf rs ∧ Jx pre W')) := by
  have hm1 : 1 ≤ m := by omega
  refine callsIn_of_wp_marks Try.func28 rfl trivial ?_ rfl
  simp only [Try.ntmps28, List.size_toArray, List.length_cons, List.length_nil, Nat.reduceAdd, Nat.reduceSub, Array.replicate_succ, Array.replicate_zero, List.push_toArray, List.append_toArray, List.nil_append, List.cons_append]
  have c1 := (bP.alloc (.cells #[.func (.yield l) #[] #[]] 56)).cell
  have bY := Boxed.new W 56 (.func (.yield l) #[] #[])
  have bP1 := bP.alloc (.cells #[.func (.yield l) #[] #[]] 56)
  have hb1 : Below w.heap.size w (W.alloc (.cells #[.func (.yield l) #[] #[]] 56)) := hwW.alloc hwW.size _
  have j1 := hJ.alloc (.cells #[.func (.yield l) #[] #[]] 56) h0
  have hs1 : W.heap.size < (W.alloc (.cells #[.func (.yield l) #[] #[]] 56)).heap.size := by simp
  gi_wp2
  clear c1
  generalize (W.alloc (.cells #[.func (.yield l) #[] #[]] 56)) = V at *
  refine wpIn_loop (fun a wr => ∃ (i : Nat) (Ds : List Nat) (u3 u4 u5 u6 u11 u12 u13 u14 u15 u16 u17 u18 u19 u20 u21 u22 u23 u24 u25 u26 : Value),
      a = { tmps := #[.func (.yield l) #[] #[], .pointer (some ⟨Bp, 0, none⟩), .pointer (some ⟨W.heap.size, 0, none⟩), u3, u4, u5, u6, .pointer (some ⟨Bp, 0, none⟩), .slice A rs.length cap, .int .i64 (rs.length : Int), .int .i64 (i : Int), u11, u12, u13, u14, u15, u16, u17, u18, u19, u20, u21, u22, u23, u24, u25, u26], defers := Ds.map RangeD.mark } ∧
      i ≤ rs.length ∧ J (upTo rs i) wr ∧ Boxed wr W.heap.size 56 (.func (.yield l) #[] #[]) ∧ Below w.heap.size w wr ∧ Marks W.heap.size Ds wr)
    (fun a _ => rs.length - (intOf (a.tmps.getD 10 undef)).toNat) ?_ ?_
  · exact ⟨0, [], _, _, _, _, _, _, _, _, _, _, _, _, _, _, _, _, _, _, _, _, rfl, Nat.zero_le _, j1, bY, hb1, ⟨List.nodup_nil, fun D h => (by cases h)⟩⟩
  · clear j1 bY hb1 hs1 bP1 bP h0 hwW
    rintro _ wr ⟨i, Ds, u3, u4, u5, u6, u11, u12, u13, u14, u15, u16, u17, u18, u19, u20, u21, u22, u23, u24, u25, u26, rfl, hi, hJi, bY, hB, hM⟩
    by_cases hlt : i < rs.length
    · obtain ⟨ad, A', c', rfl, hx, hl, hCi⟩ := at_L1 hC (i : Int) (by omega) (by omega)
      have hx' := (hB.cell (World.block_lt_of_cell? w _ hx)).trans hx
      clear hx
      rw [Int.toNat_natCast] at hx'
      have hzi := hz.2 i hlt
      have E := Lib.hid (@upTo_succ rs i)
      have F := Lib.hid (fun pre => @stop_pre rs i hlt pre)
      have G := Lib.hid (fun n => @upTo_lt rs i n hlt)
      gi_wp2_with (refine ⟨trivial, ?_⟩; gi_at_call 29; refine (all_in _ _ _ _ _).mono ?_; rintro e w' ⟨rfl, rfl⟩)
      have bI := (Boxed.new wr 3 (.int .i64 (i : Int))).alloc (.cells #[.slice A' (rd_L1 rs (i : Int)).length c'] 33)
      have bR := Boxed.new (wr.alloc (.cells #[.int .i64 (i : Int)] 3)) 33 (.slice A' (rd_L1 rs (i : Int)).length c')
      have bY2 := (bY.alloc (.cells #[.int .i64 (i : Int)] 3)).alloc (.cells #[.slice A' (rd_L1 rs (i : Int)).length c'] 33)
      have hB2 := (hB.alloc hB.size (.cells #[.int .i64 (i : Int)] 3)).alloc (Nat.le_trans hB.size (by simp)) (.cells #[.slice A' (rd_L1 rs (i : Int)).length c'] 33)
      have hM2 := (hM.alloc (.cells #[.int .i64 (i : Int)] 3)).alloc (.cells #[.slice A' (rd_L1 rs (i : Int)).length c'] 33)
      have hJ2 := hJ.alloc (.cells #[.slice A' (rd_L1 rs (i : Int)).length c'] 33) (hJ.alloc (.cells #[.int .i64 (i : Int)] 3) hJi)
      rw [World.size_alloc] at bR
      have hs2 : ((wr.alloc (.cells #[.int .i64 (i : Int)] 3)).alloc (.cells #[.slice A' (rd_L1 rs (i : Int)).length c'] 33)).heap.size = wr.heap.size + 2 := by simp
      have hlW := bY.lt
      generalize ((wr.alloc (.cells #[.int .i64 (i : Int)] 3)).alloc (.cells #[.slice A' (rd_L1 rs (i : Int)).length c'] 33)) = U at *
      have hA2 : w.heap.size ≤ U.heap.size := hB2.size
      have hWU : W.heap.size ≤ U.heap.size := by omega
      refine wpIn_rangeFunc_D (gf := 30) (lb := #[.pointer (some ⟨wr.heap.size + 1, 0, none⟩)]) (by rfl) (enters_of Try.func30 (by kernel_rfl) rfl)
        (all_seq (m - 1) (by omega) (wr.heap.size + 1) A' c' (rd_L1 rs (i : Int)) w U hzi hCi hB2 (by have := bR.lt; omega) bR.cell) (Below.refl _ _) hA2 (by intro _; rfl)
        (fun pre W' => J (upTo rs i ++ pre.map (tag i)) W' ∧ (Boxed W' W.heap.size 56 (.func (.yield l) #[] #[]) ∧ Boxed W' wr.heap.size 3 (.int .i64 (i : Int))) ∧ Below w.heap.size w W' ∧ Marks W.heap.size Ds W')
        (fun pre W' => Jx (upTo rs i ++ pre.map (tag i)) W' ∧ Marks W.heap.size Ds W')
        (OwnFrom.and (OwnFrom.mono (OwnFrom.at hJ (fun pre : List (Nat × Int) => upTo rs i ++ pre.map (tag i))) hWU) (OwnFrom.and (OwnFrom.and (Own.from (boxed_own _ _ _) _) (Own.from (boxed_own _ _ _) _)) (OwnFrom.and (ownFrom_below (Nat.le_refl _) hA2) (own_marks hM2 (Nat.le_refl _)))))
        (OwnFrom.and (OwnFrom.mono (OwnFrom.at hJx (fun pre : List (Nat × Int) => upTo rs i ++ pre.map (tag i))) hWU) (own_marks hM2 (Nat.le_refl _)))
        ⟨by simpa using hJ2, ⟨bY2, bI⟩, hB2, hM2⟩
        (fun pre x a' W' => a' = { tmps := #[.func (.yield l) #[] #[], .pointer (some ⟨Bp, 0, none⟩), .pointer (some ⟨W.heap.size, 0, none⟩), .pointer (some ⟨wr.heap.size, 0, none⟩), .slice A' (rd_L1 rs (i : Int)).length c', .int .i64 (x.1 : Int), .int .i64 x.2, .pointer (some ⟨Bp, 0, none⟩), .slice (some ad) rs.length cap, .int .i64 (rs.length : Int), .int .i64 (i : Int), .bool true, .int .i64 (i : Int), .pointer (some (ad.add i)), .slice A' (rd_L1 rs (i : Int)).length c', .slice A' (rd_L1 rs (i : Int)).length c', .func (.func 30) #[] #[.pointer (some ⟨wr.heap.size + 1, 0, none⟩)], .int .i64 (x.1 : Int), .int .i64 x.2, u19, u20, u21, u22, u23, u24, u25, u26], defers := [] } ∧
          (J (upTo rs i ++ pre.map (tag i)) W' ∧ (Boxed W' W.heap.size 56 (.func (.yield l) #[] #[]) ∧ Boxed W' wr.heap.size 3 (.int .i64 (i : Int))) ∧ Below w.heap.size w W' ∧ Marks W.heap.size Ds W'))
        (fun pre x a' => OwnFrom.and (ownFrom_pure _ _) (OwnFrom.and (OwnFrom.mono (OwnFrom.at hJ (fun _ => upTo rs i ++ pre.map (tag i))) hWU) (OwnFrom.and (OwnFrom.and (Own.from (boxed_own _ _ _) _) (Own.from (boxed_own _ _ _) _)) (OwnFrom.and (ownFrom_below (Nat.le_refl _) hA2) (own_marks hM2 (Nat.le_refl _))))))
        ?assign ?body ?done ?stop
      case assign =>
        rintro l2 pre x W' K hI hK
        have hK' := hK _ W' (Below.refl _ _) (Above.refl _ _) ⟨rfl, hI⟩
        clear hK hI
        simp only [encI]
        gi_wp2
        exact hK'
      case body =>
        rintro l2 pre x a' W' hl2 ⟨rfl, hJ3, ⟨bY3, bI3⟩, hB3, hM3⟩ hlen
        have hlen' := G.out pre.length hlen
        have cY := bY3.cell
        have cI := bI3.cell
        obtain ⟨fn, tmps, assign, body, hy, hR⟩ := yield_in (l₂ := l2) (m' := m - 1 - 1 - 1) (hY (upTo rs i ++ pre.map (tag i)) (tag i x) W' hJ3 (by simpa using hlen'))
        simp only [encS, tag] at hy
        gi_wp2
        refine ⟨fun h => (by simp [Fence.wide] at h), hR.mono ?_⟩
        rintro e W4 (⟨rfl, hJ4, hB4, hA4⟩ | ⟨rfl, hJ4, hA4⟩)
        · clear hy hR hY
          gi_wp2
          refine ⟨hA4.mono hWU, hB4, ?_, ⟨boxed_above bY3 hA4 (Nat.le_refl _), boxed_above bI3 hA4 (by omega)⟩, hB3.trans hB4, hM3.above hA4 (Nat.le_refl _)⟩
          rw [List.map_append, ← List.append_assoc]
          exact hJ4
        · clear hy hR hY
          gi_wp2
          refine ⟨hA4.mono hWU, ?_, hM3.above hA4 (Nat.le_refl _)⟩
          rw [List.map_append, ← List.append_assoc]
          exact hJ4
      case done =>
        rintro D ys W' hD rfl ⟨hJ3, ⟨bY3, bI3⟩, hB3, hM3⟩ hDd
        clear hY
        have e1 : wrap64 ((i : Int) + 1) = ((i + 1 : Nat) : Int) := by have := hz.1; unfold wrap64; omega
        gi_wp2
        rw [e1]
        refine ⟨⟨i + 1, D :: Ds, _, _, _, _, _, _, _, _, _, _, _, _, _, _, _, _, _, _, _, _, rfl, hlt, ?_, bY3, hB3, ?_⟩, ?_⟩
        · rw [E.out]; exact hJ3
        · exact hM2.cons hD (by omega) hDd hM3
        · exact meas_lt hlt
      case stop =>
        rintro D pre W' hD hp ⟨hJ3, hM3⟩ hDd
        clear hY
        have hp' := F.out pre hp
        clear F G E
        gi_wp2
        refine leaves_marks (G := fun W' => Jx (upTo rs i ++ pre.map (tag i)) W') (B := W.heap.size) (OwnFrom.at hJx (fun _ => upTo rs i ++ pre.map (tag i))) (fun W' h => ?_) (D :: Ds) W' (hM2.cons hD (by omega) hDd hM3) hJ3
        exact ⟨_, results_none rfl _ _ _, ⟨_, rfl⟩, .inr ⟨_, hp', h⟩⟩
    · obtain rfl : i = rs.length := by omega
      gi_wp2
      refine leaves_marks (G := fun W' => J (stopsOf rs) W') (B := W.heap.size) (OwnFrom.at hJ (fun _ => stopsOf rs)) (fun W' h => ?_) Ds wr hM hJi
      exact ⟨_, results_none rfl _ _ _, ⟨_, rfl⟩, .inl ⟨_, rfl, h⟩⟩
set_option maxHeartbeats 1000000 in
theorem stops_in (m : Nat) (a : Option Addr) (len cap : Nat) (w : World) :
    CallsIn Fence.wide m Try.prog 24 #[.agg #[.slice a len cap]] w fun e w' => e = .returned (.func (.func 28) #[] #[.pointer (some ⟨w.heap.size, 0, none⟩)]) ∧ w' = w.alloc (.cells #[.slice a len cap] 24) := by
  refine callsIn_of_wp Try.func24 rfl trivial ?_ rfl
  simp only [Try.ntmps24, List.size_toArray, List.length_cons, List.length_nil, Nat.reduceAdd, Nat.reduceSub, Array.replicate_succ, Array.replicate_zero, List.push_toArray, List.append_toArray, List.nil_append, List.cons_append]
  gi_wp2
  go_ret
  exact ⟨rfl, rfl⟩
/-- The stops of a plan hand back a value that gives them all, in their order. w: the world in which the plan came in. -/
theorem stops_seq (m : Nat) (hm : 3 ≤ m) (Bp : Nat) (A : Option Addr) (cap : Nat) (rs : List (List Int)) (w W : World) (hz : Small rs) (hC : Kd.C (Kd.slice 3 (Kd.int .i64)) w A rs.length rs) (hwW : Below w.heap.size w W) (bP : Boxed W Bp 24 (.slice A rs.length cap)) :
    SeqD m Try.prog 28 #[.pointer (some ⟨Bp, 0, none⟩)] encS w.heap.size (fun ys => ys = stopsOf rs) (fun pre => pre <+: stopsOf rs) (stopsOf rs).length W := fun l J Jx V hV hJ hJx hY h0 =>
  stops1_in m hm l Bp A cap rs w hz hC J Jx V hJ hJx hY (hwW.trans (hV.mono hwW.size)) ((hV.block Bp bP.lt).trans bP) h0
/-- No plan that can be laid is longer. -/
def smallB (rs : List (List Int)) : Bool := decide (rs.length ≤ 65536) && rs.all (fun r => decide (r.length ≤ 65536))
theorem small_of {rs : List (List Int)} (h : smallB rs = true) : Small rs := by
  simp only [smallB, Bool.and_eq_true, decide_eq_true_eq, List.all_eq_true] at h
  refine ⟨h.1, fun i hi => ?_⟩
  rw [show rd_L1 rs (i : Int) = rs[i] by unfold rd_L1; simp [hi]]
  exact h.2 _ (List.getElem_mem hi)
end StopsWalk
end Go.Proofs.Ytdjkhcmblekeiaa
