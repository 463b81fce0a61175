/- canon.Norm: its walk. -/
import Derived.Test.YtlncbckpcmojpaaMkk
import Derived.Test.YtlncbckpcmojpaaMka
namespace Go.Proofs.Ytlncbckpcmojpaa
open Go.RowKit Go.Proofs.YtlncbckpcmojpaaW.PrintWords Go.Proofs.YtlncbckpcmojpaaW.PrintLast Go.Proofs.YtlncbckpcmojpaaW.PrintMore
set_option linter.unusedVariables false
set_option linter.unusedSimpArgs false
namespace CanonNorm
open P NodeFind
abbrev Node := S32
abbrev rdN (l : List Node) (i : Int) : Node := rd_T32 l i
def div10 (d : Node) : Node := ⟨wrap64 (Int.tdiv d.f0 10), wrap64 (Int.tdiv d.f1 10), d.f2, d.f3, d.f4, d.f5, d.f6⟩
def okScale (sc : Int) : Bool := decide (1 ≤ sc ∧ sc ≤ 6)
/-- The normal form's scale and nodes, k rounds at most. -/
def normGo : Nat → Int → List Node → Int × List Node
  | 0, sc, ns => (sc, ns)
  | k + 1, sc, ns => if okScale sc = true ∧ ns.any oddB = false then normGo k (sc - 1) (ns.map div10) else (sc, ns)
theorem normGo_end {k : Nat} {sc : Int} {ns : List Node} (h : ¬ (okScale sc = true ∧ ns.any oddB = false)) : normGo k sc ns = (sc, ns) := by
  cases k with
  | zero => rfl
  | succ k => exact if_neg h
theorem normGo_step {k : Nat} {sc : Int} {ns : List Node} (hk : 1 ≤ sc → sc ≤ 6 → sc ≤ k) (h1 : okScale sc = true) (h2 : ns.any oddB = false) : ∃ m, normGo k sc ns = normGo m (sc - 1) (ns.map div10) ∧ (1 ≤ sc - 1 → sc - 1 ≤ 6 → sc - 1 ≤ (m : Int)) := by
  have := of_decide_eq_true h1
  cases k with
  | zero => have := hk this.1 this.2; omega
  | succ k => exact ⟨k, if_pos ⟨h1, h2⟩, fun a b => by have := hk (by omega) (by omega); omega⟩
theorem scale_c (sc : Int) (w : World) : Calls Try.prog 36 #[.int .i64 sc, .int .i64 1, .int .i64 6] w fun e w' => e = .returned (.bool (okScale sc)) ∧ Below w.heap.size w w' := CanonWalk.between_c sc 1 6 w
theorem contains_c (A : Option Addr) (c : Nat) (l : List Node) (w : World) (hr : Kd.C P.k32 w A l.length l) :
    Calls Try.prog 37 #[.slice A l.length c, .func (.func 35) #[] #[]] w fun e w' => e = .returned (.bool (l.any oddB)) ∧ Below w.heap.size w w' :=
  containsFunc 35 (enters_ Try.func35 (by kernel_rfl) rfl) oddB odd_c A c l w hr
structure Top where
  nm : ByteArray
  kd : Int
  mt : Int
  cp : Int
  fl : Int
  mx : List Int
/-- Norm's state: the instance's block, its rows. -/
def NSt (x : Top) (w : World) (v1 v2 : Value) (sc : Int) (L : List Node) (W : World) : Prop :=
  W.heap[w.heap.size]? = some (.cells #[.string x.nm, .int .i64 x.kd, .int .i64 x.mt, .int .i64 sc, .int .i64 x.cp, .int .i64 x.fl, v1, v2] 25 (0, 0)) ∧
  W.heap[w.heap.size + 1]? = some (.cells #[.string ByteArray.empty, .int .i64 0, .int .i64 0, .int .i64 0, .int .i64 0, .int .i64 0, .slice none 0 0, .slice none 0 0] 25 (0, 0)) ∧
  Kd.R k32 32 W w.heap.size (fun _ => True) v1 L ∧ Kd.R (Kd.int .i64) 3 W w.heap.size (fun _ => True) v2 x.mx ∧ Below w.heap.size w W
theorem NSt.below {x : Top} {w : World} {v1 v2 : Value} {sc : Int} {L : List Node} {W W' : World} (h : NSt x w v1 v2 sc L W) (hb : Below W.heap.size W W') : NSt x w v1 v2 sc L W' :=
  ⟨blk_below h.1 hb, blk_below h.2.1 hb, Kd.R_below h.2.2.1 hb, Kd.R_below h.2.2.2.1 hb, below_step h.2.2.2.2 hb⟩
theorem NSt.scale {x : Top} {w : World} {v1 v2 : Value} {sc : Int} {L : List Node} {W : World} (h : NSt x w v1 v2 sc L W) (s : Int) : NSt x w v1 v2 s L (W.setCell ⟨w.heap.size, 3, none⟩ (.int .i64 s)) :=
  ⟨blk_put h.1 3 _ rfl, blk_far h.2.1 (by show w.heap.size + 1 ≠ w.heap.size; omega) _, Kd.R_set h.2.2.1 h.1 (by decide) _ _, Kd.R_set h.2.2.2.1 h.1 (by decide) _ _, below_set h.2.2.2.2 (Nat.le_refl _)⟩
theorem NSt.cells {x : Top} {w : World} {v1 v2 : Value} {sc : Int} {L : List Node} {W : World} (h : NSt x w v1 v2 sc L W) : W.cell? ⟨w.heap.size, 3, none⟩ = some (.int .i64 sc) ∧ W.cell? ⟨w.heap.size, 6, none⟩ = some v1 ∧ W.frozen? ⟨w.heap.size, 3, none⟩ = false :=
  ⟨(blk_cell h.1 3).trans rfl, (blk_cell h.1 6).trans rfl, blk_frozen h.1 3⟩
theorem NSt.row {x : Top} {w : World} {g n c : Nat} {v2 : Value} {sc : Int} {L : List Node} {W : World} (h : NSt x w (.slice (some ⟨g, 0, none⟩) n c) v2 sc L W) : w.heap.size ≠ g ∧ w.heap.size + 1 ≠ g ∧ w.heap.size ≤ g ∧ ∃ cells, W.heap[g]? = some (.cells cells 32 (0, 0)) := by
  obtain ⟨h1, h2, h3, _, _⟩ := h
  obtain ⟨cells, hc⟩ := Kd.R_typed h3 g rfl
  exact ⟨blk_ne h1 hc (by decide), blk_ne h2 hc (by decide), Kd.R_base h3 g rfl, cells, hc⟩
theorem NSt.put0 {x : Top} {w : World} {g n c : Nat} {v2 : Value} {sc : Int} {L : List Node} {W : World} (h : NSt x w (.slice (some ⟨g, 0, none⟩) n c) v2 sc L W) (i : Nat) (hi : i < n) :
    W.cell? ⟨g, i * 7, none⟩ = some (.int .i64 (rdN L i).f0) ∧ W.frozen? ⟨g, i * 7, none⟩ = false ∧ ∀ a : Int, NSt x w (.slice (some ⟨g, 0, none⟩) n c) v2 sc (L.set i ⟨a, (rdN L i).f1, (rdN L i).f2, (rdN L i).f3, (rdN L i).f4, (rdN L i).f5, (rdN L i).f6⟩) (W.setCell ⟨g, i * 7, none⟩ (.int .i64 a)) := by
  obtain ⟨n1, n2, hb, cells, hc⟩ := h.row
  obtain ⟨h1, h2, h3, h4, h5⟩ := h
  obtain ⟨ce, hcl, hM, hcc, hfr⟩ := Kd.R_elem h3 z32 (i : Int) (by omega) (by omega)
  obtain rfl := k32_openM hM
  refine ⟨hcc 0 _ rfl, hfr 0, fun a => ?_⟩
  have hs := Kd.R_seg h3 (i : Int) (by omega) (by omega) (seg := [.int .i64 a]) (j := 0) hcl hcc (show 1 ≤ 7 from by decide) (x' := (⟨a, (rdN L i).f1, (rdN L i).f2, (rdN L i).f3, (rdN L i).f4, (rdN L i).f5, (rdN L i).f6⟩ : Node)) (k32_mkM _ _ _ (⟨a, (rdN L i).f1, (rdN L i).f2, (rdN L i).f3, (rdN L i).f4, (rdN L i).f5, (rdN L i).f6⟩ : Node)) (fun _ hk => hk)
  exact ⟨blk_far h1 n1 _, blk_far h2 n2 _, hs.1, Kd.R_set h4 hc (by decide) _ _, below_set h5 hb⟩
theorem NSt.put1 {x : Top} {w : World} {g n c : Nat} {v2 : Value} {sc : Int} {L : List Node} {W : World} (h : NSt x w (.slice (some ⟨g, 0, none⟩) n c) v2 sc L W) (i : Nat) (hi : i < n) :
    W.cell? ⟨g, i * 7 + 1, none⟩ = some (.int .i64 (rdN L i).f1) ∧ W.frozen? ⟨g, i * 7 + 1, none⟩ = false ∧ ∀ a : Int, NSt x w (.slice (some ⟨g, 0, none⟩) n c) v2 sc (L.set i ⟨(rdN L i).f0, a, (rdN L i).f2, (rdN L i).f3, (rdN L i).f4, (rdN L i).f5, (rdN L i).f6⟩) (W.setCell ⟨g, i * 7 + 1, none⟩ (.int .i64 a)) := by
  obtain ⟨n1, n2, hb, cells, hc⟩ := h.row
  obtain ⟨h1, h2, h3, h4, h5⟩ := h
  obtain ⟨ce, hcl, hM, hcc, hfr⟩ := Kd.R_elem h3 z32 (i : Int) (by omega) (by omega)
  obtain rfl := k32_openM hM
  refine ⟨hcc 1 _ rfl, hfr 1, fun a => ?_⟩
  have hs := Kd.R_seg h3 (i : Int) (by omega) (by omega) (seg := [.int .i64 a]) (j := 1) hcl hcc (show 2 ≤ 7 from by decide) (x' := (⟨(rdN L i).f0, a, (rdN L i).f2, (rdN L i).f3, (rdN L i).f4, (rdN L i).f5, (rdN L i).f6⟩ : Node)) (k32_mkM _ _ _ (⟨(rdN L i).f0, a, (rdN L i).f2, (rdN L i).f3, (rdN L i).f4, (rdN L i).f5, (rdN L i).f6⟩ : Node)) (fun _ hk => hk)
  exact ⟨blk_far h1 n1 _, blk_far h2 n2 _, hs.1, Kd.R_set h4 hc (by decide) _ _, below_set h5 hb⟩
theorem NSt.out {x : Top} {w : World} {v1 v2 : Value} {sc : Int} {L : List Node} {W : World} (h : NSt x w v1 v2 sc L W) :
    ((((((((W.setCell ⟨w.heap.size + 1, 0, none⟩ (.string x.nm)).setCell ⟨w.heap.size + 1, 1, none⟩ (.int .i64 x.kd)).setCell ⟨w.heap.size + 1, 2, none⟩ (.int .i64 x.mt)).setCell ⟨w.heap.size + 1, 3, none⟩ (.int .i64 sc)).setCell ⟨w.heap.size + 1, 4, none⟩ (.int .i64 x.cp)).setCell ⟨w.heap.size + 1, 5, none⟩ (.int .i64 x.fl)).setCell ⟨w.heap.size + 1, 6, none⟩ v1).setCell ⟨w.heap.size + 1, 7, none⟩ v2).heap[w.heap.size + 1]? = some (.cells #[.string x.nm, .int .i64 x.kd, .int .i64 x.mt, .int .i64 sc, .int .i64 x.cp, .int .i64 x.fl, v1, v2] 25 (0, 0)) ∧
    Kd.R k32 32 ((((((((W.setCell ⟨w.heap.size + 1, 0, none⟩ (.string x.nm)).setCell ⟨w.heap.size + 1, 1, none⟩ (.int .i64 x.kd)).setCell ⟨w.heap.size + 1, 2, none⟩ (.int .i64 x.mt)).setCell ⟨w.heap.size + 1, 3, none⟩ (.int .i64 sc)).setCell ⟨w.heap.size + 1, 4, none⟩ (.int .i64 x.cp)).setCell ⟨w.heap.size + 1, 5, none⟩ (.int .i64 x.fl)).setCell ⟨w.heap.size + 1, 6, none⟩ v1).setCell ⟨w.heap.size + 1, 7, none⟩ v2) w.heap.size (fun _ => True) v1 L ∧ Kd.R (Kd.int .i64) 3 ((((((((W.setCell ⟨w.heap.size + 1, 0, none⟩ (.string x.nm)).setCell ⟨w.heap.size + 1, 1, none⟩ (.int .i64 x.kd)).setCell ⟨w.heap.size + 1, 2, none⟩ (.int .i64 x.mt)).setCell ⟨w.heap.size + 1, 3, none⟩ (.int .i64 sc)).setCell ⟨w.heap.size + 1, 4, none⟩ (.int .i64 x.cp)).setCell ⟨w.heap.size + 1, 5, none⟩ (.int .i64 x.fl)).setCell ⟨w.heap.size + 1, 6, none⟩ v1).setCell ⟨w.heap.size + 1, 7, none⟩ v2) w.heap.size (fun _ => True) v2 x.mx ∧ Below w.heap.size w ((((((((W.setCell ⟨w.heap.size + 1, 0, none⟩ (.string x.nm)).setCell ⟨w.heap.size + 1, 1, none⟩ (.int .i64 x.kd)).setCell ⟨w.heap.size + 1, 2, none⟩ (.int .i64 x.mt)).setCell ⟨w.heap.size + 1, 3, none⟩ (.int .i64 sc)).setCell ⟨w.heap.size + 1, 4, none⟩ (.int .i64 x.cp)).setCell ⟨w.heap.size + 1, 5, none⟩ (.int .i64 x.fl)).setCell ⟨w.heap.size + 1, 6, none⟩ v1).setCell ⟨w.heap.size + 1, 7, none⟩ v2) := by
  have c0 := blk_put (cs' := #[.string x.nm, .int .i64 0, .int .i64 0, .int .i64 0, .int .i64 0, .int .i64 0, .slice none 0 0, .slice none 0 0]) h.2.1 0 (.string x.nm) rfl
  have a0 := Kd.R_set h.2.2.1 h.2.1 (by decide) 0 (.string x.nm)
  have b0 := Kd.R_set h.2.2.2.1 h.2.1 (by decide) 0 (.string x.nm)
  have c1 := blk_put (cs' := #[.string x.nm, .int .i64 x.kd, .int .i64 0, .int .i64 0, .int .i64 0, .int .i64 0, .slice none 0 0, .slice none 0 0]) c0 1 (.int .i64 x.kd) rfl
  have a1 := Kd.R_set a0 c0 (by decide) 1 (.int .i64 x.kd)
  have b1 := Kd.R_set b0 c0 (by decide) 1 (.int .i64 x.kd)
  have c2 := blk_put (cs' := #[.string x.nm, .int .i64 x.kd, .int .i64 x.mt, .int .i64 0, .int .i64 0, .int .i64 0, .slice none 0 0, .slice none 0 0]) c1 2 (.int .i64 x.mt) rfl
  have a2 := Kd.R_set a1 c1 (by decide) 2 (.int .i64 x.mt)
  have b2 := Kd.R_set b1 c1 (by decide) 2 (.int .i64 x.mt)
  have c3 := blk_put (cs' := #[.string x.nm, .int .i64 x.kd, .int .i64 x.mt, .int .i64 sc, .int .i64 0, .int .i64 0, .slice none 0 0, .slice none 0 0]) c2 3 (.int .i64 sc) rfl
  have a3 := Kd.R_set a2 c2 (by decide) 3 (.int .i64 sc)
  have b3 := Kd.R_set b2 c2 (by decide) 3 (.int .i64 sc)
  have c4 := blk_put (cs' := #[.string x.nm, .int .i64 x.kd, .int .i64 x.mt, .int .i64 sc, .int .i64 x.cp, .int .i64 0, .slice none 0 0, .slice none 0 0]) c3 4 (.int .i64 x.cp) rfl
  have a4 := Kd.R_set a3 c3 (by decide) 4 (.int .i64 x.cp)
  have b4 := Kd.R_set b3 c3 (by decide) 4 (.int .i64 x.cp)
  have c5 := blk_put (cs' := #[.string x.nm, .int .i64 x.kd, .int .i64 x.mt, .int .i64 sc, .int .i64 x.cp, .int .i64 x.fl, .slice none 0 0, .slice none 0 0]) c4 5 (.int .i64 x.fl) rfl
  have a5 := Kd.R_set a4 c4 (by decide) 5 (.int .i64 x.fl)
  have b5 := Kd.R_set b4 c4 (by decide) 5 (.int .i64 x.fl)
  have c6 := blk_put (cs' := #[.string x.nm, .int .i64 x.kd, .int .i64 x.mt, .int .i64 sc, .int .i64 x.cp, .int .i64 x.fl, v1, .slice none 0 0]) c5 6 v1 rfl
  have a6 := Kd.R_set a5 c5 (by decide) 6 v1
  have b6 := Kd.R_set b5 c5 (by decide) 6 v1
  have c7 := blk_put (cs' := #[.string x.nm, .int .i64 x.kd, .int .i64 x.mt, .int .i64 sc, .int .i64 x.cp, .int .i64 x.fl, v1, v2]) c6 7 v2 rfl
  have a7 := Kd.R_set a6 c6 (by decide) 7 v2
  have b7 := Kd.R_set b6 c6 (by decide) 7 v2
  exact ⟨c7, a7, b7, (below_set (j := 7) (v := v2) (below_set (j := 6) (v := v1) (below_set (j := 5) (v := (.int .i64 x.fl)) (below_set (j := 4) (v := (.int .i64 x.cp)) (below_set (j := 3) (v := (.int .i64 sc)) (below_set (j := 2) (v := (.int .i64 x.mt)) (below_set (j := 1) (v := (.int .i64 x.kd)) (below_set (j := 0) (v := (.string x.nm)) h.2.2.2.2 (Nat.le_succ _)) (Nat.le_succ _)) (Nat.le_succ _)) (Nat.le_succ _)) (Nat.le_succ _)) (Nat.le_succ _)) (Nat.le_succ _)) (Nat.le_succ _))⟩
theorem rd_mid (a b : List Node) (x : Node) {i : Nat} (h : a.length = i) : rdN (a ++ x :: b) (i : Int) = x := by
  unfold rdN rd_T32
  rw [Int.toNat_natCast, List.getD_eq_getElem?_getD, List.getElem?_append_right (by omega), h]; simp
theorem set_mid (a b : List Node) (x y : Node) {i : Nat} (h : a.length = i) : (a ++ x :: b).set i y = a ++ y :: b := by
  rw [List.set_append_right _ _ (by omega), h]; simp
theorem pre_len {L : List Node} {i : Nat} (h : i < L.length) : ((L.take i).map div10).length = i := by rw [List.length_map, List.length_take]; omega
theorem mid_at {L : List Node} {i : Nat} (h : i < L.length) : rdN ((L.take i).map div10 ++ L.drop i) (i : Int) = L[i] := by
  rw [List.drop_eq_getElem_cons h, rd_mid _ _ _ (pre_len h)]
theorem mid_set {L : List Node} {i : Nat} (h : i < L.length) (d : Node) : ((L.take i).map div10 ++ L.drop i).set i d = (L.take i).map div10 ++ d :: L.drop (i + 1) := by
  rw [List.drop_eq_getElem_cons h, set_mid _ _ _ _ (pre_len h)]
theorem mid_step {L : List Node} {i : Nat} (h : i < L.length) : (L.take i).map div10 ++ div10 L[i] :: L.drop (i + 1) = (L.take (i + 1)).map div10 ++ L.drop (i + 1) := by
  rw [List.take_succ_eq_append_getElem h, List.map_append, List.append_assoc]; rfl
theorem put_two {x : Top} {w : World} {g c : Nat} {v2 : Value} {sc : Int} {L : List Node} {W : World} {i : Nat} (h : NSt x w (.slice (some ⟨g, 0, none⟩) L.length c) v2 sc ((L.take i).map div10 ++ L.drop i) W) (hi : i < L.length) :
    W.cell? ⟨g, i * 7, none⟩ = some (.int .i64 L[i].f0) ∧ W.frozen? ⟨g, i * 7, none⟩ = false ∧ W.cell? ⟨g, i * 7 + 1, none⟩ = some (.int .i64 L[i].f1) ∧ W.frozen? ⟨g, i * 7 + 1, none⟩ = false ∧
      NSt x w (.slice (some ⟨g, 0, none⟩) L.length c) v2 sc ((L.take (i + 1)).map div10 ++ L.drop (i + 1)) ((W.setCell ⟨g, i * 7, none⟩ (.int .i64 (wrap64 (Int.tdiv L[i].f0 10)))).setCell ⟨g, i * 7 + 1, none⟩ (.int .i64 (wrap64 (Int.tdiv L[i].f1 10)))) := by
  obtain ⟨a0, a1, a2⟩ := h.put0 i hi
  obtain ⟨b0, b1, _⟩ := h.put1 i hi
  rw [mid_at hi] at a0 b0
  refine ⟨a0, a1, b0, b1, ?_⟩
  have h2 := a2 (wrap64 (Int.tdiv L[i].f0 10))
  rw [mid_at hi, mid_set hi] at h2
  obtain ⟨_, _, c2⟩ := h2.put1 i hi
  have h3 := c2 (wrap64 (Int.tdiv L[i].f1 10))
  have e1 : ∀ d : Node, rdN ((L.take i).map div10 ++ d :: L.drop (i + 1)) (i : Int) = d := fun d => rd_mid _ _ _ (pre_len hi)
  have e2 : ∀ d e : Node, ((L.take i).map div10 ++ d :: L.drop (i + 1)).set i e = (L.take i).map div10 ++ e :: L.drop (i + 1) := fun d e => set_mid _ _ _ _ (pre_len hi)
  rw [e1, e2] at h3
  rw [← mid_step hi]
  exact h3
set_option maxHeartbeats 4000000 in
set_option maxRecDepth 100000 in
theorem norm_c (nm : ByteArray) (kd mt sc cp fl : Int) (A : Option Addr) (c : Nat) (ns : List Node) (B : Option Addr) (e0 : Nat) (mx : List Int) (w : World) (hn : ns.length ≤ 65536) (hl : mx.length ≤ 65536)
    (hr : Kd.C k32 w A ns.length ns) (hc : ns.length ≤ c) (hm : Kd.C (Kd.int .i64) w B mx.length mx) (hd : mx.length ≤ e0) :
    Calls Try.prog 18 #[.agg #[.string nm, .int .i64 kd, .int .i64 mt, .int .i64 sc, .int .i64 cp, .int .i64 fl, .slice A ns.length c, .slice B mx.length e0]] w fun e w' => ∃ v1 v2, e = .returned (.agg #[.string nm, .int .i64 kd, .int .i64 mt, .int .i64 (normGo 6 sc ns).1, .int .i64 cp, .int .i64 fl, v1, v2]) ∧
      Kd.R k32 32 w' w.heap.size (fun _ => True) v1 (normGo 6 sc ns).2 ∧ Kd.R (Kd.int .i64) 3 w' w.heap.size (fun _ => True) v2 mx ∧ Below w.heap.size w w' := by
  have HCN := Lib.hid (slices_Clone_Node.calls A c ns ns)
  have HCI := Lib.hid (slices_Clone_int_int.calls B e0 mx mx)
  have hF1 := Lib.hid (show slices_Clone_Node.f ns = some ns by unfold slices_Clone_Node.f; exact if_pos hn)
  have hF2 := Lib.hid (show slices_Clone_int_int.f mx = some mx by unfold slices_Clone_int_int.f; exact if_pos hl)
  have HR := Lib.hid hr
  have HM := Lib.hid hm
  have HL := Lib.hid (And.intro (And.intro hn hl) (And.intro hc hd))
  clear hr hm hn hl hc hd
  have BK0 := blk_alloc (heap_alloc_new w (.cells #[.string nm, .int .i64 kd, .int .i64 mt, .int .i64 sc, .int .i64 cp, .int .i64 fl, .slice A ns.length c, .slice B mx.length e0] 25)) (.cells #[.string ByteArray.empty, .int .i64 0, .int .i64 0, .int .i64 0, .int .i64 0, .int .i64 0, .slice none 0 0, .slice none 0 0] 25)
  have BZ0 := heap_alloc_new (w.alloc (.cells #[.string nm, .int .i64 kd, .int .i64 mt, .int .i64 sc, .int .i64 cp, .int .i64 fl, .slice A ns.length c, .slice B mx.length e0] 25)) (.cells #[.string ByteArray.empty, .int .i64 0, .int .i64 0, .int .i64 0, .int .i64 0, .int .i64 0, .slice none 0 0, .slice none 0 0] 25)
  have HB0 := below_alloc (below_alloc (Below.refl w.heap.size w) (.cells #[.string nm, .int .i64 kd, .int .i64 mt, .int .i64 sc, .int .i64 cp, .int .i64 fl, .slice A ns.length c, .slice B mx.length e0] 25)) (.cells #[.string ByteArray.empty, .int .i64 0, .int .i64 0, .int .i64 0, .int .i64 0, .int .i64 0, .slice none 0 0, .slice none 0 0] 25)
  rw [World.size_alloc] at BZ0
  have BK := BK0
  have BZ := BZ0
  have HB := HB0
  clear BK0 BZ0 HB0
  have HBK := Lib.hid BK
  have HBZ := Lib.hid BZ
  have HHB := Lib.hid HB
  clear BK BZ HB
  go_enter Try.func18, Try.ntmps18
  go_wp2_with fail
  have BK := HBK.out
  have BZ := HBZ.out
  have HB := HHB.out
  clear HBK HBZ HHB
  -- REGION
  refine start_ (n := 10) (S := fun w' => w'.cell? ⟨w.heap.size, 6, none⟩ = some (.slice A ns.length c) ∧ w'.cell? ⟨w.heap.size, 7, none⟩ = some (.slice B mx.length e0) ∧ w'.heap[w.heap.size]? = some (.cells #[.string nm, .int .i64 kd, .int .i64 mt, .int .i64 sc, .int .i64 cp, .int .i64 fl, .slice A ns.length c, .slice B mx.length e0] 25 (0, 0)) ∧ w'.heap[w.heap.size + 1]? = some (.cells #[.string ByteArray.empty, .int .i64 0, .int .i64 0, .int .i64 0, .int .i64 0, .int .i64 0, .slice none 0 0, .slice none 0 0] 25 (0, 0)) ∧ Below w.heap.size w w') (ds := [7, 9]) #[false, false, false, false, false, false, false, false, false, false] (by kernel_rfl) rfl rfl ⟨(blk_cell (blk_drew BK) 6).trans rfl, (blk_cell (blk_drew BK) 7).trans rfl, blk_drew BK, blk_drew BZ, below_drew1 HB⟩ (fun hHeld => ?_)
  refine pure_ (i := 0) (N := some 5) (v := ?_) (a' := ?_) #[true, false, false, false, false, false, false, false, false, false] rfl rfl (by kernel_rfl) (fun _ _ _ h => h) (Or.inl ⟨by rfl, ?_⟩) ?_ ?_
  rotate_left
  · intro w'
    go_simp
    with_reducible rfl
  rotate_left
  · simp only [Act.put, List.setIfInBounds_toArray, List.set_cons_zero, List.set_cons_succ, i64_w, i32_w]
    rfl
  refine pure_ (i := 3) (N := some 8) (v := ?_) (a' := ?_) #[true, false, false, true, false, false, false, false, false, false] rfl rfl (by kernel_rfl) (fun _ _ _ h => h) (Or.inl ⟨by rfl, ?_⟩) ?_ ?_
  rotate_left
  · intro w'
    go_simp
    with_reducible rfl
  rotate_left
  · simp only [Act.put, List.setIfInBounds_toArray, List.set_cons_zero, List.set_cons_succ, i64_w, i32_w]
    rfl
  refine take_ (i := 1) (N := some 6) (v := ?_) (a' := ?_) #[true, true, false, true, false, false, false, false, false, false] rfl rfl (by kernel_rfl) (fun _ _ _ h => h) (Or.inl ⟨by rfl, ?_⟩) hHeld ?_ ?_
  rotate_left
  · rintro w' ⟨s0, s1, s2, s3, s4⟩
    go_simp
    with_reducible rfl
  rotate_left
  · simp only [Act.put, List.setIfInBounds_toArray, List.set_cons_zero, List.set_cons_succ, i64_w, i32_w]
    rfl
  refine take_ (i := 4) (N := some 9) (v := ?_) (a' := ?_) #[true, true, false, true, true, false, false, false, false, false] rfl rfl (by kernel_rfl) (fun _ _ _ h => h) (Or.inl ⟨by rfl, ?_⟩) hHeld ?_ ?_
  rotate_left
  · rintro w' ⟨s0, s1, s2, s3, s4⟩
    go_simp
    with_reducible rfl
  rotate_left
  · simp only [Act.put, List.setIfInBounds_toArray, List.set_cons_zero, List.set_cons_succ, i64_w, i32_w]
    rfl
  refine one_ (i := 2) (N := some 7) #[true, true, true, true, true, false, false, false, false, false] rfl rfl (by kernel_rfl) (by decide) (fun K hK => ?_)
  refine goes_ Try.func33 (by kernel_rfl) rfl #[.slice A ns.length c] (by rfl) rfl rfl (by simp only [List.map_toArray, List.map_cons, List.map_nil]; rfl) ?_
  with_reducible refine (HCN.out _ (Kd.C_below HR.out hHeld.2.2.2.2) HL.out.2.1 hF1.out).mono ?_
  rintro e w2 ⟨v1, rfl, ho1, hb⟩
  refine ⟨_, rfl, ?_⟩
  obtain ⟨A1, c1, e1⟩ := Kd.R_slice ho1
  subst e1
  have HO1 := Aside0.mk (Kd.R_lower ho1 (below_size hHeld.2.2.2.2))
  have hb1 := hb
  clear ho1 hb
  refine hK.out _ _ ⟨(blk_cell (blk_below hHeld.2.2.1 hb1) 6).trans rfl, (blk_cell (blk_below hHeld.2.2.1 hb1) 7).trans rfl, blk_below hHeld.2.2.1 hb1, blk_below hHeld.2.2.2.1 hb1, below_step hHeld.2.2.2.2 hb1⟩ (fun hHeld2 => ?_)
  clear hHeld
  have hHeld := hHeld2
  clear hHeld2
  clear hK K
  refine norm_ (a' := ?_) ?_ ?_
  rotate_left
  · show Act.put _ (some 7) _ = _
    simp only [Act.put, List.setIfInBounds_toArray, List.set_cons_zero, List.set_cons_succ, i64_w, i32_w]
    rfl
  refine pure_ (i := 6) (N := some 11) (v := ?_) (a' := ?_) #[true, true, true, true, true, false, true, false, false, false] rfl rfl (by kernel_rfl) (fun _ _ _ h => h) (Or.inl ⟨by rfl, ?_⟩) ?_ ?_
  rotate_left
  · intro w'
    go_simp
    with_reducible rfl
  rotate_left
  · simp only [Act.put, List.setIfInBounds_toArray, List.set_cons_zero, List.set_cons_succ, i64_w, i32_w]
    rfl
  refine one_ (i := 5) (N := some 10) #[true, true, true, true, true, true, true, false, false, false] rfl rfl (by kernel_rfl) (by decide) (fun K hK => ?_)
  refine goes_ Try.func34 (by kernel_rfl) rfl #[.slice B mx.length e0] (by rfl) rfl rfl (by simp only [List.map_toArray, List.map_cons, List.map_nil]; rfl) ?_
  with_reducible refine (HCI.out _ (Kd.C_below HM.out hHeld.2.2.2.2) HL.out.2.2 hF2.out).mono ?_
  rintro e w3 ⟨v2, rfl, ho2, hb⟩
  refine ⟨_, rfl, ?_⟩
  obtain ⟨B1, d1, e2⟩ := Kd.R_slice ho2
  subst e2
  have HO2 := Aside0.mk (Kd.R_lower ho2 (below_size hHeld.2.2.2.2))
  have HO1b := Aside0.mk (Kd.R_below HO1.out hb)
  have hb2 := hb
  have BK3 := Aside0.mk (blk_below hHeld.2.2.1 hb)
  have BZ3 := Aside0.mk (blk_below hHeld.2.2.2.1 hb)
  have HB3 := Aside0.mk (below_step hHeld.2.2.2.2 hb)
  clear ho2 hb HO1
  refine hK.out _ _ ⟨(blk_cell (blk_below hHeld.2.2.1 hb2) 6).trans rfl, (blk_cell (blk_below hHeld.2.2.1 hb2) 7).trans rfl, blk_below hHeld.2.2.1 hb2, blk_below hHeld.2.2.2.1 hb2, below_step hHeld.2.2.2.2 hb2⟩ (fun hHeld2 => ?_)
  clear hHeld
  have hHeld := hHeld2
  clear hHeld2
  clear hK K
  refine norm_ (a' := ?_) ?_ ?_
  rotate_left
  · show Act.put _ (some 10) _ = _
    simp only [Act.put, List.setIfInBounds_toArray, List.set_cons_zero, List.set_cons_succ, i64_w, i32_w]
    rfl
  refine last_ (i := 7) (N := none) #[true, true, true, true, true, true, true, true, false, false] rfl rfl (by kernel_rfl) (by decide) (fun K hK => ?_)
  have q1 : w3.cell? ⟨w.heap.size, 6, none⟩ = some (.slice A ns.length c) := (blk_cell BK3.out 6).trans rfl
  have q2 := blk_frozen BK3.out 6
  refine skip_ (w1 := ?_) (by rfl) rfl ?_ ?_
  rotate_left
  · go_simp
    rfl
  refine hK.out _ _ ?_
  clear hK K
  refine pure_ (i := 8) (N := some 12) (v := ?_) (a' := ?_) #[true, true, true, true, true, true, true, true, true, false] rfl rfl (by kernel_rfl) (fun _ _ _ h => h) (Or.inl ⟨by rfl, ?_⟩) ?_ ?_
  rotate_left
  · intro w'
    go_simp
    with_reducible rfl
  rotate_left
  · simp only [Act.put, List.setIfInBounds_toArray, List.set_cons_zero, List.set_cons_succ, i64_w, i32_w]
    rfl
  refine last_ (i := 9) (N := none) #[true, true, true, true, true, true, true, true, true, true] rfl rfl (by kernel_rfl) (by decide) (fun K hK => ?_)
  have BK4 := Aside0.mk (blk_put (cs' := #[.string nm, .int .i64 kd, .int .i64 mt, .int .i64 sc, .int .i64 cp, .int .i64 fl, .slice A1 ns.length c1, .slice B mx.length e0]) BK3.out 6 _ rfl)
  have q3 : (w3.setCell ⟨w.heap.size, 6, none⟩ (.slice A1 ns.length c1)).cell? ⟨w.heap.size, 7, none⟩ = some (.slice B mx.length e0) := (blk_cell BK4.out 7).trans rfl
  have q4 := blk_frozen BK4.out 7
  refine skip_ (w1 := ?_) (by rfl) rfl ?_ ?_
  rotate_left
  · go_simp
    rfl
  refine hK.out _ _ ?_
  clear hK K
  refine done_ (by kernel_rfl) ?_

  -- END
  clear q1 q2 q3 q4
  have HS := Aside0.mk (show NSt ⟨nm, kd, mt, cp, fl, mx⟩ w (.slice A1 ns.length c1) (.slice B1 mx.length d1) sc ns ((w3.setCell ⟨w.heap.size, 6, none⟩ (.slice A1 ns.length c1)).setCell ⟨w.heap.size, 7, none⟩ (.slice B1 mx.length d1)) from
    ⟨blk_put BK4.out 7 _ rfl, blk_far (blk_far BZ3.out (by show w.heap.size + 1 ≠ w.heap.size; omega) _) (by show w.heap.size + 1 ≠ w.heap.size; omega) _, Kd.R_set (Kd.R_set HO1b.out BK3.out (by decide) _ _) BK4.out (by decide) _ _, Kd.R_set (Kd.R_set HO2.out BK3.out (by decide) _ _) BK4.out (by decide) _ _, below_set (below_set HB3.out (Nat.le_refl _)) (Nat.le_refl _)⟩)
  clear BK BZ HB BK3 BZ3 HB3 BK4 HO1b HO2 hF1 hF2 HCN HCI HR HM
  generalize (w3.setCell ⟨w.heap.size, 6, none⟩ (.slice A1 ns.length c1)).setCell ⟨w.heap.size, 7, none⟩ (.slice B1 mx.length d1) = W0 at *
  clear hHeld
  obtain ⟨n0, hn0⟩ : ∃ n0 : Nat, ns.length = n0 := ⟨_, rfl⟩
  have HN0 := Aside0.mk hn0
  have hnb : n0 ≤ 65536 := by have := HL.out.1.1; omega
  have HG := Aside0.mk (show ∃ k : Nat, normGo k sc ns = normGo 6 sc ns ∧ (1 ≤ sc → sc ≤ 6 → sc ≤ (k : Int)) from ⟨6, rfl, fun _ h => by omega⟩)
  rw [hn0] at HS ⊢
  generalize hR : normGo 6 sc ns = res at *
  have HRS := Lib.hid hR
  clear hR hn0
  go_wp2_with fail
  go_loopw [] (fun wr => ∃ (s : Int) (L : List Node), Aside0 (NSt ⟨nm, kd, mt, cp, fl, mx⟩ w (.slice A1 n0 c1) (.slice B1 mx.length d1) s L wr) ∧ Aside0 (L.length = n0) ∧ Aside0 (∃ k : Nat, normGo k s L = res ∧ (1 ≤ s → s ≤ 6 → s ≤ (k : Int)))) (fun wr => (intOf ((wr.cell? ⟨w.heap.size, 3, none⟩).getD undef)).toNat)
  case atStart => exact ⟨sc, ns, HS, HN0, HG⟩
  case round =>
    obtain ⟨s, L, H1, H2, H3⟩ := hrel
    clear HS HN0 HG
    have HC := Aside0.mk (scale_c s)
    obtain ⟨x3, x6, f3⟩ := H1.out.cells
    cases hsc : okScale s with
    | false =>
      have HE := Aside0.mk (show res = (s, L) from by obtain ⟨k, e, _⟩ := H3.out; rw [← e]; exact normGo_end (fun h => by rw [hsc] at h; cases h.1))
      rw [hsc] at HC
      clear hsc
      go_wp2_with fail
      refine (HC.out _).mono ?_
      rintro e w5 ⟨rfl, hb⟩
      have H4 := Aside0.mk (H1.out.below hb)
      clear hb H1 x3 x6 f3 HC
      have hx := H4.out.1
      have hz := H4.out.2.1
      obtain ⟨y0, y1, y2, y3, y4, y5, y6, y7, f0, f1, f2, f3, f4, f5, f6, f7⟩ := blk8_ hx
      obtain ⟨z0, z1, z2, z3, z4, z5, z6, z7, g0, g1, g2, g3, g4, g5, g6, g7⟩ := blk8_ hz
      clear f0 f1 f2 f3 f4 f5 f6 f7 hx hz
      go_wp2
      clear y0 y1 y2 y3 y4 y5 y6 y7 z0 z1 z2 z3 z4 z5 z6 z7 g0 g1 g2 g3 g4 g5 g6 g7
      have HO := H4.out.out
      simp only at HO
      generalize ((((((((w5.setCell ⟨w.heap.size + 1, 0, none⟩ (.string nm)).setCell ⟨w.heap.size + 1, 1, none⟩ (.int .i64 kd)).setCell ⟨w.heap.size + 1, 2, none⟩ (.int .i64 mt)).setCell ⟨w.heap.size + 1, 3, none⟩ (.int .i64 s)).setCell ⟨w.heap.size + 1, 4, none⟩ (.int .i64 cp)).setCell ⟨w.heap.size + 1, 5, none⟩ (.int .i64 fl)).setCell ⟨w.heap.size + 1, 6, none⟩ (.slice A1 n0 c1)).setCell ⟨w.heap.size + 1, 7, none⟩ (.slice B1 mx.length d1)) = WF at *
      obtain ⟨ho, hR1, hR2, hB⟩ := HO
      obtain ⟨q0, q1, q2, q3, q4, q5, q6, q7, h0, h1, h2, h3, h4, h5, h6, h7⟩ := blk8_ ho
      clear H4 h0 h1 h2 h3 h4 h5 h6 h7
      refine bodyPost_ret (by simp [results, Try.results18, go_sem, q0, q1, q2, q3, q4, q5, q6, q7]; rfl) rfl ?_
      rw [HRS.out, HE.out]
      exact ⟨_, _, rfl, hR1, hR2, hB⟩
    | true =>
      rw [hsc] at HC
      cases hodd : L.any oddB with
      | true =>
        have HE := Aside0.mk (show res = (s, L) from by obtain ⟨k, e, _⟩ := H3.out; rw [← e]; exact normGo_end (fun h => by rw [hodd] at h; cases h.2))
        have HF := Aside0.mk (contains_c A1 c1 L)
        rw [hodd, H2.out] at HF
        clear hodd hsc
        go_wp2_with fail
        refine (HC.out _).mono ?_
        rintro e w5 ⟨rfl, hb⟩
        have H4 := Aside0.mk (H1.out.below hb)
        clear hb H1 x3 x6 f3 HC
        obtain ⟨x3, x6, f3⟩ := H4.out.cells
        go_wp2_with fail
        refine (HF.out _ (by have := (Kd.R_reads' H4.out.2.2.1).2.2; rw [H2.out] at this; exact this)).mono ?_
        rintro e w5 ⟨rfl, hb⟩
        have H5 := Aside0.mk (H4.out.below hb)
        clear hb H4 x3 x6 f3 HF
        have H4 := H5
        clear H5
        have hx := H4.out.1
        have hz := H4.out.2.1
        obtain ⟨y0, y1, y2, y3, y4, y5, y6, y7, f0, f1, f2, f3, f4, f5, f6, f7⟩ := blk8_ hx
        obtain ⟨z0, z1, z2, z3, z4, z5, z6, z7, g0, g1, g2, g3, g4, g5, g6, g7⟩ := blk8_ hz
        clear f0 f1 f2 f3 f4 f5 f6 f7 hx hz
        go_wp2
        clear y0 y1 y2 y3 y4 y5 y6 y7 z0 z1 z2 z3 z4 z5 z6 z7 g0 g1 g2 g3 g4 g5 g6 g7
        have HO := H4.out.out
        simp only at HO
        generalize ((((((((w5.setCell ⟨w.heap.size + 1, 0, none⟩ (.string nm)).setCell ⟨w.heap.size + 1, 1, none⟩ (.int .i64 kd)).setCell ⟨w.heap.size + 1, 2, none⟩ (.int .i64 mt)).setCell ⟨w.heap.size + 1, 3, none⟩ (.int .i64 s)).setCell ⟨w.heap.size + 1, 4, none⟩ (.int .i64 cp)).setCell ⟨w.heap.size + 1, 5, none⟩ (.int .i64 fl)).setCell ⟨w.heap.size + 1, 6, none⟩ (.slice A1 n0 c1)).setCell ⟨w.heap.size + 1, 7, none⟩ (.slice B1 mx.length d1)) = WF at *
        obtain ⟨ho, hR1, hR2, hB⟩ := HO
        obtain ⟨q0, q1, q2, q3, q4, q5, q6, q7, h0, h1, h2, h3, h4, h5, h6, h7⟩ := blk8_ ho
        clear H4 h0 h1 h2 h3 h4 h5 h6 h7
        refine bodyPost_ret (by simp [results, Try.results18, go_sem, q0, q1, q2, q3, q4, q5, q6, q7]; rfl) rfl ?_
        rw [HRS.out, HE.out]
        exact ⟨_, _, rfl, hR1, hR2, hB⟩
      | false =>
        have HF := Aside0.mk (contains_c A1 c1 L)
        have HP := Aside0.mk (show ∃ m : Nat, normGo m (s - 1) (L.map div10) = res ∧ (1 ≤ s - 1 → s - 1 ≤ 6 → s - 1 ≤ (m : Int)) from by
          obtain ⟨k, e, hk⟩ := H3.out
          obtain ⟨m, e2, h2⟩ := normGo_step hk hsc hodd
          exact ⟨m, e2 ▸ e, h2⟩)
        have hs1 : 1 ≤ s := (of_decide_eq_true hsc).1
        have hs6 : s ≤ 6 := (of_decide_eq_true hsc).2
        have hw : wrap64 (s - 1) = s - 1 := by unfold wrap64; omega
        rw [hodd, H2.out] at HF
        clear hodd hsc
        go_wp2_with fail
        refine (HC.out _).mono ?_
        rintro e w5 ⟨rfl, hb⟩
        have H4 := Aside0.mk (H1.out.below hb)
        clear hb H1 HC
        obtain ⟨y3, y6, g3⟩ := H4.out.cells
        go_wp2_with fail
        refine (HF.out _ (by have := (Kd.R_reads' H4.out.2.2.1).2.2; rw [H2.out] at this; exact this)).mono ?_
        rintro e w6 ⟨rfl, hb⟩
        have H5 := Aside0.mk (H4.out.below hb)
        clear hb H4 y3 y6 g3 HF
        obtain ⟨y3, y6, g3⟩ := H5.out.cells
        have H6 := Aside0.mk (H5.out.scale (s - 1))
        have H7 := Aside0.mk (show NSt ⟨nm, kd, mt, cp, fl, mx⟩ w (.slice A1 n0 c1) (.slice B1 mx.length d1) (s - 1) ((L.take 0).map div10 ++ L.drop 0) (w6.setCell ⟨w.heap.size, 3, none⟩ (.int .i64 (s - 1))) from H6.out)
        clear H6 H5
        go_wp2_with fail
        go_loopw [30] (fun v wq => ∃ i : Nat, v = .int .i64 i ∧ i ≤ n0 ∧ Aside0 (NSt ⟨nm, kd, mt, cp, fl, mx⟩ w (.slice A1 n0 c1) (.slice B1 mx.length d1) (s - 1) ((L.take i).map div10 ++ L.drop i) wq)) (fun v _ => n0 - (intOf v).toNat)
        case atStart => exact ⟨0, rfl, Nat.zero_le _, H7⟩
        case round =>
          obtain ⟨i, rfl, hi, HI⟩ := hrel
          clear H7 y3 y6 g3
          by_cases hlt : i < n0
          · obtain ⟨g, cap, eg, _, _, _⟩ := Kd.R_form HI.out.2.2.1 (by simp only [List.length_append, List.length_map, List.length_take, List.length_drop]; have := H2.out; omega)
            injection eg with eg1 eg2 eg3
            subst eg1
            clear eg2 eg3
            have HI2 := Aside0.mk (put_two (L := L) (i := i) (by have h := HI.out; rw [← H2.out] at h; exact h) (by rw [H2.out]; exact hlt))
            obtain ⟨n1, n2, n3, _⟩ := HI.out.row
            have n1' := n1.symm
            obtain ⟨p3, p6, _⟩ := HI.out.cells
            obtain ⟨c0, f0, c1', f1, HJ⟩ := HI2.out
            have HJ := Aside0.mk HJ
            clear HI HI2 n2 n3
            generalize hd : L[i]'(by rw [H2.out]; exact hlt) = d at *
            clear hd
            go_wp2_with fail
            go_roundw
            case rel => exact ⟨i + 1, by go_num, by omega, ⟨by have h := HJ.out; rw [H2.out] at h; exact h⟩⟩
            case measure => simp [intOf]; omega
          · have HE := Aside0.mk (show NSt ⟨nm, kd, mt, cp, fl, mx⟩ w (.slice A1 n0 c1) (.slice B1 mx.length d1) (s - 1) (L.map div10) wr from by
              have h := HI.out
              rwa [List.take_of_length_le (by rw [H2.out]; omega), List.drop_of_length_le (by rw [H2.out]; omega), List.append_nil] at h)
            clear HI
            go_wp2_with fail
            go_roundw
            case rel => exact ⟨s - 1, L.map div10, HE, ⟨by rw [List.length_map]; exact H2.out⟩, HP⟩
            case measure => rw [HE.out.cells.1, x3]; simp [intOf]; omega
end CanonNorm
open CanonNorm P Go.Proofs.YtlncbckpcmojpaaW.PrintWords
/-- What canon.Norm computes. -/
def canon_Norm.f (nm : ByteArray) (kd mt sc cp fl : Int) (ns : List CanonNorm.Node) (mx : List Int) : Option (ByteArray × Int × Int × Int × Int × Int × List CanonNorm.Node × List Int) :=
  if ns.length ≤ 65536 ∧ mx.length ≤ 65536 then some (nm, kd, mt, (normGo 6 sc ns).1, cp, fl, (normGo 6 sc ns).2, mx) else none
theorem canon_Norm.calls (nm : ByteArray) (kd mt sc cp fl : Int) (A : Option Addr) (c : Nat) (ns : List CanonNorm.Node) (B : Option Addr) (e0 : Nat) (mx : List Int) (r1 : ByteArray) (r2 r3 r4 r5 r6 : Int) (r7 : List CanonNorm.Node) (r8 : List Int) (w : World)
    (hr : Kd.C k32 w A ns.length ns) (hc : ns.length ≤ c) (hm : Kd.C (Kd.int .i64) w B mx.length mx) (hd : mx.length ≤ e0) (h : canon_Norm.f nm kd mt sc cp fl ns mx = some (r1, r2, r3, r4, r5, r6, r7, r8)) :
    Calls Try.prog 18 #[.agg #[.string nm, .int .i64 kd, .int .i64 mt, .int .i64 sc, .int .i64 cp, .int .i64 fl, .slice A ns.length c, .slice B mx.length e0]] w fun e w' => ∃ v1 v2 : Value, e = .returned (.agg #[.string r1, .int .i64 r2, .int .i64 r3, .int .i64 r4, .int .i64 r5, .int .i64 r6, v1, v2]) ∧
      Kd.R k32 32 w' w.heap.size (fun _ => True) v1 r7 ∧ Kd.R (Kd.int .i64) 3 w' w.heap.size (fun _ => True) v2 r8 ∧ Below w.heap.size w w' := by
  unfold canon_Norm.f at h
  split at h
  · rename_i hs
    have h := Option.some.inj h
    simp only [Prod.mk.injEq] at h
    obtain ⟨rfl, rfl, rfl, rfl, rfl, rfl, rfl, rfl⟩ := h
    exact norm_c nm kd mt sc cp fl A c ns B e0 mx w hs.1 hs.2 hr hc hm hd
  · cases h
attribute [irreducible] canon_Norm.f
end Go.Proofs.Ytlncbckpcmojpaa
