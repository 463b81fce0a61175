/- A region that draws its order and makes no call, at a fence: by its walk without one. -/
import Derived.OrdersIn
import Derived.OwnWalkIn
import Derived.Test.YtdgdhmglcpkkiaaDoorPx0
set_option linter.unusedVariables false
namespace Go.Proofs.YtdgdhmglcpkkiaaDoor
namespace Bridge
open Go.RowKit Go.Proofs.YtdgdhmglcpkkiaaDoorW.PrintWords Go.Proofs.YtdgdhmglcpkkiaaDoorW.PrintLast
/-- An operation that makes no call. -/
def quietB : Op → Bool
  | .call c => match c.callee with | .builtin .append => true | .builtin .len => true | _ => false
  | .move _ | .assign _ | .alloc _ | .box .. | .build .. | .buildSlice .. | .load .. | .store .. | .binOp .. | .unOp .. | .fieldAddr .. | .indexAddr .. => true
  | _ => false
section
variable {F : Fence} {n : Nat} {P : Program} {ops : Array Oper} {Q : Exit → Act → World → Prop} {md : Region.Mode} {o : Oper} {a : Act} {K : Act → World → Prop} {w : World}
theorem v_in {s : Sem Value} (h : o.upon P a K Q ((s >>= fun x => (pure (Next.value x) : Sem Next)).run P w)) : o.uponIn F n P a K Q ((s >>= fun x => (pure (Next.value x) : Sem Next)).run P w) := by
  simp only [Sem.run_bind] at h ⊢
  cases hr : s.run P w with
  | ok x w' => rw [hr] at h; exact h
  | halt x w' => rw [hr] at h; cases x <;> exact h
theorem u_in {s : Sem Unit} (h : o.upon P a K Q ((s >>= fun _ => (pure Next.skip : Sem Next)).run P w)) : o.uponIn F n P a K Q ((s >>= fun _ => (pure Next.skip : Sem Next)).run P w) := by
  simp only [Sem.run_bind] at h ⊢
  cases hr : s.run P w with
  | ok x w' => rw [hr] at h; exact h
  | halt x w' => rw [hr] at h; cases x <;> exact h
theorem quiet_in (hq : quietB o.op = true) (h : o.wp P a w K Q) : o.wpIn F n P a w K Q := by
  unfold Oper.wp at h
  unfold Oper.wpIn
  have hd : ∀ c, o.op ≠ .defer c := fun c e => by rw [e] at hq; cases hq
  rw [Oper.semAt_plain F _ _ hd]
  obtain ⟨dst, op, ty, pos, af, gu⟩ := o
  refine ⟨fun f hf => ?_, ?_⟩
  · cases op <;> first | (cases hf; done) | skip
    rename_i c
    obtain ⟨ce, xs, ts⟩ := c
    cases ce <;> first | (cases hq; done) | skip
    rename_i b
    cases hf
  · cases op <;> first | exact v_in h | exact u_in h | exact h | (cases hq; done) | skip
    rename_i c
    obtain ⟨ce, xs, ts⟩ := c
    cases ce <;> first | (cases hq; done) | skip
    rename_i b
    cases b <;> first | (cases hq; done) | exact v_in h
theorem op_in {i : Nat} (hq : ∀ o : Oper, ops[i]? = some o → quietB o.op = true) (hn : ¬ LetsOut Q) (h : wpOp P ops Q i K a w) : wpOpIn F n P ops Q i K a w := by
  unfold wpOp at h
  unfold wpOpIn
  cases hi : ops[i]? with
  | none => rw [hi] at h; exact h
  | some o =>
    rw [hi] at h
    have hq := hq o hi
    simp only at h ⊢
    by_cases hw : Region.wanted o (yielded ops a.tmps) = true
    · rw [if_pos hw] at h ⊢
      exact quiet_in hq (h.resolve_right fun x => hn x.2)
    · rw [if_neg hw] at h ⊢
      refine ⟨fun f hf => ?_, h⟩
      obtain ⟨dst, op, ty, pos, af, gu⟩ := o
      cases op <;> first | (cases hf; done) | skip
      rename_i c
      obtain ⟨ce, xs, ts⟩ := c
      cases ce <;> first | (cases hq; done) | (cases hf; done)
theorem any_in (hq : ∀ (i : Nat) (o : Oper), ops[i]? = some o → quietB o.op = true) (hn : ¬ LetsOut Q) : ∀ (fuel : Nat) (listed : Array Bool) (a : Act) (w : World), wpAny P md ops Q fuel listed a w → wpAnyIn F n P md ops Q fuel listed a w
  | 0, _, _, _, h => h
  | fuel + 1, listed, a, w, h => ⟨h.1, fun i hi => wpOpIn_mono (fun a w h => any_in hq hn fuel _ a w h) (op_in (hq i) hn (h.2 i hi))⟩
/-- The kit's start_, at a fence. -/
theorem startIn_ {S : World → Prop} {ds : List Nat} {id k : Nat} (l : Array Bool) (hm : P.follows .mixedOrders = true) (hn : ops.size = k) (hl : Array.replicate k false = l) (hq : ops.toList.all (fun o => quietB o.op) = true) (hL : ¬ LetsOut Q) (hS : S w.drew)
    (h : S w.drew → wpAnyLast P .any ops Q S ds k l a w.drew) : (Code.region id ops true).wpIn F n P Q a w := by
  subst hn
  subst hl
  refine wpIn_region_any hm (any_in (fun i o hi => ?_) hL _ _ _ _ (wpAny_of_last _ _ _ _ (h hS)))
  exact List.all_eq_true.1 hq o (List.mem_of_getElem? (by simpa using hi))
end
end Bridge
end Go.Proofs.YtdgdhmglcpkkiaaDoor
