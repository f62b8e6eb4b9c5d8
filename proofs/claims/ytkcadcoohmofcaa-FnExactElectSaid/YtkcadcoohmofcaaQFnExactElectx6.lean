-- Printed by the session's own program wip/prx.py.
import Derived.Test.YtkcadcoohmofcaaSqFnExactElect
import Derived.Test.YtkcadcoohmofcaaQFnExactElectx0
import Derived.Test.YtkcadcoohmofcaaQFnExactElectx2
import Derived.Test.YtkcadcoohmofcaaQFnExactElectx3
import Derived.Test.YtkcadcoohmofcaaQFnExactElectx5
namespace Go.Proofs.Ytkcadcoohmofcaa.QFnExactElect
open Go.RowKit Go.Proofs.YtkcadcoohmofcaaW.PrintWords Go.Proofs.YtkcadcoohmofcaaW.PrintLast Go.Proofs.YtkcadcoohmofcaaW.PrintMore Go.Proofs.Ytkcadcoohmofcaa.SqFnExactElect
attribute [local go_sem] max2_int min2_int max_two min_two max_three min_three max_four min_four Go.Proofs.Ytkcadcoohmofcaa.Set.isSome_setCell
set_option linter.unusedVariables false
set_option linter.unusedSimpArgs false

-- squeezed
theorem u6_3 {P : Prop} (h : P := by (with_reducible repeat (first | apply Kd.S_alloc | apply Kd.S_drewN | apply Kd.S_drew)); exact Kd.S_mono HO_0.out (fun k_ hk => ⟨hk, fun e_ => e_⟩)) : P := h
theorem u6_6 {P : Prop} (h : P := by (with_reducible repeat (first | apply Kd.S_alloc | apply Kd.S_drewN | apply Kd.S_drew)); exact HO_0.out) : P := h
theorem u6_7 {P : Prop} (h : P := by repeat (first | (with_reducible exact HR201_8.out) | (with_reducible refine Kd.C_alloc ?_ _) | (with_reducible refine Kd.C_drewN ?_ _) | (with_reducible refine Kd.C_drew ?_) | exact HR201_8.out)) : P := h
/-! ### laws_markMsgS: function 41 -/
def laws_markMsgS.l0 : Nat → List (S29) → Int → Int → Option (Int × (List (S29)))
 | 0, _, _, _ => none
 | k + 1, x0, x1, x5 => if x5 < (x0.length : Int) then (if 0 ≤ x5 then ((some (x0.set (x5 : Int).toNat (⟨x1, (rd_T29 x0 x5).f1, (rd_T29 x0 x5).f2, (rd_T29 x0 x5).f3, (rd_T29 x0 x5).f4, (rd_T29 x0 x5).f5, (rd_T29 x0 x5).f6, (rd_T29 x0 x5).f7, (rd_T29 x0 x5).f8⟩ : S29) : List (S29))).bind fun y193 => ((some (y193.set (x5 : Int).toNat (⟨(rd_T29 y193 x5).f0, wrap64 (x1 + 1), (rd_T29 y193 x5).f2, (rd_T29 y193 x5).f3, (rd_T29 y193 x5).f4, (rd_T29 y193 x5).f5, (rd_T29 y193 x5).f6, (rd_T29 y193 x5).f7, (rd_T29 y193 x5).f8⟩ : S29) : List (S29))).bind fun y194 => ((some (y194.set (x5 : Int).toNat (⟨(rd_T29 y194 x5).f0, (rd_T29 y194 x5).f1, wrap64 ((wrap64 (x1 + 1)) + 1), (rd_T29 y194 x5).f3, (rd_T29 y194 x5).f4, (rd_T29 y194 x5).f5, (rd_T29 y194 x5).f6, (rd_T29 y194 x5).f7, (rd_T29 y194 x5).f8⟩ : S29) : List (S29))).bind fun y195 => ((some (y195.set (x5 : Int).toNat (⟨(rd_T29 y195 x5).f0, (rd_T29 y195 x5).f1, (rd_T29 y195 x5).f2, wrap64 ((wrap64 ((wrap64 (x1 + 1)) + 1)) + 1), (rd_T29 y195 x5).f4, (rd_T29 y195 x5).f5, (rd_T29 y195 x5).f6, (rd_T29 y195 x5).f7, (rd_T29 y195 x5).f8⟩ : S29) : List (S29))).bind fun y196 => ((some (y196.set (x5 : Int).toNat (⟨(rd_T29 y196 x5).f0, (rd_T29 y196 x5).f1, (rd_T29 y196 x5).f2, (rd_T29 y196 x5).f3, wrap64 ((wrap64 ((wrap64 ((wrap64 (x1 + 1)) + 1)) + 1)) + 1), (rd_T29 y196 x5).f5, (rd_T29 y196 x5).f6, (rd_T29 y196 x5).f7, (rd_T29 y196 x5).f8⟩ : S29) : List (S29))).bind fun y197 => ((some (y197.set (x5 : Int).toNat (⟨(rd_T29 y197 x5).f0, (rd_T29 y197 x5).f1, (rd_T29 y197 x5).f2, (rd_T29 y197 x5).f3, (rd_T29 y197 x5).f4, wrap64 ((wrap64 ((wrap64 ((wrap64 ((wrap64 (x1 + 1)) + 1)) + 1)) + 1)) + 1), (rd_T29 y197 x5).f6, (rd_T29 y197 x5).f7, (rd_T29 y197 x5).f8⟩ : S29) : List (S29))).bind fun y198 => ((some (y198.set (x5 : Int).toNat (⟨(rd_T29 y198 x5).f0, (rd_T29 y198 x5).f1, (rd_T29 y198 x5).f2, (rd_T29 y198 x5).f3, (rd_T29 y198 x5).f4, (rd_T29 y198 x5).f5, wrap64 ((wrap64 ((wrap64 ((wrap64 ((wrap64 ((wrap64 (x1 + 1)) + 1)) + 1)) + 1)) + 1)) + 1), (rd_T29 y198 x5).f7, (rd_T29 y198 x5).f8⟩ : S29) : List (S29))).bind fun y199 => ((some (y199.set (x5 : Int).toNat (⟨(rd_T29 y199 x5).f0, (rd_T29 y199 x5).f1, (rd_T29 y199 x5).f2, (rd_T29 y199 x5).f3, (rd_T29 y199 x5).f4, (rd_T29 y199 x5).f5, (rd_T29 y199 x5).f6, ((Int.tmod (wrap64 ((wrap64 ((wrap64 ((wrap64 ((wrap64 ((wrap64 ((wrap64 (x1 + 1)) + 1)) + 1)) + 1)) + 1)) + 1)) + 1)) 3) == 0), (rd_T29 y199 x5).f8⟩ : S29) : List (S29))).bind fun y200 => ((laws_markEntry0.f ((rd_T29 y200 x5).f8) (wrap64 ((wrap64 ((wrap64 ((wrap64 ((wrap64 ((wrap64 ((wrap64 ((wrap64 (x1 + 1)) + 1)) + 1)) + 1)) + 1)) + 1)) + 1)) + 1))).bind fun t202 => (laws_markMsgS.l0 k y200 t202 (wrap64 (x5 + 1)))))))))))) else (none)) else (some (x1, x0))
def laws_markMsgS.f (k : Nat) (l0 : List (S29)) (a1 : Int) : Option (Int × (List (S29))) := laws_markMsgS.l0 k l0 a1 0
theorem laws_markMsgS.mono_l : ∀ k, (∀ y0 y1 y2, LeO (laws_markMsgS.l0 k y0 y1 y2) (laws_markMsgS.l0 (k + 1) y0 y1 y2))
 | 0 => fun _ _ _ r h => by simp [laws_markMsgS.l0] at h
 | k + 1 => by
   have ih0 := laws_markMsgS.mono_l k
   · intro y0 y1 y2
     unfold laws_markMsgS.l0
     repeat' first
     | (with_reducible exact ih0 _ _ _)
     | (with_reducible exact LeO.refl _)
     | (with_reducible exact LeO.none _)
     | (with_reducible refine LeO.ite ?_ ?_)
     | (with_reducible refine LeO.bind ?_ (fun _ => ?_))
     | exact ih0 _ _ _
     | exact LeO.none _
     | refine LeO.ite ?_ ?_
     | refine LeO.bind ?_ (fun _ => ?_)
theorem laws_markMsgS.mono : ∀ a0 a1 k, LeO (laws_markMsgS.f k a0 a1) (laws_markMsgS.f (k + 1) a0 a1) := by
 intro a0 a1 k
 have ih0 := laws_markMsgS.mono_l k
 unfold laws_markMsgS.f
 repeat' first
     | (with_reducible exact ih0 _ _ _)
     | (with_reducible exact LeO.refl _)
     | (with_reducible exact LeO.none _)
     | (with_reducible refine LeO.ite ?_ ?_)
     | (with_reducible refine LeO.bind ?_ (fun _ => ?_))
     | exact ih0 _ _ _
     | exact LeO.none _
     | refine LeO.ite ?_ ?_
     | refine LeO.bind ?_ (fun _ => ?_)
set_option maxHeartbeats 8000000 in
set_option maxRecDepth 100000 in
theorem laws_markMsgS.calls0 (PK_ : Nat → Prop) (k : Nat) (P0_ : Nat → Prop) (u9000_ : Value) (l0 : List (S29)) (a1 : Int) (r1 : Int) (r2 : List (S29)) (w0 w : World) (hB : Below w0.heap.size w0 w) (ho0 : Kd.S k29 29 w w0.heap.size P0_ u9000_ l0) (hpk_ : ∀ k, (u9000_ : Value).ownBlock = some k → PK_ k) (h : laws_markMsgS.f k l0 a1 = some (r1, r2)) :
   Calls Try.prog 41 #[u9000_, .int .i64 a1] w fun e w' => e = .returned (.int .i64 r1) ∧ Kd.S k29 29 w' w0.heap.size (fun k_ => P0_ k_) u9000_ r2 ∧ Below w0.heap.size w0 w' ∧ Kept w w' (fun k_ => PK_ k_) := by
 have HO0 := am ho0
 have HPK := am hpk_
 clear hpk_
 have HK := am (Kept.refl w (fun k_ => PK_ k_))
 have HW0 := am hB.size
 have HB := am hB
 clear hB
 have H : (laws_markMsgS.l0 k l0 a1 0) = some (r1, r2) := h
 clear h
 have H' := am H
 clear H
 go_enter Try.func41, Try.ntmps41
 go_wp2
 go_loopg [1, 5] k (fun kq v1 v5 w' => ∃ (x0_1 : List (S29)) (x1_1 : Int) (x5_1 : Int), v1 = .int .i64 x1_1 ∧ v5 = .int .i64 x5_1 ∧ Aside0 (laws_markMsgS.l0 kq x0_1 x1_1 x5_1 = some (r1, r2)) ∧ Aside0 (kq ≤ k) ∧ Aside0 (Kd.S k29 29 w' w0.heap.size (fun k_ => P0_ k_) u9000_ x0_1) ∧ Aside0 (Kept w w' (fun k_ => PK_ k_)) ∧ Aside0 (Below w0.heap.size w0 w'))
 case atStart => exact ⟨(l0), (a1), (0), Q2, Q2, H', ⟨Nat.le_refl _⟩, ⟨(by (with_reducible repeat (first | apply Kd.S_alloc | apply Kd.S_drewN | apply Kd.S_drew)); exact HO0.out)⟩, ⟨Q5⟩, ⟨Q0⟩⟩
 clear H'
 obtain ⟨x0_1, x1_1, x5_1, rfl, rfl, HA, HK1, HO_0, HK, HB⟩ := hrel
 cases gk with
 | zero => exact absurd HA.out (by simp [laws_markMsgS.l0])
 | succ k1 =>
   have H := HA.out
   clear HA
   simp only [laws_markMsgS.l0] at H
   by_cases c3 : x5_1 < (x0_1.length : Int)
   rotate_left
   · rw [if_neg c3] at H
     have c3b0 : decide (x5_1 < (x0_1.length : Int)) = false := decide_eq_false c3
     clear c3
     simp only [Option.some.injEq, Prod.mk.injEq] at H
     obtain ⟨rfl, rfl⟩ := H
     obtain ⟨Ao32, co32, eo32⟩ := Kd.S_slice HO_0.out
     subst eo32
     go_wp2
     go_ret
     exact ⟨er, u6_6, Q0, Q5⟩
   rw [if_pos c3] at H
   have c3b0 : decide (x5_1 < (x0_1.length : Int)) = true := decide_eq_true c3
   clear c3
   by_cases c4 : 0 ≤ x5_1
   rotate_left
   · rw [if_neg c4] at H
     exact absurd H (by simp)
   rw [if_pos c4] at H
   have c4b0 : decide (0 ≤ x5_1) = true := decide_eq_true c4
   clear c4
   obtain ⟨y193, hy193⟩ : ∃ y_ : List (S29), y_ = (x0_1.set (x5_1 : Int).toNat (⟨x1_1, (rd_T29 x0_1 x5_1).f1, (rd_T29 x0_1 x5_1).f2, (rd_T29 x0_1 x5_1).f3, (rd_T29 x0_1 x5_1).f4, (rd_T29 x0_1 x5_1).f5, (rd_T29 x0_1 x5_1).f6, (rd_T29 x0_1 x5_1).f7, (rd_T29 x0_1 x5_1).f8⟩ : S29)) := ⟨_, rfl⟩
   replace H : ((some (y193.set (x5_1 : Int).toNat (⟨(rd_T29 y193 x5_1).f0, wrap64 (x1_1 + 1), (rd_T29 y193 x5_1).f2, (rd_T29 y193 x5_1).f3, (rd_T29 y193 x5_1).f4, (rd_T29 y193 x5_1).f5, (rd_T29 y193 x5_1).f6, (rd_T29 y193 x5_1).f7, (rd_T29 y193 x5_1).f8⟩ : S29) : List (S29))).bind fun y194 => ((some (y194.set (x5_1 : Int).toNat (⟨(rd_T29 y194 x5_1).f0, (rd_T29 y194 x5_1).f1, wrap64 ((wrap64 (x1_1 + 1)) + 1), (rd_T29 y194 x5_1).f3, (rd_T29 y194 x5_1).f4, (rd_T29 y194 x5_1).f5, (rd_T29 y194 x5_1).f6, (rd_T29 y194 x5_1).f7, (rd_T29 y194 x5_1).f8⟩ : S29) : List (S29))).bind fun y195 => ((some (y195.set (x5_1 : Int).toNat (⟨(rd_T29 y195 x5_1).f0, (rd_T29 y195 x5_1).f1, (rd_T29 y195 x5_1).f2, wrap64 ((wrap64 ((wrap64 (x1_1 + 1)) + 1)) + 1), (rd_T29 y195 x5_1).f4, (rd_T29 y195 x5_1).f5, (rd_T29 y195 x5_1).f6, (rd_T29 y195 x5_1).f7, (rd_T29 y195 x5_1).f8⟩ : S29) : List (S29))).bind fun y196 => ((some (y196.set (x5_1 : Int).toNat (⟨(rd_T29 y196 x5_1).f0, (rd_T29 y196 x5_1).f1, (rd_T29 y196 x5_1).f2, (rd_T29 y196 x5_1).f3, wrap64 ((wrap64 ((wrap64 ((wrap64 (x1_1 + 1)) + 1)) + 1)) + 1), (rd_T29 y196 x5_1).f5, (rd_T29 y196 x5_1).f6, (rd_T29 y196 x5_1).f7, (rd_T29 y196 x5_1).f8⟩ : S29) : List (S29))).bind fun y197 => ((some (y197.set (x5_1 : Int).toNat (⟨(rd_T29 y197 x5_1).f0, (rd_T29 y197 x5_1).f1, (rd_T29 y197 x5_1).f2, (rd_T29 y197 x5_1).f3, (rd_T29 y197 x5_1).f4, wrap64 ((wrap64 ((wrap64 ((wrap64 ((wrap64 (x1_1 + 1)) + 1)) + 1)) + 1)) + 1), (rd_T29 y197 x5_1).f6, (rd_T29 y197 x5_1).f7, (rd_T29 y197 x5_1).f8⟩ : S29) : List (S29))).bind fun y198 => ((some (y198.set (x5_1 : Int).toNat (⟨(rd_T29 y198 x5_1).f0, (rd_T29 y198 x5_1).f1, (rd_T29 y198 x5_1).f2, (rd_T29 y198 x5_1).f3, (rd_T29 y198 x5_1).f4, (rd_T29 y198 x5_1).f5, wrap64 ((wrap64 ((wrap64 ((wrap64 ((wrap64 ((wrap64 (x1_1 + 1)) + 1)) + 1)) + 1)) + 1)) + 1), (rd_T29 y198 x5_1).f7, (rd_T29 y198 x5_1).f8⟩ : S29) : List (S29))).bind fun y199 => ((some (y199.set (x5_1 : Int).toNat (⟨(rd_T29 y199 x5_1).f0, (rd_T29 y199 x5_1).f1, (rd_T29 y199 x5_1).f2, (rd_T29 y199 x5_1).f3, (rd_T29 y199 x5_1).f4, (rd_T29 y199 x5_1).f5, (rd_T29 y199 x5_1).f6, ((Int.tmod (wrap64 ((wrap64 ((wrap64 ((wrap64 ((wrap64 ((wrap64 ((wrap64 (x1_1 + 1)) + 1)) + 1)) + 1)) + 1)) + 1)) + 1)) 3) == 0), (rd_T29 y199 x5_1).f8⟩ : S29) : List (S29))).bind fun y200 => ((laws_markEntry0.f ((rd_T29 y200 x5_1).f8) (wrap64 ((wrap64 ((wrap64 ((wrap64 ((wrap64 ((wrap64 ((wrap64 ((wrap64 (x1_1 + 1)) + 1)) + 1)) + 1)) + 1)) + 1)) + 1)) + 1))).bind fun t202 => (laws_markMsgS.l0 k1 y200 t202 (wrap64 (x5_1 + 1))))))))))) = some (r1, r2) := by first | (rw [hy193]; with_reducible exact H) | (have H2_ := (Option.bind_some _ _).symm.trans H; rw [hy193]; with_reducible exact H2_) | (have H2_ := (Option.bind_some _ _).symm.trans H; with_reducible exact H2_) | with_reducible exact H | (rw [hy193]; exact H) | exact H
   have Ny193 := am hy193
   clear hy193
   obtain ⟨y194, hy194⟩ : ∃ y_ : List (S29), y_ = (y193.set (x5_1 : Int).toNat (⟨(rd_T29 y193 x5_1).f0, wrap64 (x1_1 + 1), (rd_T29 y193 x5_1).f2, (rd_T29 y193 x5_1).f3, (rd_T29 y193 x5_1).f4, (rd_T29 y193 x5_1).f5, (rd_T29 y193 x5_1).f6, (rd_T29 y193 x5_1).f7, (rd_T29 y193 x5_1).f8⟩ : S29)) := ⟨_, rfl⟩
   replace H : ((some (y194.set (x5_1 : Int).toNat (⟨(rd_T29 y194 x5_1).f0, (rd_T29 y194 x5_1).f1, wrap64 ((wrap64 (x1_1 + 1)) + 1), (rd_T29 y194 x5_1).f3, (rd_T29 y194 x5_1).f4, (rd_T29 y194 x5_1).f5, (rd_T29 y194 x5_1).f6, (rd_T29 y194 x5_1).f7, (rd_T29 y194 x5_1).f8⟩ : S29) : List (S29))).bind fun y195 => ((some (y195.set (x5_1 : Int).toNat (⟨(rd_T29 y195 x5_1).f0, (rd_T29 y195 x5_1).f1, (rd_T29 y195 x5_1).f2, wrap64 ((wrap64 ((wrap64 (x1_1 + 1)) + 1)) + 1), (rd_T29 y195 x5_1).f4, (rd_T29 y195 x5_1).f5, (rd_T29 y195 x5_1).f6, (rd_T29 y195 x5_1).f7, (rd_T29 y195 x5_1).f8⟩ : S29) : List (S29))).bind fun y196 => ((some (y196.set (x5_1 : Int).toNat (⟨(rd_T29 y196 x5_1).f0, (rd_T29 y196 x5_1).f1, (rd_T29 y196 x5_1).f2, (rd_T29 y196 x5_1).f3, wrap64 ((wrap64 ((wrap64 ((wrap64 (x1_1 + 1)) + 1)) + 1)) + 1), (rd_T29 y196 x5_1).f5, (rd_T29 y196 x5_1).f6, (rd_T29 y196 x5_1).f7, (rd_T29 y196 x5_1).f8⟩ : S29) : List (S29))).bind fun y197 => ((some (y197.set (x5_1 : Int).toNat (⟨(rd_T29 y197 x5_1).f0, (rd_T29 y197 x5_1).f1, (rd_T29 y197 x5_1).f2, (rd_T29 y197 x5_1).f3, (rd_T29 y197 x5_1).f4, wrap64 ((wrap64 ((wrap64 ((wrap64 ((wrap64 (x1_1 + 1)) + 1)) + 1)) + 1)) + 1), (rd_T29 y197 x5_1).f6, (rd_T29 y197 x5_1).f7, (rd_T29 y197 x5_1).f8⟩ : S29) : List (S29))).bind fun y198 => ((some (y198.set (x5_1 : Int).toNat (⟨(rd_T29 y198 x5_1).f0, (rd_T29 y198 x5_1).f1, (rd_T29 y198 x5_1).f2, (rd_T29 y198 x5_1).f3, (rd_T29 y198 x5_1).f4, (rd_T29 y198 x5_1).f5, wrap64 ((wrap64 ((wrap64 ((wrap64 ((wrap64 ((wrap64 (x1_1 + 1)) + 1)) + 1)) + 1)) + 1)) + 1), (rd_T29 y198 x5_1).f7, (rd_T29 y198 x5_1).f8⟩ : S29) : List (S29))).bind fun y199 => ((some (y199.set (x5_1 : Int).toNat (⟨(rd_T29 y199 x5_1).f0, (rd_T29 y199 x5_1).f1, (rd_T29 y199 x5_1).f2, (rd_T29 y199 x5_1).f3, (rd_T29 y199 x5_1).f4, (rd_T29 y199 x5_1).f5, (rd_T29 y199 x5_1).f6, ((Int.tmod (wrap64 ((wrap64 ((wrap64 ((wrap64 ((wrap64 ((wrap64 ((wrap64 (x1_1 + 1)) + 1)) + 1)) + 1)) + 1)) + 1)) + 1)) 3) == 0), (rd_T29 y199 x5_1).f8⟩ : S29) : List (S29))).bind fun y200 => ((laws_markEntry0.f ((rd_T29 y200 x5_1).f8) (wrap64 ((wrap64 ((wrap64 ((wrap64 ((wrap64 ((wrap64 ((wrap64 ((wrap64 (x1_1 + 1)) + 1)) + 1)) + 1)) + 1)) + 1)) + 1)) + 1))).bind fun t202 => (laws_markMsgS.l0 k1 y200 t202 (wrap64 (x5_1 + 1)))))))))) = some (r1, r2) := by first | (rw [hy194]; with_reducible exact H) | (have H2_ := (Option.bind_some _ _).symm.trans H; rw [hy194]; with_reducible exact H2_) | (have H2_ := (Option.bind_some _ _).symm.trans H; with_reducible exact H2_) | with_reducible exact H | (rw [hy194]; exact H) | exact H
   have Ny194 := am hy194
   clear hy194
   obtain ⟨y195, hy195⟩ : ∃ y_ : List (S29), y_ = (y194.set (x5_1 : Int).toNat (⟨(rd_T29 y194 x5_1).f0, (rd_T29 y194 x5_1).f1, wrap64 ((wrap64 (x1_1 + 1)) + 1), (rd_T29 y194 x5_1).f3, (rd_T29 y194 x5_1).f4, (rd_T29 y194 x5_1).f5, (rd_T29 y194 x5_1).f6, (rd_T29 y194 x5_1).f7, (rd_T29 y194 x5_1).f8⟩ : S29)) := ⟨_, rfl⟩
   replace H : ((some (y195.set (x5_1 : Int).toNat (⟨(rd_T29 y195 x5_1).f0, (rd_T29 y195 x5_1).f1, (rd_T29 y195 x5_1).f2, wrap64 ((wrap64 ((wrap64 (x1_1 + 1)) + 1)) + 1), (rd_T29 y195 x5_1).f4, (rd_T29 y195 x5_1).f5, (rd_T29 y195 x5_1).f6, (rd_T29 y195 x5_1).f7, (rd_T29 y195 x5_1).f8⟩ : S29) : List (S29))).bind fun y196 => ((some (y196.set (x5_1 : Int).toNat (⟨(rd_T29 y196 x5_1).f0, (rd_T29 y196 x5_1).f1, (rd_T29 y196 x5_1).f2, (rd_T29 y196 x5_1).f3, wrap64 ((wrap64 ((wrap64 ((wrap64 (x1_1 + 1)) + 1)) + 1)) + 1), (rd_T29 y196 x5_1).f5, (rd_T29 y196 x5_1).f6, (rd_T29 y196 x5_1).f7, (rd_T29 y196 x5_1).f8⟩ : S29) : List (S29))).bind fun y197 => ((some (y197.set (x5_1 : Int).toNat (⟨(rd_T29 y197 x5_1).f0, (rd_T29 y197 x5_1).f1, (rd_T29 y197 x5_1).f2, (rd_T29 y197 x5_1).f3, (rd_T29 y197 x5_1).f4, wrap64 ((wrap64 ((wrap64 ((wrap64 ((wrap64 (x1_1 + 1)) + 1)) + 1)) + 1)) + 1), (rd_T29 y197 x5_1).f6, (rd_T29 y197 x5_1).f7, (rd_T29 y197 x5_1).f8⟩ : S29) : List (S29))).bind fun y198 => ((some (y198.set (x5_1 : Int).toNat (⟨(rd_T29 y198 x5_1).f0, (rd_T29 y198 x5_1).f1, (rd_T29 y198 x5_1).f2, (rd_T29 y198 x5_1).f3, (rd_T29 y198 x5_1).f4, (rd_T29 y198 x5_1).f5, wrap64 ((wrap64 ((wrap64 ((wrap64 ((wrap64 ((wrap64 (x1_1 + 1)) + 1)) + 1)) + 1)) + 1)) + 1), (rd_T29 y198 x5_1).f7, (rd_T29 y198 x5_1).f8⟩ : S29) : List (S29))).bind fun y199 => ((some (y199.set (x5_1 : Int).toNat (⟨(rd_T29 y199 x5_1).f0, (rd_T29 y199 x5_1).f1, (rd_T29 y199 x5_1).f2, (rd_T29 y199 x5_1).f3, (rd_T29 y199 x5_1).f4, (rd_T29 y199 x5_1).f5, (rd_T29 y199 x5_1).f6, ((Int.tmod (wrap64 ((wrap64 ((wrap64 ((wrap64 ((wrap64 ((wrap64 ((wrap64 (x1_1 + 1)) + 1)) + 1)) + 1)) + 1)) + 1)) + 1)) 3) == 0), (rd_T29 y199 x5_1).f8⟩ : S29) : List (S29))).bind fun y200 => ((laws_markEntry0.f ((rd_T29 y200 x5_1).f8) (wrap64 ((wrap64 ((wrap64 ((wrap64 ((wrap64 ((wrap64 ((wrap64 ((wrap64 (x1_1 + 1)) + 1)) + 1)) + 1)) + 1)) + 1)) + 1)) + 1))).bind fun t202 => (laws_markMsgS.l0 k1 y200 t202 (wrap64 (x5_1 + 1))))))))) = some (r1, r2) := by first | (rw [hy195]; with_reducible exact H) | (have H2_ := (Option.bind_some _ _).symm.trans H; rw [hy195]; with_reducible exact H2_) | (have H2_ := (Option.bind_some _ _).symm.trans H; with_reducible exact H2_) | with_reducible exact H | (rw [hy195]; exact H) | exact H
   have Ny195 := am hy195
   clear hy195
   obtain ⟨y196, hy196⟩ : ∃ y_ : List (S29), y_ = (y195.set (x5_1 : Int).toNat (⟨(rd_T29 y195 x5_1).f0, (rd_T29 y195 x5_1).f1, (rd_T29 y195 x5_1).f2, wrap64 ((wrap64 ((wrap64 (x1_1 + 1)) + 1)) + 1), (rd_T29 y195 x5_1).f4, (rd_T29 y195 x5_1).f5, (rd_T29 y195 x5_1).f6, (rd_T29 y195 x5_1).f7, (rd_T29 y195 x5_1).f8⟩ : S29)) := ⟨_, rfl⟩
   replace H : ((some (y196.set (x5_1 : Int).toNat (⟨(rd_T29 y196 x5_1).f0, (rd_T29 y196 x5_1).f1, (rd_T29 y196 x5_1).f2, (rd_T29 y196 x5_1).f3, wrap64 ((wrap64 ((wrap64 ((wrap64 (x1_1 + 1)) + 1)) + 1)) + 1), (rd_T29 y196 x5_1).f5, (rd_T29 y196 x5_1).f6, (rd_T29 y196 x5_1).f7, (rd_T29 y196 x5_1).f8⟩ : S29) : List (S29))).bind fun y197 => ((some (y197.set (x5_1 : Int).toNat (⟨(rd_T29 y197 x5_1).f0, (rd_T29 y197 x5_1).f1, (rd_T29 y197 x5_1).f2, (rd_T29 y197 x5_1).f3, (rd_T29 y197 x5_1).f4, wrap64 ((wrap64 ((wrap64 ((wrap64 ((wrap64 (x1_1 + 1)) + 1)) + 1)) + 1)) + 1), (rd_T29 y197 x5_1).f6, (rd_T29 y197 x5_1).f7, (rd_T29 y197 x5_1).f8⟩ : S29) : List (S29))).bind fun y198 => ((some (y198.set (x5_1 : Int).toNat (⟨(rd_T29 y198 x5_1).f0, (rd_T29 y198 x5_1).f1, (rd_T29 y198 x5_1).f2, (rd_T29 y198 x5_1).f3, (rd_T29 y198 x5_1).f4, (rd_T29 y198 x5_1).f5, wrap64 ((wrap64 ((wrap64 ((wrap64 ((wrap64 ((wrap64 (x1_1 + 1)) + 1)) + 1)) + 1)) + 1)) + 1), (rd_T29 y198 x5_1).f7, (rd_T29 y198 x5_1).f8⟩ : S29) : List (S29))).bind fun y199 => ((some (y199.set (x5_1 : Int).toNat (⟨(rd_T29 y199 x5_1).f0, (rd_T29 y199 x5_1).f1, (rd_T29 y199 x5_1).f2, (rd_T29 y199 x5_1).f3, (rd_T29 y199 x5_1).f4, (rd_T29 y199 x5_1).f5, (rd_T29 y199 x5_1).f6, ((Int.tmod (wrap64 ((wrap64 ((wrap64 ((wrap64 ((wrap64 ((wrap64 ((wrap64 (x1_1 + 1)) + 1)) + 1)) + 1)) + 1)) + 1)) + 1)) 3) == 0), (rd_T29 y199 x5_1).f8⟩ : S29) : List (S29))).bind fun y200 => ((laws_markEntry0.f ((rd_T29 y200 x5_1).f8) (wrap64 ((wrap64 ((wrap64 ((wrap64 ((wrap64 ((wrap64 ((wrap64 ((wrap64 (x1_1 + 1)) + 1)) + 1)) + 1)) + 1)) + 1)) + 1)) + 1))).bind fun t202 => (laws_markMsgS.l0 k1 y200 t202 (wrap64 (x5_1 + 1)))))))) = some (r1, r2) := by first | (rw [hy196]; with_reducible exact H) | (have H2_ := (Option.bind_some _ _).symm.trans H; rw [hy196]; with_reducible exact H2_) | (have H2_ := (Option.bind_some _ _).symm.trans H; with_reducible exact H2_) | with_reducible exact H | (rw [hy196]; exact H) | exact H
   have Ny196 := am hy196
   clear hy196
   obtain ⟨y197, hy197⟩ : ∃ y_ : List (S29), y_ = (y196.set (x5_1 : Int).toNat (⟨(rd_T29 y196 x5_1).f0, (rd_T29 y196 x5_1).f1, (rd_T29 y196 x5_1).f2, (rd_T29 y196 x5_1).f3, wrap64 ((wrap64 ((wrap64 ((wrap64 (x1_1 + 1)) + 1)) + 1)) + 1), (rd_T29 y196 x5_1).f5, (rd_T29 y196 x5_1).f6, (rd_T29 y196 x5_1).f7, (rd_T29 y196 x5_1).f8⟩ : S29)) := ⟨_, rfl⟩
   replace H : ((some (y197.set (x5_1 : Int).toNat (⟨(rd_T29 y197 x5_1).f0, (rd_T29 y197 x5_1).f1, (rd_T29 y197 x5_1).f2, (rd_T29 y197 x5_1).f3, (rd_T29 y197 x5_1).f4, wrap64 ((wrap64 ((wrap64 ((wrap64 ((wrap64 (x1_1 + 1)) + 1)) + 1)) + 1)) + 1), (rd_T29 y197 x5_1).f6, (rd_T29 y197 x5_1).f7, (rd_T29 y197 x5_1).f8⟩ : S29) : List (S29))).bind fun y198 => ((some (y198.set (x5_1 : Int).toNat (⟨(rd_T29 y198 x5_1).f0, (rd_T29 y198 x5_1).f1, (rd_T29 y198 x5_1).f2, (rd_T29 y198 x5_1).f3, (rd_T29 y198 x5_1).f4, (rd_T29 y198 x5_1).f5, wrap64 ((wrap64 ((wrap64 ((wrap64 ((wrap64 ((wrap64 (x1_1 + 1)) + 1)) + 1)) + 1)) + 1)) + 1), (rd_T29 y198 x5_1).f7, (rd_T29 y198 x5_1).f8⟩ : S29) : List (S29))).bind fun y199 => ((some (y199.set (x5_1 : Int).toNat (⟨(rd_T29 y199 x5_1).f0, (rd_T29 y199 x5_1).f1, (rd_T29 y199 x5_1).f2, (rd_T29 y199 x5_1).f3, (rd_T29 y199 x5_1).f4, (rd_T29 y199 x5_1).f5, (rd_T29 y199 x5_1).f6, ((Int.tmod (wrap64 ((wrap64 ((wrap64 ((wrap64 ((wrap64 ((wrap64 ((wrap64 (x1_1 + 1)) + 1)) + 1)) + 1)) + 1)) + 1)) + 1)) 3) == 0), (rd_T29 y199 x5_1).f8⟩ : S29) : List (S29))).bind fun y200 => ((laws_markEntry0.f ((rd_T29 y200 x5_1).f8) (wrap64 ((wrap64 ((wrap64 ((wrap64 ((wrap64 ((wrap64 ((wrap64 ((wrap64 (x1_1 + 1)) + 1)) + 1)) + 1)) + 1)) + 1)) + 1)) + 1))).bind fun t202 => (laws_markMsgS.l0 k1 y200 t202 (wrap64 (x5_1 + 1))))))) = some (r1, r2) := by first | (rw [hy197]; with_reducible exact H) | (have H2_ := (Option.bind_some _ _).symm.trans H; rw [hy197]; with_reducible exact H2_) | (have H2_ := (Option.bind_some _ _).symm.trans H; with_reducible exact H2_) | with_reducible exact H | (rw [hy197]; exact H) | exact H
   have Ny197 := am hy197
   clear hy197
   obtain ⟨y198, hy198⟩ : ∃ y_ : List (S29), y_ = (y197.set (x5_1 : Int).toNat (⟨(rd_T29 y197 x5_1).f0, (rd_T29 y197 x5_1).f1, (rd_T29 y197 x5_1).f2, (rd_T29 y197 x5_1).f3, (rd_T29 y197 x5_1).f4, wrap64 ((wrap64 ((wrap64 ((wrap64 ((wrap64 (x1_1 + 1)) + 1)) + 1)) + 1)) + 1), (rd_T29 y197 x5_1).f6, (rd_T29 y197 x5_1).f7, (rd_T29 y197 x5_1).f8⟩ : S29)) := ⟨_, rfl⟩
   replace H : ((some (y198.set (x5_1 : Int).toNat (⟨(rd_T29 y198 x5_1).f0, (rd_T29 y198 x5_1).f1, (rd_T29 y198 x5_1).f2, (rd_T29 y198 x5_1).f3, (rd_T29 y198 x5_1).f4, (rd_T29 y198 x5_1).f5, wrap64 ((wrap64 ((wrap64 ((wrap64 ((wrap64 ((wrap64 (x1_1 + 1)) + 1)) + 1)) + 1)) + 1)) + 1), (rd_T29 y198 x5_1).f7, (rd_T29 y198 x5_1).f8⟩ : S29) : List (S29))).bind fun y199 => ((some (y199.set (x5_1 : Int).toNat (⟨(rd_T29 y199 x5_1).f0, (rd_T29 y199 x5_1).f1, (rd_T29 y199 x5_1).f2, (rd_T29 y199 x5_1).f3, (rd_T29 y199 x5_1).f4, (rd_T29 y199 x5_1).f5, (rd_T29 y199 x5_1).f6, ((Int.tmod (wrap64 ((wrap64 ((wrap64 ((wrap64 ((wrap64 ((wrap64 ((wrap64 (x1_1 + 1)) + 1)) + 1)) + 1)) + 1)) + 1)) + 1)) 3) == 0), (rd_T29 y199 x5_1).f8⟩ : S29) : List (S29))).bind fun y200 => ((laws_markEntry0.f ((rd_T29 y200 x5_1).f8) (wrap64 ((wrap64 ((wrap64 ((wrap64 ((wrap64 ((wrap64 ((wrap64 ((wrap64 (x1_1 + 1)) + 1)) + 1)) + 1)) + 1)) + 1)) + 1)) + 1))).bind fun t202 => (laws_markMsgS.l0 k1 y200 t202 (wrap64 (x5_1 + 1)))))) = some (r1, r2) := by first | (rw [hy198]; with_reducible exact H) | (have H2_ := (Option.bind_some _ _).symm.trans H; rw [hy198]; with_reducible exact H2_) | (have H2_ := (Option.bind_some _ _).symm.trans H; with_reducible exact H2_) | with_reducible exact H | (rw [hy198]; exact H) | exact H
   have Ny198 := am hy198
   clear hy198
   obtain ⟨y199, hy199⟩ : ∃ y_ : List (S29), y_ = (y198.set (x5_1 : Int).toNat (⟨(rd_T29 y198 x5_1).f0, (rd_T29 y198 x5_1).f1, (rd_T29 y198 x5_1).f2, (rd_T29 y198 x5_1).f3, (rd_T29 y198 x5_1).f4, (rd_T29 y198 x5_1).f5, wrap64 ((wrap64 ((wrap64 ((wrap64 ((wrap64 ((wrap64 (x1_1 + 1)) + 1)) + 1)) + 1)) + 1)) + 1), (rd_T29 y198 x5_1).f7, (rd_T29 y198 x5_1).f8⟩ : S29)) := ⟨_, rfl⟩
   replace H : ((some (y199.set (x5_1 : Int).toNat (⟨(rd_T29 y199 x5_1).f0, (rd_T29 y199 x5_1).f1, (rd_T29 y199 x5_1).f2, (rd_T29 y199 x5_1).f3, (rd_T29 y199 x5_1).f4, (rd_T29 y199 x5_1).f5, (rd_T29 y199 x5_1).f6, ((Int.tmod (wrap64 ((wrap64 ((wrap64 ((wrap64 ((wrap64 ((wrap64 ((wrap64 (x1_1 + 1)) + 1)) + 1)) + 1)) + 1)) + 1)) + 1)) 3) == 0), (rd_T29 y199 x5_1).f8⟩ : S29) : List (S29))).bind fun y200 => ((laws_markEntry0.f ((rd_T29 y200 x5_1).f8) (wrap64 ((wrap64 ((wrap64 ((wrap64 ((wrap64 ((wrap64 ((wrap64 ((wrap64 (x1_1 + 1)) + 1)) + 1)) + 1)) + 1)) + 1)) + 1)) + 1))).bind fun t202 => (laws_markMsgS.l0 k1 y200 t202 (wrap64 (x5_1 + 1))))) = some (r1, r2) := by first | (rw [hy199]; with_reducible exact H) | (have H2_ := (Option.bind_some _ _).symm.trans H; rw [hy199]; with_reducible exact H2_) | (have H2_ := (Option.bind_some _ _).symm.trans H; with_reducible exact H2_) | with_reducible exact H | (rw [hy199]; exact H) | exact H
   have Ny199 := am hy199
   clear hy199
   obtain ⟨y200, hy200⟩ : ∃ y_ : List (S29), y_ = (y199.set (x5_1 : Int).toNat (⟨(rd_T29 y199 x5_1).f0, (rd_T29 y199 x5_1).f1, (rd_T29 y199 x5_1).f2, (rd_T29 y199 x5_1).f3, (rd_T29 y199 x5_1).f4, (rd_T29 y199 x5_1).f5, (rd_T29 y199 x5_1).f6, ((Int.tmod (wrap64 ((wrap64 ((wrap64 ((wrap64 ((wrap64 ((wrap64 ((wrap64 (x1_1 + 1)) + 1)) + 1)) + 1)) + 1)) + 1)) + 1)) 3) == 0), (rd_T29 y199 x5_1).f8⟩ : S29)) := ⟨_, rfl⟩
   replace H : ((laws_markEntry0.f ((rd_T29 y200 x5_1).f8) (wrap64 ((wrap64 ((wrap64 ((wrap64 ((wrap64 ((wrap64 ((wrap64 ((wrap64 (x1_1 + 1)) + 1)) + 1)) + 1)) + 1)) + 1)) + 1)) + 1))).bind fun t202 => (laws_markMsgS.l0 k1 y200 t202 (wrap64 (x5_1 + 1)))) = some (r1, r2) := by first | (rw [hy200]; with_reducible exact H) | (have H2_ := (Option.bind_some _ _).symm.trans H; rw [hy200]; with_reducible exact H2_) | (have H2_ := (Option.bind_some _ _).symm.trans H; with_reducible exact H2_) | with_reducible exact H | (rw [hy200]; exact H) | exact H
   have Ny200 := am hy200
   clear hy200
   replace H := Option.bind_eq_some_iff.mp H
   obtain ⟨t202, A130, H⟩ := H
   replace H : (laws_markMsgS.l0 k1 y200 t202 (wrap64 (x5_1 + 1))) = some (r1, r2) := H
   have A13 := am A130
   clear A130
   have H' := am H
   clear H
   obtain ⟨Ao14, co14, eo14⟩ := Kd.S_slice HO_0.out
   subst eo14
   have p5 : 0 ≤ (x5_1 : Int) := of_decide_eq_true Q1
   have q5 : (x5_1 : Int) < ((x0_1.length : Int) : Int) := of_decide_eq_true Q1
   obtain ⟨go5, co5, eo5, gb5, gl5, cl5, HG5⟩ := Kd.S_form HO_0.out (by omega)
   (first | cases eo5 | (injection eo5 with ea_ en_ ec_; (first | subst ea_ | (injection ea_ with ea_; subst ea_)); subst ec_; clear en_))
   have GB5 := am gb5
   have GG5 := am HG5
   clear gb5 gl5 HG5
   have HMgo5 := am (show P0_ go5 from ((Kd.S_R HO_0.out).1 _ rfl))
   obtain ⟨_, ce5, hcl5, hM5, hcc5, hfr5, _, _⟩ := Kd.S_elem HO_0.out z29 (x5_1 : Int) p5 q5
   obtain ⟨ve5_8, rfl, ge5_8⟩ := k29_openM hM5
   have hx5_0 : wr.cell? ⟨go5, (x5_1 : Int).toNat * 9, none⟩ = some (.int .i64 ((rd_T29 x0_1 x5_1).f0)) := hcc5 0 _ rfl
   have hx5_1 : wr.cell? ⟨go5, (x5_1 : Int).toNat * 9 + 1, none⟩ = some (.int .i64 ((rd_T29 x0_1 x5_1).f1)) := hcc5 1 _ rfl
   have hx5_2 : wr.cell? ⟨go5, (x5_1 : Int).toNat * 9 + 2, none⟩ = some (.int .i64 ((rd_T29 x0_1 x5_1).f2)) := hcc5 2 _ rfl
   have hx5_3 : wr.cell? ⟨go5, (x5_1 : Int).toNat * 9 + 3, none⟩ = some (.int .i64 ((rd_T29 x0_1 x5_1).f3)) := hcc5 3 _ rfl
   have hx5_4 : wr.cell? ⟨go5, (x5_1 : Int).toNat * 9 + 4, none⟩ = some (.int .i64 ((rd_T29 x0_1 x5_1).f4)) := hcc5 4 _ rfl
   have hx5_5 : wr.cell? ⟨go5, (x5_1 : Int).toNat * 9 + 5, none⟩ = some (.int .i64 ((rd_T29 x0_1 x5_1).f5)) := hcc5 5 _ rfl
   have hx5_6 : wr.cell? ⟨go5, (x5_1 : Int).toNat * 9 + 6, none⟩ = some (.int .i64 ((rd_T29 x0_1 x5_1).f6)) := hcc5 6 _ rfl
   have hx5_7 : wr.cell? ⟨go5, (x5_1 : Int).toNat * 9 + 7, none⟩ = some (.bool ((rd_T29 x0_1 x5_1).f7)) := hcc5 7 _ rfl
   have hx5_8 : wr.cell? ⟨go5, (x5_1 : Int).toNat * 9 + 8, none⟩ = some (ve5_8) := hcc5 8 _ rfl
   have hf5_0 : wr.frozen? ⟨go5, (x5_1 : Int).toNat * 9, none⟩ = false := hfr5 0
   have hf5_1 : wr.frozen? ⟨go5, (x5_1 : Int).toNat * 9 + 1, none⟩ = false := hfr5 1
   have hf5_2 : wr.frozen? ⟨go5, (x5_1 : Int).toNat * 9 + 2, none⟩ = false := hfr5 2
   have hf5_3 : wr.frozen? ⟨go5, (x5_1 : Int).toNat * 9 + 3, none⟩ = false := hfr5 3
   have hf5_4 : wr.frozen? ⟨go5, (x5_1 : Int).toNat * 9 + 4, none⟩ = false := hfr5 4
   have hf5_5 : wr.frozen? ⟨go5, (x5_1 : Int).toNat * 9 + 5, none⟩ = false := hfr5 5
   have hf5_6 : wr.frozen? ⟨go5, (x5_1 : Int).toNat * 9 + 6, none⟩ = false := hfr5 6
   have hf5_7 : wr.frozen? ⟨go5, (x5_1 : Int).toNat * 9 + 7, none⟩ = false := hfr5 7
   have hf5_8 : wr.frozen? ⟨go5, (x5_1 : Int).toNat * 9 + 8, none⟩ = false := hfr5 8
   clear hcl5 hcc5 hfr5 hM5
   replace p5 := eq_true p5
   replace q5 := eq_true q5
   have HX15 := am (show Kd.S k29 29 wr w0.heap.size (fun k_ => ((fun k_ => P0_ k_)) k_ ∧ ¬ ((fun _ => False)) k_) (.slice (some ⟨go5, 0, none⟩) x0_1.length co14) x0_1 from u6_3)
   obtain ⟨oki15, ce15, hcl15, hM15, hcc15, hfr15, hoki15, hH15⟩ := Kd.S_elem HX15.out z29 (x5_1 : Int) (of_decide_eq_true Q1) (by have h_ : (x5_1 : Int) < ((x0_1.length : Int) : Int) := of_decide_eq_true Q1; first | exact h_ | (have e_ := (Kd.S_reads' HO_0.out).1; omega) | simpa using h_)
   obtain ⟨ve15_8, rfl, ge15_8⟩ := k29_openM hM15
   have HP15 := Kd.S_seg hH15 (of_decide_eq_true Q1) (by have h_ : (x5_1 : Int) < ((x0_1.length : Int) : Int) := of_decide_eq_true Q1; first | exact h_ | (have e_ := (Kd.S_reads' HO_0.out).1; omega) | simpa using h_) (seg := [.int .i64 x1_1]) (j := 0) (show 1 ≤ 9 from by decide) (x' := (⟨x1_1, (rd_T29 x0_1 x5_1).f1, (rd_T29 x0_1 x5_1).f2, (rd_T29 x0_1 x5_1).f3, (rd_T29 x0_1 x5_1).f4, (rd_T29 x0_1 x5_1).f5, (rd_T29 x0_1 x5_1).f6, (rd_T29 x0_1 x5_1).f7, (rd_T29 x0_1 x5_1).f8⟩ : S29)) (k29_mkM _ _ _ (⟨x1_1, (rd_T29 x0_1 x5_1).f1, (rd_T29 x0_1 x5_1).f2, (rd_T29 x0_1 x5_1).f3, (rd_T29 x0_1 x5_1).f4, (rd_T29 x0_1 x5_1).f5, (rd_T29 x0_1 x5_1).f6, (rd_T29 x0_1 x5_1).f7, (rd_T29 x0_1 x5_1).f8⟩ : S29) (Kd.R_mono ge15_8 (fun _ h_ => Or.inl h_))) (fun _ hk => hk) (fun k_ hk_ => hk_.elim)
   have hx15_0 := hcc15 0 _ rfl
   (try simp only [show (k29).sz = 9 from rfl, Nat.mul_one, Nat.add_zero] at hx15_0)
   have hf15_0 := hfr15 0
   (try simp only [show (k29).sz = 9 from rfl, Nat.mul_one, Nat.add_zero] at hf15_0)
   clear hcl15 hcc15 hfr15 hM15 hoki15 hH15
   go_wp2_with (first | ((with_reducible refine gate_store (t := 3) (p := 16) rfl ?_); refine store_event (t := 3) (p := 16) (v := ?vo_w16) (w1 := (wr.setCell ⟨go5, (x5_1 : Int).toNat * 9, none⟩ (.int .i64 x1_1))) ?hg ?ho ?hn ?hr ?_; (case ho => rfl); (case hg => rfl); (case hn => rfl); (case hr => first | (go_simp; done) | (go_simp; rfl)); intro w16 hw; have hg : wr.grownBy w16 (some go5) := (by rw [hw]; exact HP15.2); have hp_ : Kd.S k29 29 w16 w0.heap.size (fun k_ => P0_ k_) (.slice (some ⟨go5, 0, none⟩) x0_1.length co14) y193 := (by rw [hw, Ny193.out]; exact HP15.1); clear HP15; replace HO_0 := am (hp_); replace HB := am ((by rw [hw]; exact below_set (HB.out) GB5.out : Below w0.heap.size w0 w16)); replace HK := am (Kept.of_grown (S := (fun k_ => PK_ k_)) hg Q5 (fun k_ e_ => .inl (HPK.out k_ e_))); clear hg hw hp_; have p6 : 0 ≤ (x5_1 : Int) := of_decide_eq_true Q1; have q6 : (x5_1 : Int) < ((x0_1.length : Int) : Int) := of_decide_eq_true Q1; obtain ⟨_, ce6, hcl6, hM6, hcc6, hfr6, _, _⟩ := Kd.S_elem HO_0.out z29 (x5_1 : Int) p6 q6; obtain ⟨ve6_8, rfl, ge6_8⟩ := k29_openM hM6; have hx6_0 : w16.cell? ⟨go5, (x5_1 : Int).toNat * 9, none⟩ = some (.int .i64 ((rd_T29 y193 x5_1).f0)) := hcc6 0 _ rfl; have hx6_1 : w16.cell? ⟨go5, (x5_1 : Int).toNat * 9 + 1, none⟩ = some (.int .i64 ((rd_T29 y193 x5_1).f1)) := hcc6 1 _ rfl; have hx6_2 : w16.cell? ⟨go5, (x5_1 : Int).toNat * 9 + 2, none⟩ = some (.int .i64 ((rd_T29 y193 x5_1).f2)) := hcc6 2 _ rfl; have hx6_3 : w16.cell? ⟨go5, (x5_1 : Int).toNat * 9 + 3, none⟩ = some (.int .i64 ((rd_T29 y193 x5_1).f3)) := hcc6 3 _ rfl; have hx6_4 : w16.cell? ⟨go5, (x5_1 : Int).toNat * 9 + 4, none⟩ = some (.int .i64 ((rd_T29 y193 x5_1).f4)) := hcc6 4 _ rfl; have hx6_5 : w16.cell? ⟨go5, (x5_1 : Int).toNat * 9 + 5, none⟩ = some (.int .i64 ((rd_T29 y193 x5_1).f5)) := hcc6 5 _ rfl; have hx6_6 : w16.cell? ⟨go5, (x5_1 : Int).toNat * 9 + 6, none⟩ = some (.int .i64 ((rd_T29 y193 x5_1).f6)) := hcc6 6 _ rfl; have hx6_7 : w16.cell? ⟨go5, (x5_1 : Int).toNat * 9 + 7, none⟩ = some (.bool ((rd_T29 y193 x5_1).f7)) := hcc6 7 _ rfl; have hx6_8 : w16.cell? ⟨go5, (x5_1 : Int).toNat * 9 + 8, none⟩ = some (ve6_8) := hcc6 8 _ rfl; have hf6_0 : w16.frozen? ⟨go5, (x5_1 : Int).toNat * 9, none⟩ = false := hfr6 0; have hf6_1 : w16.frozen? ⟨go5, (x5_1 : Int).toNat * 9 + 1, none⟩ = false := hfr6 1; have hf6_2 : w16.frozen? ⟨go5, (x5_1 : Int).toNat * 9 + 2, none⟩ = false := hfr6 2; have hf6_3 : w16.frozen? ⟨go5, (x5_1 : Int).toNat * 9 + 3, none⟩ = false := hfr6 3; have hf6_4 : w16.frozen? ⟨go5, (x5_1 : Int).toNat * 9 + 4, none⟩ = false := hfr6 4; have hf6_5 : w16.frozen? ⟨go5, (x5_1 : Int).toNat * 9 + 5, none⟩ = false := hfr6 5; have hf6_6 : w16.frozen? ⟨go5, (x5_1 : Int).toNat * 9 + 6, none⟩ = false := hfr6 6; have hf6_7 : w16.frozen? ⟨go5, (x5_1 : Int).toNat * 9 + 7, none⟩ = false := hfr6 7; have hf6_8 : w16.frozen? ⟨go5, (x5_1 : Int).toNat * 9 + 8, none⟩ = false := hfr6 8; clear hcl6 hcc6 hfr6 hM6; replace p6 := eq_true p6; replace q6 := eq_true q6; have HX17 := am (show Kd.S k29 29 w16 w0.heap.size (fun k_ => ((fun k_ => P0_ k_)) k_ ∧ ¬ ((fun _ => False)) k_) (.slice (some ⟨go5, 0, none⟩) x0_1.length co14) y193 from u6_3); obtain ⟨oki17, ce17, hcl17, hM17, hcc17, hfr17, hoki17, hH17⟩ := Kd.S_elem HX17.out z29 (x5_1 : Int) (of_decide_eq_true Q1) (by have h_ : (x5_1 : Int) < ((x0_1.length : Int) : Int) := of_decide_eq_true Q1; first | exact h_ | (have e_ := (Kd.S_reads' HO_0.out).1; omega) | simpa using h_); obtain ⟨ve17_8, rfl, ge17_8⟩ := k29_openM hM17; have HP17 := Kd.S_seg hH17 (of_decide_eq_true Q1) (by have h_ : (x5_1 : Int) < ((x0_1.length : Int) : Int) := of_decide_eq_true Q1; first | exact h_ | (have e_ := (Kd.S_reads' HO_0.out).1; omega) | simpa using h_) (seg := [.int .i64 (wrap64 (x1_1 + 1))]) (j := 1) (show 2 ≤ 9 from by decide) (x' := (⟨(rd_T29 y193 x5_1).f0, wrap64 (x1_1 + 1), (rd_T29 y193 x5_1).f2, (rd_T29 y193 x5_1).f3, (rd_T29 y193 x5_1).f4, (rd_T29 y193 x5_1).f5, (rd_T29 y193 x5_1).f6, (rd_T29 y193 x5_1).f7, (rd_T29 y193 x5_1).f8⟩ : S29)) (k29_mkM _ _ _ (⟨(rd_T29 y193 x5_1).f0, wrap64 (x1_1 + 1), (rd_T29 y193 x5_1).f2, (rd_T29 y193 x5_1).f3, (rd_T29 y193 x5_1).f4, (rd_T29 y193 x5_1).f5, (rd_T29 y193 x5_1).f6, (rd_T29 y193 x5_1).f7, (rd_T29 y193 x5_1).f8⟩ : S29) (Kd.R_mono ge17_8 (fun _ h_ => Or.inl h_))) (fun _ hk => hk) (fun k_ hk_ => hk_.elim); have hx17_1 := hcc17 1 _ rfl; (try simp only [show (k29).sz = 9 from rfl, Nat.mul_one, Nat.add_zero] at hx17_1); have hf17_1 := hfr17 1; (try simp only [show (k29).sz = 9 from rfl, Nat.mul_one, Nat.add_zero] at hf17_1); clear hcl17 hcc17 hfr17 hM17 hoki17 hH17) | ((with_reducible refine gate_store (t := 3) (p := 23) rfl ?_); refine store_event (t := 3) (p := 23) (v := ?vo_w18) (w1 := (w16.setCell ⟨go5, (x5_1 : Int).toNat * 9 + 1, none⟩ (.int .i64 (wrap64 (x1_1 + 1))))) ?hg ?ho ?hn ?hr ?_; (case ho => rfl); (case hg => rfl); (case hn => rfl); (case hr => first | (go_simp; done) | (go_simp; rfl)); intro w18 hw; have hg : w16.grownBy w18 (some go5) := (by rw [hw]; exact HP17.2); have hp_ : Kd.S k29 29 w18 w0.heap.size (fun k_ => P0_ k_) (.slice (some ⟨go5, 0, none⟩) x0_1.length co14) y194 := (by rw [hw, Ny194.out]; exact HP17.1); clear HP17; replace HO_0 := am (hp_); replace HB := am ((by rw [hw]; exact below_set (HB.out) GB5.out : Below w0.heap.size w0 w18)); replace HK := am (Kept.of_grown (S := (fun k_ => PK_ k_)) hg Q5 (fun k_ e_ => .inl (HPK.out k_ e_))); clear hg hw hp_; have p7 : 0 ≤ (x5_1 : Int) := of_decide_eq_true Q1; have q7 : (x5_1 : Int) < ((x0_1.length : Int) : Int) := of_decide_eq_true Q1; obtain ⟨_, ce7, hcl7, hM7, hcc7, hfr7, _, _⟩ := Kd.S_elem HO_0.out z29 (x5_1 : Int) p7 q7; obtain ⟨ve7_8, rfl, ge7_8⟩ := k29_openM hM7; have hx7_0 : w18.cell? ⟨go5, (x5_1 : Int).toNat * 9, none⟩ = some (.int .i64 ((rd_T29 y194 x5_1).f0)) := hcc7 0 _ rfl; have hx7_1 : w18.cell? ⟨go5, (x5_1 : Int).toNat * 9 + 1, none⟩ = some (.int .i64 ((rd_T29 y194 x5_1).f1)) := hcc7 1 _ rfl; have hx7_2 : w18.cell? ⟨go5, (x5_1 : Int).toNat * 9 + 2, none⟩ = some (.int .i64 ((rd_T29 y194 x5_1).f2)) := hcc7 2 _ rfl; have hx7_3 : w18.cell? ⟨go5, (x5_1 : Int).toNat * 9 + 3, none⟩ = some (.int .i64 ((rd_T29 y194 x5_1).f3)) := hcc7 3 _ rfl; have hx7_4 : w18.cell? ⟨go5, (x5_1 : Int).toNat * 9 + 4, none⟩ = some (.int .i64 ((rd_T29 y194 x5_1).f4)) := hcc7 4 _ rfl; have hx7_5 : w18.cell? ⟨go5, (x5_1 : Int).toNat * 9 + 5, none⟩ = some (.int .i64 ((rd_T29 y194 x5_1).f5)) := hcc7 5 _ rfl; have hx7_6 : w18.cell? ⟨go5, (x5_1 : Int).toNat * 9 + 6, none⟩ = some (.int .i64 ((rd_T29 y194 x5_1).f6)) := hcc7 6 _ rfl; have hx7_7 : w18.cell? ⟨go5, (x5_1 : Int).toNat * 9 + 7, none⟩ = some (.bool ((rd_T29 y194 x5_1).f7)) := hcc7 7 _ rfl; have hx7_8 : w18.cell? ⟨go5, (x5_1 : Int).toNat * 9 + 8, none⟩ = some (ve7_8) := hcc7 8 _ rfl; have hf7_0 : w18.frozen? ⟨go5, (x5_1 : Int).toNat * 9, none⟩ = false := hfr7 0; have hf7_1 : w18.frozen? ⟨go5, (x5_1 : Int).toNat * 9 + 1, none⟩ = false := hfr7 1; have hf7_2 : w18.frozen? ⟨go5, (x5_1 : Int).toNat * 9 + 2, none⟩ = false := hfr7 2; have hf7_3 : w18.frozen? ⟨go5, (x5_1 : Int).toNat * 9 + 3, none⟩ = false := hfr7 3; have hf7_4 : w18.frozen? ⟨go5, (x5_1 : Int).toNat * 9 + 4, none⟩ = false := hfr7 4; have hf7_5 : w18.frozen? ⟨go5, (x5_1 : Int).toNat * 9 + 5, none⟩ = false := hfr7 5; have hf7_6 : w18.frozen? ⟨go5, (x5_1 : Int).toNat * 9 + 6, none⟩ = false := hfr7 6; have hf7_7 : w18.frozen? ⟨go5, (x5_1 : Int).toNat * 9 + 7, none⟩ = false := hfr7 7; have hf7_8 : w18.frozen? ⟨go5, (x5_1 : Int).toNat * 9 + 8, none⟩ = false := hfr7 8; clear hcl7 hcc7 hfr7 hM7; replace p7 := eq_true p7; replace q7 := eq_true q7; have HX19 := am (show Kd.S k29 29 w18 w0.heap.size (fun k_ => ((fun k_ => P0_ k_)) k_ ∧ ¬ ((fun _ => False)) k_) (.slice (some ⟨go5, 0, none⟩) x0_1.length co14) y194 from u6_3); obtain ⟨oki19, ce19, hcl19, hM19, hcc19, hfr19, hoki19, hH19⟩ := Kd.S_elem HX19.out z29 (x5_1 : Int) (of_decide_eq_true Q1) (by have h_ : (x5_1 : Int) < ((x0_1.length : Int) : Int) := of_decide_eq_true Q1; first | exact h_ | (have e_ := (Kd.S_reads' HO_0.out).1; omega) | simpa using h_); obtain ⟨ve19_8, rfl, ge19_8⟩ := k29_openM hM19; have HP19 := Kd.S_seg hH19 (of_decide_eq_true Q1) (by have h_ : (x5_1 : Int) < ((x0_1.length : Int) : Int) := of_decide_eq_true Q1; first | exact h_ | (have e_ := (Kd.S_reads' HO_0.out).1; omega) | simpa using h_) (seg := [.int .i64 (wrap64 ((wrap64 (x1_1 + 1)) + 1))]) (j := 2) (show 3 ≤ 9 from by decide) (x' := (⟨(rd_T29 y194 x5_1).f0, (rd_T29 y194 x5_1).f1, wrap64 ((wrap64 (x1_1 + 1)) + 1), (rd_T29 y194 x5_1).f3, (rd_T29 y194 x5_1).f4, (rd_T29 y194 x5_1).f5, (rd_T29 y194 x5_1).f6, (rd_T29 y194 x5_1).f7, (rd_T29 y194 x5_1).f8⟩ : S29)) (k29_mkM _ _ _ (⟨(rd_T29 y194 x5_1).f0, (rd_T29 y194 x5_1).f1, wrap64 ((wrap64 (x1_1 + 1)) + 1), (rd_T29 y194 x5_1).f3, (rd_T29 y194 x5_1).f4, (rd_T29 y194 x5_1).f5, (rd_T29 y194 x5_1).f6, (rd_T29 y194 x5_1).f7, (rd_T29 y194 x5_1).f8⟩ : S29) (Kd.R_mono ge19_8 (fun _ h_ => Or.inl h_))) (fun _ hk => hk) (fun k_ hk_ => hk_.elim); have hx19_2 := hcc19 2 _ rfl; (try simp only [show (k29).sz = 9 from rfl, Nat.mul_one, Nat.add_zero] at hx19_2); have hf19_2 := hfr19 2; (try simp only [show (k29).sz = 9 from rfl, Nat.mul_one, Nat.add_zero] at hf19_2); clear hcl19 hcc19 hfr19 hM19 hoki19 hH19) | ((with_reducible refine gate_store (t := 3) (p := 30) rfl ?_); refine store_event (t := 3) (p := 30) (v := ?vo_w20) (w1 := (w18.setCell ⟨go5, (x5_1 : Int).toNat * 9 + 2, none⟩ (.int .i64 (wrap64 ((wrap64 (x1_1 + 1)) + 1))))) ?hg ?ho ?hn ?hr ?_; (case ho => rfl); (case hg => rfl); (case hn => rfl); (case hr => first | (go_simp; done) | (go_simp; rfl)); intro w20 hw; have hg : w18.grownBy w20 (some go5) := (by rw [hw]; exact HP19.2); have hp_ : Kd.S k29 29 w20 w0.heap.size (fun k_ => P0_ k_) (.slice (some ⟨go5, 0, none⟩) x0_1.length co14) y195 := (by rw [hw, Ny195.out]; exact HP19.1); clear HP19; replace HO_0 := am (hp_); replace HB := am ((by rw [hw]; exact below_set (HB.out) GB5.out : Below w0.heap.size w0 w20)); replace HK := am (Kept.of_grown (S := (fun k_ => PK_ k_)) hg Q5 (fun k_ e_ => .inl (HPK.out k_ e_))); clear hg hw hp_; have p8 : 0 ≤ (x5_1 : Int) := of_decide_eq_true Q1; have q8 : (x5_1 : Int) < ((x0_1.length : Int) : Int) := of_decide_eq_true Q1; obtain ⟨_, ce8, hcl8, hM8, hcc8, hfr8, _, _⟩ := Kd.S_elem HO_0.out z29 (x5_1 : Int) p8 q8; obtain ⟨ve8_8, rfl, ge8_8⟩ := k29_openM hM8; have hx8_0 : w20.cell? ⟨go5, (x5_1 : Int).toNat * 9, none⟩ = some (.int .i64 ((rd_T29 y195 x5_1).f0)) := hcc8 0 _ rfl; have hx8_1 : w20.cell? ⟨go5, (x5_1 : Int).toNat * 9 + 1, none⟩ = some (.int .i64 ((rd_T29 y195 x5_1).f1)) := hcc8 1 _ rfl; have hx8_2 : w20.cell? ⟨go5, (x5_1 : Int).toNat * 9 + 2, none⟩ = some (.int .i64 ((rd_T29 y195 x5_1).f2)) := hcc8 2 _ rfl; have hx8_3 : w20.cell? ⟨go5, (x5_1 : Int).toNat * 9 + 3, none⟩ = some (.int .i64 ((rd_T29 y195 x5_1).f3)) := hcc8 3 _ rfl; have hx8_4 : w20.cell? ⟨go5, (x5_1 : Int).toNat * 9 + 4, none⟩ = some (.int .i64 ((rd_T29 y195 x5_1).f4)) := hcc8 4 _ rfl; have hx8_5 : w20.cell? ⟨go5, (x5_1 : Int).toNat * 9 + 5, none⟩ = some (.int .i64 ((rd_T29 y195 x5_1).f5)) := hcc8 5 _ rfl; have hx8_6 : w20.cell? ⟨go5, (x5_1 : Int).toNat * 9 + 6, none⟩ = some (.int .i64 ((rd_T29 y195 x5_1).f6)) := hcc8 6 _ rfl; have hx8_7 : w20.cell? ⟨go5, (x5_1 : Int).toNat * 9 + 7, none⟩ = some (.bool ((rd_T29 y195 x5_1).f7)) := hcc8 7 _ rfl; have hx8_8 : w20.cell? ⟨go5, (x5_1 : Int).toNat * 9 + 8, none⟩ = some (ve8_8) := hcc8 8 _ rfl; have hf8_0 : w20.frozen? ⟨go5, (x5_1 : Int).toNat * 9, none⟩ = false := hfr8 0; have hf8_1 : w20.frozen? ⟨go5, (x5_1 : Int).toNat * 9 + 1, none⟩ = false := hfr8 1; have hf8_2 : w20.frozen? ⟨go5, (x5_1 : Int).toNat * 9 + 2, none⟩ = false := hfr8 2; have hf8_3 : w20.frozen? ⟨go5, (x5_1 : Int).toNat * 9 + 3, none⟩ = false := hfr8 3; have hf8_4 : w20.frozen? ⟨go5, (x5_1 : Int).toNat * 9 + 4, none⟩ = false := hfr8 4; have hf8_5 : w20.frozen? ⟨go5, (x5_1 : Int).toNat * 9 + 5, none⟩ = false := hfr8 5; have hf8_6 : w20.frozen? ⟨go5, (x5_1 : Int).toNat * 9 + 6, none⟩ = false := hfr8 6; have hf8_7 : w20.frozen? ⟨go5, (x5_1 : Int).toNat * 9 + 7, none⟩ = false := hfr8 7; have hf8_8 : w20.frozen? ⟨go5, (x5_1 : Int).toNat * 9 + 8, none⟩ = false := hfr8 8; clear hcl8 hcc8 hfr8 hM8; replace p8 := eq_true p8; replace q8 := eq_true q8; have HX21 := am (show Kd.S k29 29 w20 w0.heap.size (fun k_ => ((fun k_ => P0_ k_)) k_ ∧ ¬ ((fun _ => False)) k_) (.slice (some ⟨go5, 0, none⟩) x0_1.length co14) y195 from u6_3); obtain ⟨oki21, ce21, hcl21, hM21, hcc21, hfr21, hoki21, hH21⟩ := Kd.S_elem HX21.out z29 (x5_1 : Int) (of_decide_eq_true Q1) (by have h_ : (x5_1 : Int) < ((x0_1.length : Int) : Int) := of_decide_eq_true Q1; first | exact h_ | (have e_ := (Kd.S_reads' HO_0.out).1; omega) | simpa using h_); obtain ⟨ve21_8, rfl, ge21_8⟩ := k29_openM hM21; have HP21 := Kd.S_seg hH21 (of_decide_eq_true Q1) (by have h_ : (x5_1 : Int) < ((x0_1.length : Int) : Int) := of_decide_eq_true Q1; first | exact h_ | (have e_ := (Kd.S_reads' HO_0.out).1; omega) | simpa using h_) (seg := [.int .i64 (wrap64 ((wrap64 ((wrap64 (x1_1 + 1)) + 1)) + 1))]) (j := 3) (show 4 ≤ 9 from by decide) (x' := (⟨(rd_T29 y195 x5_1).f0, (rd_T29 y195 x5_1).f1, (rd_T29 y195 x5_1).f2, wrap64 ((wrap64 ((wrap64 (x1_1 + 1)) + 1)) + 1), (rd_T29 y195 x5_1).f4, (rd_T29 y195 x5_1).f5, (rd_T29 y195 x5_1).f6, (rd_T29 y195 x5_1).f7, (rd_T29 y195 x5_1).f8⟩ : S29)) (k29_mkM _ _ _ (⟨(rd_T29 y195 x5_1).f0, (rd_T29 y195 x5_1).f1, (rd_T29 y195 x5_1).f2, wrap64 ((wrap64 ((wrap64 (x1_1 + 1)) + 1)) + 1), (rd_T29 y195 x5_1).f4, (rd_T29 y195 x5_1).f5, (rd_T29 y195 x5_1).f6, (rd_T29 y195 x5_1).f7, (rd_T29 y195 x5_1).f8⟩ : S29) (Kd.R_mono ge21_8 (fun _ h_ => Or.inl h_))) (fun _ hk => hk) (fun k_ hk_ => hk_.elim); have hx21_3 := hcc21 3 _ rfl; (try simp only [show (k29).sz = 9 from rfl, Nat.mul_one, Nat.add_zero] at hx21_3); have hf21_3 := hfr21 3; (try simp only [show (k29).sz = 9 from rfl, Nat.mul_one, Nat.add_zero] at hf21_3); clear hcl21 hcc21 hfr21 hM21 hoki21 hH21) | ((with_reducible refine gate_store (t := 3) (p := 37) rfl ?_); refine store_event (t := 3) (p := 37) (v := ?vo_w22) (w1 := (w20.setCell ⟨go5, (x5_1 : Int).toNat * 9 + 3, none⟩ (.int .i64 (wrap64 ((wrap64 ((wrap64 (x1_1 + 1)) + 1)) + 1))))) ?hg ?ho ?hn ?hr ?_; (case ho => rfl); (case hg => rfl); (case hn => rfl); (case hr => first | (go_simp; done) | (go_simp; rfl)); intro w22 hw; have hg : w20.grownBy w22 (some go5) := (by rw [hw]; exact HP21.2); have hp_ : Kd.S k29 29 w22 w0.heap.size (fun k_ => P0_ k_) (.slice (some ⟨go5, 0, none⟩) x0_1.length co14) y196 := (by rw [hw, Ny196.out]; exact HP21.1); clear HP21; replace HO_0 := am (hp_); replace HB := am ((by rw [hw]; exact below_set (HB.out) GB5.out : Below w0.heap.size w0 w22)); replace HK := am (Kept.of_grown (S := (fun k_ => PK_ k_)) hg Q5 (fun k_ e_ => .inl (HPK.out k_ e_))); clear hg hw hp_; have p9 : 0 ≤ (x5_1 : Int) := of_decide_eq_true Q1; have q9 : (x5_1 : Int) < ((x0_1.length : Int) : Int) := of_decide_eq_true Q1; obtain ⟨_, ce9, hcl9, hM9, hcc9, hfr9, _, _⟩ := Kd.S_elem HO_0.out z29 (x5_1 : Int) p9 q9; obtain ⟨ve9_8, rfl, ge9_8⟩ := k29_openM hM9; have hx9_0 : w22.cell? ⟨go5, (x5_1 : Int).toNat * 9, none⟩ = some (.int .i64 ((rd_T29 y196 x5_1).f0)) := hcc9 0 _ rfl; have hx9_1 : w22.cell? ⟨go5, (x5_1 : Int).toNat * 9 + 1, none⟩ = some (.int .i64 ((rd_T29 y196 x5_1).f1)) := hcc9 1 _ rfl; have hx9_2 : w22.cell? ⟨go5, (x5_1 : Int).toNat * 9 + 2, none⟩ = some (.int .i64 ((rd_T29 y196 x5_1).f2)) := hcc9 2 _ rfl; have hx9_3 : w22.cell? ⟨go5, (x5_1 : Int).toNat * 9 + 3, none⟩ = some (.int .i64 ((rd_T29 y196 x5_1).f3)) := hcc9 3 _ rfl; have hx9_4 : w22.cell? ⟨go5, (x5_1 : Int).toNat * 9 + 4, none⟩ = some (.int .i64 ((rd_T29 y196 x5_1).f4)) := hcc9 4 _ rfl; have hx9_5 : w22.cell? ⟨go5, (x5_1 : Int).toNat * 9 + 5, none⟩ = some (.int .i64 ((rd_T29 y196 x5_1).f5)) := hcc9 5 _ rfl; have hx9_6 : w22.cell? ⟨go5, (x5_1 : Int).toNat * 9 + 6, none⟩ = some (.int .i64 ((rd_T29 y196 x5_1).f6)) := hcc9 6 _ rfl; have hx9_7 : w22.cell? ⟨go5, (x5_1 : Int).toNat * 9 + 7, none⟩ = some (.bool ((rd_T29 y196 x5_1).f7)) := hcc9 7 _ rfl; have hx9_8 : w22.cell? ⟨go5, (x5_1 : Int).toNat * 9 + 8, none⟩ = some (ve9_8) := hcc9 8 _ rfl; have hf9_0 : w22.frozen? ⟨go5, (x5_1 : Int).toNat * 9, none⟩ = false := hfr9 0; have hf9_1 : w22.frozen? ⟨go5, (x5_1 : Int).toNat * 9 + 1, none⟩ = false := hfr9 1; have hf9_2 : w22.frozen? ⟨go5, (x5_1 : Int).toNat * 9 + 2, none⟩ = false := hfr9 2; have hf9_3 : w22.frozen? ⟨go5, (x5_1 : Int).toNat * 9 + 3, none⟩ = false := hfr9 3; have hf9_4 : w22.frozen? ⟨go5, (x5_1 : Int).toNat * 9 + 4, none⟩ = false := hfr9 4; have hf9_5 : w22.frozen? ⟨go5, (x5_1 : Int).toNat * 9 + 5, none⟩ = false := hfr9 5; have hf9_6 : w22.frozen? ⟨go5, (x5_1 : Int).toNat * 9 + 6, none⟩ = false := hfr9 6; have hf9_7 : w22.frozen? ⟨go5, (x5_1 : Int).toNat * 9 + 7, none⟩ = false := hfr9 7; have hf9_8 : w22.frozen? ⟨go5, (x5_1 : Int).toNat * 9 + 8, none⟩ = false := hfr9 8; clear hcl9 hcc9 hfr9 hM9; replace p9 := eq_true p9; replace q9 := eq_true q9; have HX23 := am (show Kd.S k29 29 w22 w0.heap.size (fun k_ => ((fun k_ => P0_ k_)) k_ ∧ ¬ ((fun _ => False)) k_) (.slice (some ⟨go5, 0, none⟩) x0_1.length co14) y196 from u6_3); obtain ⟨oki23, ce23, hcl23, hM23, hcc23, hfr23, hoki23, hH23⟩ := Kd.S_elem HX23.out z29 (x5_1 : Int) (of_decide_eq_true Q1) (by have h_ : (x5_1 : Int) < ((x0_1.length : Int) : Int) := of_decide_eq_true Q1; first | exact h_ | (have e_ := (Kd.S_reads' HO_0.out).1; omega) | simpa using h_); obtain ⟨ve23_8, rfl, ge23_8⟩ := k29_openM hM23; have HP23 := Kd.S_seg hH23 (of_decide_eq_true Q1) (by have h_ : (x5_1 : Int) < ((x0_1.length : Int) : Int) := of_decide_eq_true Q1; first | exact h_ | (have e_ := (Kd.S_reads' HO_0.out).1; omega) | simpa using h_) (seg := [.int .i64 (wrap64 ((wrap64 ((wrap64 ((wrap64 (x1_1 + 1)) + 1)) + 1)) + 1))]) (j := 4) (show 5 ≤ 9 from by decide) (x' := (⟨(rd_T29 y196 x5_1).f0, (rd_T29 y196 x5_1).f1, (rd_T29 y196 x5_1).f2, (rd_T29 y196 x5_1).f3, wrap64 ((wrap64 ((wrap64 ((wrap64 (x1_1 + 1)) + 1)) + 1)) + 1), (rd_T29 y196 x5_1).f5, (rd_T29 y196 x5_1).f6, (rd_T29 y196 x5_1).f7, (rd_T29 y196 x5_1).f8⟩ : S29)) (k29_mkM _ _ _ (⟨(rd_T29 y196 x5_1).f0, (rd_T29 y196 x5_1).f1, (rd_T29 y196 x5_1).f2, (rd_T29 y196 x5_1).f3, wrap64 ((wrap64 ((wrap64 ((wrap64 (x1_1 + 1)) + 1)) + 1)) + 1), (rd_T29 y196 x5_1).f5, (rd_T29 y196 x5_1).f6, (rd_T29 y196 x5_1).f7, (rd_T29 y196 x5_1).f8⟩ : S29) (Kd.R_mono ge23_8 (fun _ h_ => Or.inl h_))) (fun _ hk => hk) (fun k_ hk_ => hk_.elim); have hx23_4 := hcc23 4 _ rfl; (try simp only [show (k29).sz = 9 from rfl, Nat.mul_one, Nat.add_zero] at hx23_4); have hf23_4 := hfr23 4; (try simp only [show (k29).sz = 9 from rfl, Nat.mul_one, Nat.add_zero] at hf23_4); clear hcl23 hcc23 hfr23 hM23 hoki23 hH23) | ((with_reducible refine gate_store (t := 3) (p := 44) rfl ?_); refine store_event (t := 3) (p := 44) (v := ?vo_w24) (w1 := (w22.setCell ⟨go5, (x5_1 : Int).toNat * 9 + 4, none⟩ (.int .i64 (wrap64 ((wrap64 ((wrap64 ((wrap64 (x1_1 + 1)) + 1)) + 1)) + 1))))) ?hg ?ho ?hn ?hr ?_; (case ho => rfl); (case hg => rfl); (case hn => rfl); (case hr => first | (go_simp; done) | (go_simp; rfl)); intro w24 hw; have hg : w22.grownBy w24 (some go5) := (by rw [hw]; exact HP23.2); have hp_ : Kd.S k29 29 w24 w0.heap.size (fun k_ => P0_ k_) (.slice (some ⟨go5, 0, none⟩) x0_1.length co14) y197 := (by rw [hw, Ny197.out]; exact HP23.1); clear HP23; replace HO_0 := am (hp_); replace HB := am ((by rw [hw]; exact below_set (HB.out) GB5.out : Below w0.heap.size w0 w24)); replace HK := am (Kept.of_grown (S := (fun k_ => PK_ k_)) hg Q5 (fun k_ e_ => .inl (HPK.out k_ e_))); clear hg hw hp_; have p10 : 0 ≤ (x5_1 : Int) := of_decide_eq_true Q1; have q10 : (x5_1 : Int) < ((x0_1.length : Int) : Int) := of_decide_eq_true Q1; obtain ⟨_, ce10, hcl10, hM10, hcc10, hfr10, _, _⟩ := Kd.S_elem HO_0.out z29 (x5_1 : Int) p10 q10; obtain ⟨ve10_8, rfl, ge10_8⟩ := k29_openM hM10; have hx10_0 : w24.cell? ⟨go5, (x5_1 : Int).toNat * 9, none⟩ = some (.int .i64 ((rd_T29 y197 x5_1).f0)) := hcc10 0 _ rfl; have hx10_1 : w24.cell? ⟨go5, (x5_1 : Int).toNat * 9 + 1, none⟩ = some (.int .i64 ((rd_T29 y197 x5_1).f1)) := hcc10 1 _ rfl; have hx10_2 : w24.cell? ⟨go5, (x5_1 : Int).toNat * 9 + 2, none⟩ = some (.int .i64 ((rd_T29 y197 x5_1).f2)) := hcc10 2 _ rfl; have hx10_3 : w24.cell? ⟨go5, (x5_1 : Int).toNat * 9 + 3, none⟩ = some (.int .i64 ((rd_T29 y197 x5_1).f3)) := hcc10 3 _ rfl; have hx10_4 : w24.cell? ⟨go5, (x5_1 : Int).toNat * 9 + 4, none⟩ = some (.int .i64 ((rd_T29 y197 x5_1).f4)) := hcc10 4 _ rfl; have hx10_5 : w24.cell? ⟨go5, (x5_1 : Int).toNat * 9 + 5, none⟩ = some (.int .i64 ((rd_T29 y197 x5_1).f5)) := hcc10 5 _ rfl; have hx10_6 : w24.cell? ⟨go5, (x5_1 : Int).toNat * 9 + 6, none⟩ = some (.int .i64 ((rd_T29 y197 x5_1).f6)) := hcc10 6 _ rfl; have hx10_7 : w24.cell? ⟨go5, (x5_1 : Int).toNat * 9 + 7, none⟩ = some (.bool ((rd_T29 y197 x5_1).f7)) := hcc10 7 _ rfl; have hx10_8 : w24.cell? ⟨go5, (x5_1 : Int).toNat * 9 + 8, none⟩ = some (ve10_8) := hcc10 8 _ rfl; have hf10_0 : w24.frozen? ⟨go5, (x5_1 : Int).toNat * 9, none⟩ = false := hfr10 0; have hf10_1 : w24.frozen? ⟨go5, (x5_1 : Int).toNat * 9 + 1, none⟩ = false := hfr10 1; have hf10_2 : w24.frozen? ⟨go5, (x5_1 : Int).toNat * 9 + 2, none⟩ = false := hfr10 2; have hf10_3 : w24.frozen? ⟨go5, (x5_1 : Int).toNat * 9 + 3, none⟩ = false := hfr10 3; have hf10_4 : w24.frozen? ⟨go5, (x5_1 : Int).toNat * 9 + 4, none⟩ = false := hfr10 4; have hf10_5 : w24.frozen? ⟨go5, (x5_1 : Int).toNat * 9 + 5, none⟩ = false := hfr10 5; have hf10_6 : w24.frozen? ⟨go5, (x5_1 : Int).toNat * 9 + 6, none⟩ = false := hfr10 6; have hf10_7 : w24.frozen? ⟨go5, (x5_1 : Int).toNat * 9 + 7, none⟩ = false := hfr10 7; have hf10_8 : w24.frozen? ⟨go5, (x5_1 : Int).toNat * 9 + 8, none⟩ = false := hfr10 8; clear hcl10 hcc10 hfr10 hM10; replace p10 := eq_true p10; replace q10 := eq_true q10; have HX25 := am (show Kd.S k29 29 w24 w0.heap.size (fun k_ => ((fun k_ => P0_ k_)) k_ ∧ ¬ ((fun _ => False)) k_) (.slice (some ⟨go5, 0, none⟩) x0_1.length co14) y197 from u6_3); obtain ⟨oki25, ce25, hcl25, hM25, hcc25, hfr25, hoki25, hH25⟩ := Kd.S_elem HX25.out z29 (x5_1 : Int) (of_decide_eq_true Q1) (by have h_ : (x5_1 : Int) < ((x0_1.length : Int) : Int) := of_decide_eq_true Q1; first | exact h_ | (have e_ := (Kd.S_reads' HO_0.out).1; omega) | simpa using h_); obtain ⟨ve25_8, rfl, ge25_8⟩ := k29_openM hM25; have HP25 := Kd.S_seg hH25 (of_decide_eq_true Q1) (by have h_ : (x5_1 : Int) < ((x0_1.length : Int) : Int) := of_decide_eq_true Q1; first | exact h_ | (have e_ := (Kd.S_reads' HO_0.out).1; omega) | simpa using h_) (seg := [.int .i64 (wrap64 ((wrap64 ((wrap64 ((wrap64 ((wrap64 (x1_1 + 1)) + 1)) + 1)) + 1)) + 1))]) (j := 5) (show 6 ≤ 9 from by decide) (x' := (⟨(rd_T29 y197 x5_1).f0, (rd_T29 y197 x5_1).f1, (rd_T29 y197 x5_1).f2, (rd_T29 y197 x5_1).f3, (rd_T29 y197 x5_1).f4, wrap64 ((wrap64 ((wrap64 ((wrap64 ((wrap64 (x1_1 + 1)) + 1)) + 1)) + 1)) + 1), (rd_T29 y197 x5_1).f6, (rd_T29 y197 x5_1).f7, (rd_T29 y197 x5_1).f8⟩ : S29)) (k29_mkM _ _ _ (⟨(rd_T29 y197 x5_1).f0, (rd_T29 y197 x5_1).f1, (rd_T29 y197 x5_1).f2, (rd_T29 y197 x5_1).f3, (rd_T29 y197 x5_1).f4, wrap64 ((wrap64 ((wrap64 ((wrap64 ((wrap64 (x1_1 + 1)) + 1)) + 1)) + 1)) + 1), (rd_T29 y197 x5_1).f6, (rd_T29 y197 x5_1).f7, (rd_T29 y197 x5_1).f8⟩ : S29) (Kd.R_mono ge25_8 (fun _ h_ => Or.inl h_))) (fun _ hk => hk) (fun k_ hk_ => hk_.elim); have hx25_5 := hcc25 5 _ rfl; (try simp only [show (k29).sz = 9 from rfl, Nat.mul_one, Nat.add_zero] at hx25_5); have hf25_5 := hfr25 5; (try simp only [show (k29).sz = 9 from rfl, Nat.mul_one, Nat.add_zero] at hf25_5); clear hcl25 hcc25 hfr25 hM25 hoki25 hH25) | ((with_reducible refine gate_store (t := 3) (p := 51) rfl ?_); refine store_event (t := 3) (p := 51) (v := ?vo_w26) (w1 := (w24.setCell ⟨go5, (x5_1 : Int).toNat * 9 + 5, none⟩ (.int .i64 (wrap64 ((wrap64 ((wrap64 ((wrap64 ((wrap64 (x1_1 + 1)) + 1)) + 1)) + 1)) + 1))))) ?hg ?ho ?hn ?hr ?_; (case ho => rfl); (case hg => rfl); (case hn => rfl); (case hr => first | (go_simp; done) | (go_simp; rfl)); intro w26 hw; have hg : w24.grownBy w26 (some go5) := (by rw [hw]; exact HP25.2); have hp_ : Kd.S k29 29 w26 w0.heap.size (fun k_ => P0_ k_) (.slice (some ⟨go5, 0, none⟩) x0_1.length co14) y198 := (by rw [hw, Ny198.out]; exact HP25.1); clear HP25; replace HO_0 := am (hp_); replace HB := am ((by rw [hw]; exact below_set (HB.out) GB5.out : Below w0.heap.size w0 w26)); replace HK := am (Kept.of_grown (S := (fun k_ => PK_ k_)) hg Q5 (fun k_ e_ => .inl (HPK.out k_ e_))); clear hg hw hp_; have p11 : 0 ≤ (x5_1 : Int) := of_decide_eq_true Q1; have q11 : (x5_1 : Int) < ((x0_1.length : Int) : Int) := of_decide_eq_true Q1; obtain ⟨_, ce11, hcl11, hM11, hcc11, hfr11, _, _⟩ := Kd.S_elem HO_0.out z29 (x5_1 : Int) p11 q11; obtain ⟨ve11_8, rfl, ge11_8⟩ := k29_openM hM11; have hx11_0 : w26.cell? ⟨go5, (x5_1 : Int).toNat * 9, none⟩ = some (.int .i64 ((rd_T29 y198 x5_1).f0)) := hcc11 0 _ rfl; have hx11_1 : w26.cell? ⟨go5, (x5_1 : Int).toNat * 9 + 1, none⟩ = some (.int .i64 ((rd_T29 y198 x5_1).f1)) := hcc11 1 _ rfl; have hx11_2 : w26.cell? ⟨go5, (x5_1 : Int).toNat * 9 + 2, none⟩ = some (.int .i64 ((rd_T29 y198 x5_1).f2)) := hcc11 2 _ rfl; have hx11_3 : w26.cell? ⟨go5, (x5_1 : Int).toNat * 9 + 3, none⟩ = some (.int .i64 ((rd_T29 y198 x5_1).f3)) := hcc11 3 _ rfl; have hx11_4 : w26.cell? ⟨go5, (x5_1 : Int).toNat * 9 + 4, none⟩ = some (.int .i64 ((rd_T29 y198 x5_1).f4)) := hcc11 4 _ rfl; have hx11_5 : w26.cell? ⟨go5, (x5_1 : Int).toNat * 9 + 5, none⟩ = some (.int .i64 ((rd_T29 y198 x5_1).f5)) := hcc11 5 _ rfl; have hx11_6 : w26.cell? ⟨go5, (x5_1 : Int).toNat * 9 + 6, none⟩ = some (.int .i64 ((rd_T29 y198 x5_1).f6)) := hcc11 6 _ rfl; have hx11_7 : w26.cell? ⟨go5, (x5_1 : Int).toNat * 9 + 7, none⟩ = some (.bool ((rd_T29 y198 x5_1).f7)) := hcc11 7 _ rfl; have hx11_8 : w26.cell? ⟨go5, (x5_1 : Int).toNat * 9 + 8, none⟩ = some (ve11_8) := hcc11 8 _ rfl; have hf11_0 : w26.frozen? ⟨go5, (x5_1 : Int).toNat * 9, none⟩ = false := hfr11 0; have hf11_1 : w26.frozen? ⟨go5, (x5_1 : Int).toNat * 9 + 1, none⟩ = false := hfr11 1; have hf11_2 : w26.frozen? ⟨go5, (x5_1 : Int).toNat * 9 + 2, none⟩ = false := hfr11 2; have hf11_3 : w26.frozen? ⟨go5, (x5_1 : Int).toNat * 9 + 3, none⟩ = false := hfr11 3; have hf11_4 : w26.frozen? ⟨go5, (x5_1 : Int).toNat * 9 + 4, none⟩ = false := hfr11 4; have hf11_5 : w26.frozen? ⟨go5, (x5_1 : Int).toNat * 9 + 5, none⟩ = false := hfr11 5; have hf11_6 : w26.frozen? ⟨go5, (x5_1 : Int).toNat * 9 + 6, none⟩ = false := hfr11 6; have hf11_7 : w26.frozen? ⟨go5, (x5_1 : Int).toNat * 9 + 7, none⟩ = false := hfr11 7; have hf11_8 : w26.frozen? ⟨go5, (x5_1 : Int).toNat * 9 + 8, none⟩ = false := hfr11 8; clear hcl11 hcc11 hfr11 hM11; replace p11 := eq_true p11; replace q11 := eq_true q11; have HX27 := am (show Kd.S k29 29 w26 w0.heap.size (fun k_ => ((fun k_ => P0_ k_)) k_ ∧ ¬ ((fun _ => False)) k_) (.slice (some ⟨go5, 0, none⟩) x0_1.length co14) y198 from u6_3); obtain ⟨oki27, ce27, hcl27, hM27, hcc27, hfr27, hoki27, hH27⟩ := Kd.S_elem HX27.out z29 (x5_1 : Int) (of_decide_eq_true Q1) (by have h_ : (x5_1 : Int) < ((x0_1.length : Int) : Int) := of_decide_eq_true Q1; first | exact h_ | (have e_ := (Kd.S_reads' HO_0.out).1; omega) | simpa using h_); obtain ⟨ve27_8, rfl, ge27_8⟩ := k29_openM hM27; have HP27 := Kd.S_seg hH27 (of_decide_eq_true Q1) (by have h_ : (x5_1 : Int) < ((x0_1.length : Int) : Int) := of_decide_eq_true Q1; first | exact h_ | (have e_ := (Kd.S_reads' HO_0.out).1; omega) | simpa using h_) (seg := [.int .i64 (wrap64 ((wrap64 ((wrap64 ((wrap64 ((wrap64 ((wrap64 (x1_1 + 1)) + 1)) + 1)) + 1)) + 1)) + 1))]) (j := 6) (show 7 ≤ 9 from by decide) (x' := (⟨(rd_T29 y198 x5_1).f0, (rd_T29 y198 x5_1).f1, (rd_T29 y198 x5_1).f2, (rd_T29 y198 x5_1).f3, (rd_T29 y198 x5_1).f4, (rd_T29 y198 x5_1).f5, wrap64 ((wrap64 ((wrap64 ((wrap64 ((wrap64 ((wrap64 (x1_1 + 1)) + 1)) + 1)) + 1)) + 1)) + 1), (rd_T29 y198 x5_1).f7, (rd_T29 y198 x5_1).f8⟩ : S29)) (k29_mkM _ _ _ (⟨(rd_T29 y198 x5_1).f0, (rd_T29 y198 x5_1).f1, (rd_T29 y198 x5_1).f2, (rd_T29 y198 x5_1).f3, (rd_T29 y198 x5_1).f4, (rd_T29 y198 x5_1).f5, wrap64 ((wrap64 ((wrap64 ((wrap64 ((wrap64 ((wrap64 (x1_1 + 1)) + 1)) + 1)) + 1)) + 1)) + 1), (rd_T29 y198 x5_1).f7, (rd_T29 y198 x5_1).f8⟩ : S29) (Kd.R_mono ge27_8 (fun _ h_ => Or.inl h_))) (fun _ hk => hk) (fun k_ hk_ => hk_.elim); have hx27_6 := hcc27 6 _ rfl; (try simp only [show (k29).sz = 9 from rfl, Nat.mul_one, Nat.add_zero] at hx27_6); have hf27_6 := hfr27 6; (try simp only [show (k29).sz = 9 from rfl, Nat.mul_one, Nat.add_zero] at hf27_6); clear hcl27 hcc27 hfr27 hM27 hoki27 hH27) | ((with_reducible refine gate_store (t := 3) (p := 58) rfl ?_); refine store_event (t := 3) (p := 58) (v := ?vo_w28) (w1 := (w26.setCell ⟨go5, (x5_1 : Int).toNat * 9 + 6, none⟩ (.int .i64 (wrap64 ((wrap64 ((wrap64 ((wrap64 ((wrap64 ((wrap64 (x1_1 + 1)) + 1)) + 1)) + 1)) + 1)) + 1))))) ?hg ?ho ?hn ?hr ?_; (case ho => rfl); (case hg => rfl); (case hn => rfl); (case hr => first | (go_simp; done) | (go_simp; rfl)); intro w28 hw; have hg : w26.grownBy w28 (some go5) := (by rw [hw]; exact HP27.2); have hp_ : Kd.S k29 29 w28 w0.heap.size (fun k_ => P0_ k_) (.slice (some ⟨go5, 0, none⟩) x0_1.length co14) y199 := (by rw [hw, Ny199.out]; exact HP27.1); clear HP27; replace HO_0 := am (hp_); replace HB := am ((by rw [hw]; exact below_set (HB.out) GB5.out : Below w0.heap.size w0 w28)); replace HK := am (Kept.of_grown (S := (fun k_ => PK_ k_)) hg Q5 (fun k_ e_ => .inl (HPK.out k_ e_))); clear hg hw hp_; have p12 : 0 ≤ (x5_1 : Int) := of_decide_eq_true Q1; have q12 : (x5_1 : Int) < ((x0_1.length : Int) : Int) := of_decide_eq_true Q1; obtain ⟨_, ce12, hcl12, hM12, hcc12, hfr12, _, _⟩ := Kd.S_elem HO_0.out z29 (x5_1 : Int) p12 q12; obtain ⟨ve12_8, rfl, ge12_8⟩ := k29_openM hM12; have hx12_0 : w28.cell? ⟨go5, (x5_1 : Int).toNat * 9, none⟩ = some (.int .i64 ((rd_T29 y199 x5_1).f0)) := hcc12 0 _ rfl; have hx12_1 : w28.cell? ⟨go5, (x5_1 : Int).toNat * 9 + 1, none⟩ = some (.int .i64 ((rd_T29 y199 x5_1).f1)) := hcc12 1 _ rfl; have hx12_2 : w28.cell? ⟨go5, (x5_1 : Int).toNat * 9 + 2, none⟩ = some (.int .i64 ((rd_T29 y199 x5_1).f2)) := hcc12 2 _ rfl; have hx12_3 : w28.cell? ⟨go5, (x5_1 : Int).toNat * 9 + 3, none⟩ = some (.int .i64 ((rd_T29 y199 x5_1).f3)) := hcc12 3 _ rfl; have hx12_4 : w28.cell? ⟨go5, (x5_1 : Int).toNat * 9 + 4, none⟩ = some (.int .i64 ((rd_T29 y199 x5_1).f4)) := hcc12 4 _ rfl; have hx12_5 : w28.cell? ⟨go5, (x5_1 : Int).toNat * 9 + 5, none⟩ = some (.int .i64 ((rd_T29 y199 x5_1).f5)) := hcc12 5 _ rfl; have hx12_6 : w28.cell? ⟨go5, (x5_1 : Int).toNat * 9 + 6, none⟩ = some (.int .i64 ((rd_T29 y199 x5_1).f6)) := hcc12 6 _ rfl; have hx12_7 : w28.cell? ⟨go5, (x5_1 : Int).toNat * 9 + 7, none⟩ = some (.bool ((rd_T29 y199 x5_1).f7)) := hcc12 7 _ rfl; have hx12_8 : w28.cell? ⟨go5, (x5_1 : Int).toNat * 9 + 8, none⟩ = some (ve12_8) := hcc12 8 _ rfl; have hf12_0 : w28.frozen? ⟨go5, (x5_1 : Int).toNat * 9, none⟩ = false := hfr12 0; have hf12_1 : w28.frozen? ⟨go5, (x5_1 : Int).toNat * 9 + 1, none⟩ = false := hfr12 1; have hf12_2 : w28.frozen? ⟨go5, (x5_1 : Int).toNat * 9 + 2, none⟩ = false := hfr12 2; have hf12_3 : w28.frozen? ⟨go5, (x5_1 : Int).toNat * 9 + 3, none⟩ = false := hfr12 3; have hf12_4 : w28.frozen? ⟨go5, (x5_1 : Int).toNat * 9 + 4, none⟩ = false := hfr12 4; have hf12_5 : w28.frozen? ⟨go5, (x5_1 : Int).toNat * 9 + 5, none⟩ = false := hfr12 5; have hf12_6 : w28.frozen? ⟨go5, (x5_1 : Int).toNat * 9 + 6, none⟩ = false := hfr12 6; have hf12_7 : w28.frozen? ⟨go5, (x5_1 : Int).toNat * 9 + 7, none⟩ = false := hfr12 7; have hf12_8 : w28.frozen? ⟨go5, (x5_1 : Int).toNat * 9 + 8, none⟩ = false := hfr12 8; clear hcl12 hcc12 hfr12 hM12; replace p12 := eq_true p12; replace q12 := eq_true q12; have HX29 := am (show Kd.S k29 29 w28 w0.heap.size (fun k_ => ((fun k_ => P0_ k_)) k_ ∧ ¬ ((fun _ => False)) k_) (.slice (some ⟨go5, 0, none⟩) x0_1.length co14) y199 from u6_3); obtain ⟨oki29, ce29, hcl29, hM29, hcc29, hfr29, hoki29, hH29⟩ := Kd.S_elem HX29.out z29 (x5_1 : Int) (of_decide_eq_true Q1) (by have h_ : (x5_1 : Int) < ((x0_1.length : Int) : Int) := of_decide_eq_true Q1; first | exact h_ | (have e_ := (Kd.S_reads' HO_0.out).1; omega) | simpa using h_); obtain ⟨ve29_8, rfl, ge29_8⟩ := k29_openM hM29; have HP29 := Kd.S_seg hH29 (of_decide_eq_true Q1) (by have h_ : (x5_1 : Int) < ((x0_1.length : Int) : Int) := of_decide_eq_true Q1; first | exact h_ | (have e_ := (Kd.S_reads' HO_0.out).1; omega) | simpa using h_) (seg := [.bool ((Int.tmod (wrap64 ((wrap64 ((wrap64 ((wrap64 ((wrap64 ((wrap64 ((wrap64 (x1_1 + 1)) + 1)) + 1)) + 1)) + 1)) + 1)) + 1)) 3) == 0)]) (j := 7) (show 8 ≤ 9 from by decide) (x' := (⟨(rd_T29 y199 x5_1).f0, (rd_T29 y199 x5_1).f1, (rd_T29 y199 x5_1).f2, (rd_T29 y199 x5_1).f3, (rd_T29 y199 x5_1).f4, (rd_T29 y199 x5_1).f5, (rd_T29 y199 x5_1).f6, ((Int.tmod (wrap64 ((wrap64 ((wrap64 ((wrap64 ((wrap64 ((wrap64 ((wrap64 (x1_1 + 1)) + 1)) + 1)) + 1)) + 1)) + 1)) + 1)) 3) == 0), (rd_T29 y199 x5_1).f8⟩ : S29)) (k29_mkM _ _ _ (⟨(rd_T29 y199 x5_1).f0, (rd_T29 y199 x5_1).f1, (rd_T29 y199 x5_1).f2, (rd_T29 y199 x5_1).f3, (rd_T29 y199 x5_1).f4, (rd_T29 y199 x5_1).f5, (rd_T29 y199 x5_1).f6, ((Int.tmod (wrap64 ((wrap64 ((wrap64 ((wrap64 ((wrap64 ((wrap64 ((wrap64 (x1_1 + 1)) + 1)) + 1)) + 1)) + 1)) + 1)) + 1)) 3) == 0), (rd_T29 y199 x5_1).f8⟩ : S29) (Kd.R_mono ge29_8 (fun _ h_ => Or.inl h_))) (fun _ hk => hk) (fun k_ hk_ => hk_.elim); have hx29_7 := hcc29 7 _ rfl; (try simp only [show (k29).sz = 9 from rfl, Nat.mul_one, Nat.add_zero] at hx29_7); have hf29_7 := hfr29 7; (try simp only [show (k29).sz = 9 from rfl, Nat.mul_one, Nat.add_zero] at hf29_7); clear hcl29 hcc29 hfr29 hM29 hoki29 hH29) | ((with_reducible refine gate_store (t := 4) (p := 67) rfl ?_); refine store_event (t := 4) (p := 67) (v := ?vo_w30) (w1 := (w28.setCell ⟨go5, (x5_1 : Int).toNat * 9 + 7, none⟩ (.bool ((Int.tmod (wrap64 ((wrap64 ((wrap64 ((wrap64 ((wrap64 ((wrap64 ((wrap64 (x1_1 + 1)) + 1)) + 1)) + 1)) + 1)) + 1)) + 1)) 3) == 0)))) ?hg ?ho ?hn ?hr ?_; (case ho => rfl); (case hg => rfl); (case hn => rfl); (case hr => first | (go_simp; done) | (go_simp; rfl)); intro w30 hw; have hg : w28.grownBy w30 (some go5) := (by rw [hw]; exact HP29.2); have hp_ : Kd.S k29 29 w30 w0.heap.size (fun k_ => P0_ k_) (.slice (some ⟨go5, 0, none⟩) x0_1.length co14) y200 := (by rw [hw, Ny200.out]; exact HP29.1); clear HP29; replace HO_0 := am (hp_); replace HB := am ((by rw [hw]; exact below_set (HB.out) GB5.out : Below w0.heap.size w0 w30)); replace HK := am (Kept.of_grown (S := (fun k_ => PK_ k_)) hg Q5 (fun k_ e_ => .inl (HPK.out k_ e_))); clear hg hw hp_; have p201 : 0 ≤ (x5_1 : Int) := of_decide_eq_true Q1; have q201 : x5_1 < (y200.length : Int) := (by have h_ : (x5_1 : Int) < ((x0_1.length : Int) : Int) := of_decide_eq_true Q1; first | (have e_ := (Kd.S_reads' HO_0.out).1; omega) | simpa only [Ny193.out, Ny194.out, Ny195.out, Ny196.out, Ny197.out, Ny198.out, Ny199.out, Ny200.out, List.length_set] using h_); have ql201 : ((x5_1 : Int) < ((x0_1.length : Int) : Int)) = True := eq_true (of_decide_eq_true Q1); obtain ⟨ad201, A201_8, c201_8, e201, hx201_0, hx201_1, hx201_2, hx201_3, hx201_4, hx201_5, hx201_6, hx201_7, hx201_8, hl201_8, hi201_8⟩ := at_T29 (Kd.S_reads' HO_0.out).2.2 x5_1 p201 q201; obtain rfl : (⟨go5, 0, none⟩ : Addr) = ad201 := (by injection e201); obtain ⟨ce201, hce201, hMe201, hcc201⟩ := Kd.S_get HO_0.out z29 x5_1 p201 (by first | exact q201 | exact of_decide_eq_true Q1 | (have e_ := (Kd.S_reads' HO_0.out).1; omega)); obtain ⟨ve201_8, rfl, ge201_8⟩ := k29_openM hMe201; have hv201_8 := hcc201 8 _ rfl; rw [add_field _ _ 8 (by omega)] at hv201_8; replace hv201_8 := Option.some.inj (hv201_8.symm.trans hx201_8); rw [hv201_8] at ge201_8; have HL201_8 := am (show Kd.R k85 85 _ _ _ _ ((rd_T29 y200 x5_1).f8) from ge201_8); clear hv201_8 ge201_8; clear hcc201 hce201; (first | simp only [add_plain] at hx201_0 | simp only [add_at] at hx201_0 | simp only [Addr.add, Nat.zero_add] at hx201_0 | skip); (first | simp only [add_plain] at hx201_1 | simp only [add_at] at hx201_1 | simp only [Addr.add, Nat.zero_add] at hx201_1 | skip); (first | simp only [add_plain] at hx201_2 | simp only [add_at] at hx201_2 | simp only [Addr.add, Nat.zero_add] at hx201_2 | skip); (first | simp only [add_plain] at hx201_3 | simp only [add_at] at hx201_3 | simp only [Addr.add, Nat.zero_add] at hx201_3 | skip); (first | simp only [add_plain] at hx201_4 | simp only [add_at] at hx201_4 | simp only [Addr.add, Nat.zero_add] at hx201_4 | skip); (first | simp only [add_plain] at hx201_5 | simp only [add_at] at hx201_5 | simp only [Addr.add, Nat.zero_add] at hx201_5 | skip); (first | simp only [add_plain] at hx201_6 | simp only [add_at] at hx201_6 | simp only [Addr.add, Nat.zero_add] at hx201_6 | skip); (first | simp only [add_plain] at hx201_7 | simp only [add_at] at hx201_7 | simp only [Addr.add, Nat.zero_add] at hx201_7 | skip); (first | simp only [add_plain] at hx201_8 | simp only [add_at] at hx201_8 | simp only [Addr.add, Nat.zero_add] at hx201_8 | skip); have HR201_8 := am hi201_8; have HC201_8 := am hl201_8; clear hi201_8 hl201_8; replace p201 := eq_true p201; replace q201 := eq_true q201) | ((with_reducible refine gate_callee (f := 59) rfl ?_); refine goesL_ (some 76) rfl rfl Try.func59 kr rfl #[.slice A201_8 ((rd_T29 y200 x5_1).f8).length c201_8, .int .i64 (wrap64 ((wrap64 ((wrap64 ((wrap64 ((wrap64 ((wrap64 ((wrap64 ((wrap64 (x1_1 + 1)) + 1)) + 1)) + 1)) + 1)) + 1)) + 1)) + 1))] rfl Q3 ?_; (with_reducible refine (laws_markEntry0.calls _ _ ((rd_T29 y200 x5_1).f8) (wrap64 ((wrap64 ((wrap64 ((wrap64 ((wrap64 ((wrap64 ((wrap64 ((wrap64 (x1_1 + 1)) + 1)) + 1)) + 1)) + 1)) + 1)) + 1)) + 1)) t202 _ ?side1 ?side2 A13.out).mono ?_); (case side1 => exact (by repeat (first | exact u6_7 | (with_reducible refine Kd.C_alloc ?_ _) | (with_reducible refine Kd.C_drewN ?_ _) | (with_reducible refine Kd.C_drew ?_)))); (case side2 => exact HC201_8.out); rintro e w31 ⟨rfl, hb⟩; refine ⟨_, rfl, ?_⟩; replace HO_0 := am (Kd.S_below u6_6 hb); replace HL201_8 := am (Kd.R_below (by (with_reducible repeat (first | apply Kd.R_alloc | apply Kd.R_drewN | apply Kd.R_drew)); exact HL201_8.out) hb); replace HR201_8 := am (Kd.C_below u6_7 hb); replace HK := am (Kept.below (S := (fun k_ => PK_ k_)) Q5 hb); replace HB := am (below_step Q0 hb); (try clear hb); (try clear hb2); (try clear hk); (try clear hi)))
   go_roundg k1
   case measure => have := HK1.out; omega
   case rel => exact ⟨(y200), (t202), (wrap64 (x5_1 + 1)), Q2, Q2, H', ⟨by have := HK1.out; omega⟩, ⟨u6_6⟩, ⟨Q5⟩, ⟨Q0⟩⟩
theorem laws_markMsgS.calls (k : Nat) (P0_ : Nat → Prop) (u9000_ : Value) (l0 : List (S29)) (a1 : Int) (r1 : Int) (r2 : List (S29)) (w0 w : World) (hB : Below w0.heap.size w0 w) (ho0 : Kd.S k29 29 w w0.heap.size P0_ u9000_ l0) (h : laws_markMsgS.f k l0 a1 = some (r1, r2)) :
   Calls Try.prog 41 #[u9000_, .int .i64 a1] w fun e w' => e = .returned (.int .i64 r1) ∧ Kd.S k29 29 w' w0.heap.size (fun k_ => P0_ k_) u9000_ r2 ∧ Below w0.heap.size w0 w' ∧ Kept w w' (fun k_ => some k_ = (u9000_ : Value).ownBlock) :=
 laws_markMsgS.calls0 _ k P0_ u9000_ l0 a1 r1 r2 w0 w hB ho0 (fun k_ e_ => e_.symm) h


/-! ### laws_heldMsgS: function 42 -/
def laws_heldMsgS.l0 : Nat → List (S29) → Int → Int → Option (Int)
 | 0, _, _, _ => none
 | k + 1, x0, x1, x5 => if x5 < (x0.length : Int) then (if 0 ≤ x5 then (if ((rd_T29 x0 x5).f0) = x1 then (if ((rd_T29 x0 x5).f1) = (wrap64 (x1 + 1)) then (if ((rd_T29 x0 x5).f2) = (wrap64 ((wrap64 (x1 + 1)) + 1)) then (if ((rd_T29 x0 x5).f3) = (wrap64 ((wrap64 ((wrap64 (x1 + 1)) + 1)) + 1)) then (if ((rd_T29 x0 x5).f4) = (wrap64 ((wrap64 ((wrap64 ((wrap64 (x1 + 1)) + 1)) + 1)) + 1)) then (if ((rd_T29 x0 x5).f5) = (wrap64 ((wrap64 ((wrap64 ((wrap64 ((wrap64 (x1 + 1)) + 1)) + 1)) + 1)) + 1)) then (if ((rd_T29 x0 x5).f6) = (wrap64 ((wrap64 ((wrap64 ((wrap64 ((wrap64 ((wrap64 (x1 + 1)) + 1)) + 1)) + 1)) + 1)) + 1)) then (if (((rd_T29 x0 x5).f7) != ((Int.tmod (wrap64 ((wrap64 ((wrap64 ((wrap64 ((wrap64 ((wrap64 ((wrap64 (x1 + 1)) + 1)) + 1)) + 1)) + 1)) + 1)) + 1)) 3) == 0)) = true then (some (-1)) else ((laws_heldEntryS.f k ((rd_T29 x0 x5).f8) (wrap64 ((wrap64 ((wrap64 ((wrap64 ((wrap64 ((wrap64 ((wrap64 ((wrap64 (x1 + 1)) + 1)) + 1)) + 1)) + 1)) + 1)) + 1)) + 1))).bind fun t212 => (if t212 < 0 then (some (-1)) else (laws_heldMsgS.l0 k x0 t212 (wrap64 (x5 + 1)))))) else (some (-1))) else (some (-1))) else (some (-1))) else (some (-1))) else (some (-1))) else (some (-1))) else (some (-1))) else (none)) else (some x1)
def laws_heldMsgS.f (k : Nat) (l0 : List (S29)) (a1 : Int) : Option (Int) := laws_heldMsgS.l0 k l0 a1 0
theorem laws_heldMsgS.mono_l : ∀ k, (∀ y0 y1 y2, LeO (laws_heldMsgS.l0 k y0 y1 y2) (laws_heldMsgS.l0 (k + 1) y0 y1 y2))
 | 0 => fun _ _ _ r h => by simp [laws_heldMsgS.l0] at h
 | k + 1 => by
   have ih0 := laws_heldMsgS.mono_l k
   · intro y0 y1 y2
     unfold laws_heldMsgS.l0
     repeat' first
     | (with_reducible exact ih0 _ _ _)
     | (with_reducible exact laws_heldEntryS.mono _ _ _)
     | (with_reducible exact LeO.refl _)
     | (with_reducible exact LeO.none _)
     | (with_reducible refine LeO.ite ?_ ?_)
     | (with_reducible refine LeO.bind ?_ (fun _ => ?_))
     | exact ih0 _ _ _
     | exact laws_heldEntryS.mono _ _ _
     | exact LeO.none _
     | refine LeO.ite ?_ ?_
     | refine LeO.bind ?_ (fun _ => ?_)
theorem laws_heldMsgS.mono : ∀ a0 a1 k, LeO (laws_heldMsgS.f k a0 a1) (laws_heldMsgS.f (k + 1) a0 a1) := by
 intro a0 a1 k
 have ih0 := laws_heldMsgS.mono_l k
 unfold laws_heldMsgS.f
 repeat' first
     | (with_reducible exact ih0 _ _ _)
     | (with_reducible exact laws_heldEntryS.mono _ _ _)
     | (with_reducible exact LeO.refl _)
     | (with_reducible exact LeO.none _)
     | (with_reducible refine LeO.ite ?_ ?_)
     | (with_reducible refine LeO.bind ?_ (fun _ => ?_))
     | exact ih0 _ _ _
     | exact laws_heldEntryS.mono _ _ _
     | exact LeO.none _
     | refine LeO.ite ?_ ?_
     | refine LeO.bind ?_ (fun _ => ?_)
set_option maxHeartbeats 8000000 in
set_option maxRecDepth 100000 in
theorem laws_heldMsgS.calls (k : Nat) (A0 : Option Addr) (c0 : Nat) (l0 : List (S29)) (a1 : Int) (r : Int) (w : World) (hr0 : Kd.C k29 w A0 l0.length l0) (hc0 : l0.length ≤ c0) (h : laws_heldMsgS.f k l0 a1 = some r) :
   Calls Try.prog 42 #[.slice A0 l0.length c0, .int .i64 a1] w fun e w' => e = .returned (.int .i64 r) ∧ Below w.heap.size w w' := by
 have HR0 := am hr0
 have HC0 := am hc0
 clear hr0 hc0
 have HB := am (Below.refl w.heap.size w)
 have H : (laws_heldMsgS.l0 k l0 a1 0) = some r := h
 clear h
 have H' := am H
 clear H
 go_enter Try.func42, Try.ntmps42
 go_wp2
 go_loopg [1, 5] k (fun kq v1 v5 w' => ∃ (x1_1 : Int) (x5_1 : Int), v1 = .int .i64 x1_1 ∧ v5 = .int .i64 x5_1 ∧ Aside0 (laws_heldMsgS.l0 kq l0 x1_1 x5_1 = some r) ∧ Aside0 (kq ≤ k) ∧ Aside0 (Below w.heap.size w w'))
 case atStart => exact ⟨(a1), (0), Q2, Q2, H', ⟨Nat.le_refl _⟩, ⟨Q0⟩⟩
 clear H'
 obtain ⟨x1_1, x5_1, rfl, rfl, HA, HK1, HB⟩ := hrel
 cases gk with
 | zero => exact absurd HA.out (by simp [laws_heldMsgS.l0])
 | succ k1 =>
   have H := HA.out
   clear HA
   simp only [laws_heldMsgS.l0] at H
   by_cases c3 : x5_1 < (l0.length : Int)
   rotate_left
   · rw [if_neg c3] at H
     have c3b0 : decide (x5_1 < (l0.length : Int)) = false := decide_eq_false c3
     clear c3
     obtain rfl := sj H
     go_wp2
     go_ret
     exact ⟨er, Q0⟩
   rw [if_pos c3] at H
   have c3b0 : decide (x5_1 < (l0.length : Int)) = true := decide_eq_true c3
   clear c3
   by_cases c4 : 0 ≤ x5_1
   rotate_left
   · rw [if_neg c4] at H
     exact absurd H (by simp)
   rw [if_pos c4] at H
   have c4b0 : decide (0 ≤ x5_1) = true := decide_eq_true c4
   clear c4
   have H9 := am H
   clear H
   have p203 : 0 ≤ (x5_1 : Int) := of_decide_eq_true Q1
   have q203 : x5_1 < (l0.length : Int) := of_decide_eq_true Q1
   obtain ⟨ad203, A203_8, c203_8, e203, hx203_0, hx203_1, hx203_2, hx203_3, hx203_4, hx203_5, hx203_6, hx203_7, hx203_8, hl203_8, hi203_8⟩ := at_T29 HR0.out x5_1 p203 q203
   cases e203
   replace hx203_0 := cm HB.out hx203_0
   replace hx203_1 := cm HB.out hx203_1
   replace hx203_2 := cm HB.out hx203_2
   replace hx203_3 := cm HB.out hx203_3
   replace hx203_4 := cm HB.out hx203_4
   replace hx203_5 := cm HB.out hx203_5
   replace hx203_6 := cm HB.out hx203_6
   replace hx203_7 := cm HB.out hx203_7
   replace hx203_8 := cm HB.out hx203_8
   have HR203_8 := am hi203_8
   have HC203_8 := am hl203_8
   clear hi203_8 hl203_8
   replace p203 := eq_true p203
   replace q203 := eq_true q203
   go_upto_if 18 with (fail)
   have H := H9.out
   clear H9
   by_cases c5 : ((rd_T29 l0 x5_1).f0) = x1_1
   rotate_left
   · rw [if_neg c5] at H
     have c5b0 : (((rd_T29 l0 x5_1).f0) == x1_1) = false := beq_eq_false_iff_ne.mpr c5
     have c5b1 : (((rd_T29 l0 x5_1).f0) != x1_1) = true := bne_iff_ne.mpr c5
     (first | rw [c5b0] | (simp only [i64_w, i32_w]; rw [c5b0]) | skip)
     obtain rfl := sj H
     go_wp2
     go_ret
     exact ⟨er, Q0⟩
   rw [if_pos c5] at H
   have c5b0 : (((rd_T29 l0 x5_1).f0) == x1_1) = true := beq_iff_eq.mpr c5
   have c5b1 : (((rd_T29 l0 x5_1).f0) != x1_1) = false := bne_eq_false_iff_eq.mpr c5
   clear c5
   (first | rw [c5b0] | (simp only [i64_w, i32_w]; rw [c5b0]) | skip)
   have H9 := am H
   clear H
   have p204 : 0 ≤ (x5_1 : Int) := of_decide_eq_true Q1
   have q204 : x5_1 < (l0.length : Int) := of_decide_eq_true Q1
   obtain ⟨ad204, A204_8, c204_8, e204, hx204_0, hx204_1, hx204_2, hx204_3, hx204_4, hx204_5, hx204_6, hx204_7, hx204_8, hl204_8, hi204_8⟩ := at_T29 HR0.out x5_1 p204 q204
   (try clear hx203_8)
   obtain rfl : ad203 = ad204 := (by injection e204)
   replace hx204_0 := cm HB.out hx204_0
   replace hx204_1 := cm HB.out hx204_1
   replace hx204_2 := cm HB.out hx204_2
   replace hx204_3 := cm HB.out hx204_3
   replace hx204_4 := cm HB.out hx204_4
   replace hx204_5 := cm HB.out hx204_5
   replace hx204_6 := cm HB.out hx204_6
   replace hx204_7 := cm HB.out hx204_7
   replace hx204_8 := cm HB.out hx204_8
   have HR204_8 := am hi204_8
   have HC204_8 := am hl204_8
   clear hi204_8 hl204_8
   replace p204 := eq_true p204
   replace q204 := eq_true q204
   go_upto_if 27 with (fail)
   have H := H9.out
   clear H9
   by_cases c6 : ((rd_T29 l0 x5_1).f1) = (wrap64 (x1_1 + 1))
   rotate_left
   · rw [if_neg c6] at H
     have c6b0 : (((rd_T29 l0 x5_1).f1) == (wrap64 (x1_1 + 1))) = false := beq_eq_false_iff_ne.mpr c6
     have c6b1 : (((rd_T29 l0 x5_1).f1) != (wrap64 (x1_1 + 1))) = true := bne_iff_ne.mpr c6
     (first | rw [c6b0] | (simp only [i64_w, i32_w]; rw [c6b0]) | skip)
     obtain rfl := sj H
     go_wp2
     go_ret
     exact ⟨er, Q0⟩
   rw [if_pos c6] at H
   have c6b0 : (((rd_T29 l0 x5_1).f1) == (wrap64 (x1_1 + 1))) = true := beq_iff_eq.mpr c6
   have c6b1 : (((rd_T29 l0 x5_1).f1) != (wrap64 (x1_1 + 1))) = false := bne_eq_false_iff_eq.mpr c6
   clear c6
   (first | rw [c6b0] | (simp only [i64_w, i32_w]; rw [c6b0]) | skip)
   have H9 := am H
   clear H
   have p205 : 0 ≤ (x5_1 : Int) := of_decide_eq_true Q1
   have q205 : x5_1 < (l0.length : Int) := of_decide_eq_true Q1
   obtain ⟨ad205, A205_8, c205_8, e205, hx205_0, hx205_1, hx205_2, hx205_3, hx205_4, hx205_5, hx205_6, hx205_7, hx205_8, hl205_8, hi205_8⟩ := at_T29 HR0.out x5_1 p205 q205
   (try clear hx204_8)
   obtain rfl : ad203 = ad205 := (by injection e205)
   replace hx205_0 := cm HB.out hx205_0
   replace hx205_1 := cm HB.out hx205_1
   replace hx205_2 := cm HB.out hx205_2
   replace hx205_3 := cm HB.out hx205_3
   replace hx205_4 := cm HB.out hx205_4
   replace hx205_5 := cm HB.out hx205_5
   replace hx205_6 := cm HB.out hx205_6
   replace hx205_7 := cm HB.out hx205_7
   replace hx205_8 := cm HB.out hx205_8
   have HR205_8 := am hi205_8
   have HC205_8 := am hl205_8
   clear hi205_8 hl205_8
   replace p205 := eq_true p205
   replace q205 := eq_true q205
   go_upto_if 36 with (fail)
   have H := H9.out
   clear H9
   by_cases c7 : ((rd_T29 l0 x5_1).f2) = (wrap64 ((wrap64 (x1_1 + 1)) + 1))
   rotate_left
   · rw [if_neg c7] at H
     have c7b0 : (((rd_T29 l0 x5_1).f2) == (wrap64 ((wrap64 (x1_1 + 1)) + 1))) = false := beq_eq_false_iff_ne.mpr c7
     have c7b1 : (((rd_T29 l0 x5_1).f2) != (wrap64 ((wrap64 (x1_1 + 1)) + 1))) = true := bne_iff_ne.mpr c7
     (first | rw [c7b0] | (simp only [i64_w, i32_w]; rw [c7b0]) | skip)
     obtain rfl := sj H
     go_wp2
     go_ret
     exact ⟨er, Q0⟩
   rw [if_pos c7] at H
   have c7b0 : (((rd_T29 l0 x5_1).f2) == (wrap64 ((wrap64 (x1_1 + 1)) + 1))) = true := beq_iff_eq.mpr c7
   have c7b1 : (((rd_T29 l0 x5_1).f2) != (wrap64 ((wrap64 (x1_1 + 1)) + 1))) = false := bne_eq_false_iff_eq.mpr c7
   clear c7
   (first | rw [c7b0] | (simp only [i64_w, i32_w]; rw [c7b0]) | skip)
   have H9 := am H
   clear H
   have p206 : 0 ≤ (x5_1 : Int) := of_decide_eq_true Q1
   have q206 : x5_1 < (l0.length : Int) := of_decide_eq_true Q1
   obtain ⟨ad206, A206_8, c206_8, e206, hx206_0, hx206_1, hx206_2, hx206_3, hx206_4, hx206_5, hx206_6, hx206_7, hx206_8, hl206_8, hi206_8⟩ := at_T29 HR0.out x5_1 p206 q206
   (try clear hx205_8)
   obtain rfl : ad203 = ad206 := (by injection e206)
   replace hx206_0 := cm HB.out hx206_0
   replace hx206_1 := cm HB.out hx206_1
   replace hx206_2 := cm HB.out hx206_2
   replace hx206_3 := cm HB.out hx206_3
   replace hx206_4 := cm HB.out hx206_4
   replace hx206_5 := cm HB.out hx206_5
   replace hx206_6 := cm HB.out hx206_6
   replace hx206_7 := cm HB.out hx206_7
   replace hx206_8 := cm HB.out hx206_8
   have HR206_8 := am hi206_8
   have HC206_8 := am hl206_8
   clear hi206_8 hl206_8
   replace p206 := eq_true p206
   replace q206 := eq_true q206
   go_upto_if 45 with (fail)
   have H := H9.out
   clear H9
   by_cases c8 : ((rd_T29 l0 x5_1).f3) = (wrap64 ((wrap64 ((wrap64 (x1_1 + 1)) + 1)) + 1))
   rotate_left
   · rw [if_neg c8] at H
     have c8b0 : (((rd_T29 l0 x5_1).f3) == (wrap64 ((wrap64 ((wrap64 (x1_1 + 1)) + 1)) + 1))) = false := beq_eq_false_iff_ne.mpr c8
     have c8b1 : (((rd_T29 l0 x5_1).f3) != (wrap64 ((wrap64 ((wrap64 (x1_1 + 1)) + 1)) + 1))) = true := bne_iff_ne.mpr c8
     (first | rw [c8b0] | (simp only [i64_w, i32_w]; rw [c8b0]) | skip)
     obtain rfl := sj H
     go_wp2
     go_ret
     exact ⟨er, Q0⟩
   rw [if_pos c8] at H
   have c8b0 : (((rd_T29 l0 x5_1).f3) == (wrap64 ((wrap64 ((wrap64 (x1_1 + 1)) + 1)) + 1))) = true := beq_iff_eq.mpr c8
   have c8b1 : (((rd_T29 l0 x5_1).f3) != (wrap64 ((wrap64 ((wrap64 (x1_1 + 1)) + 1)) + 1))) = false := bne_eq_false_iff_eq.mpr c8
   clear c8
   (first | rw [c8b0] | (simp only [i64_w, i32_w]; rw [c8b0]) | skip)
   have H9 := am H
   clear H
   have p207 : 0 ≤ (x5_1 : Int) := of_decide_eq_true Q1
   have q207 : x5_1 < (l0.length : Int) := of_decide_eq_true Q1
   obtain ⟨ad207, A207_8, c207_8, e207, hx207_0, hx207_1, hx207_2, hx207_3, hx207_4, hx207_5, hx207_6, hx207_7, hx207_8, hl207_8, hi207_8⟩ := at_T29 HR0.out x5_1 p207 q207
   (try clear hx206_8)
   obtain rfl : ad203 = ad207 := (by injection e207)
   replace hx207_0 := cm HB.out hx207_0
   replace hx207_1 := cm HB.out hx207_1
   replace hx207_2 := cm HB.out hx207_2
   replace hx207_3 := cm HB.out hx207_3
   replace hx207_4 := cm HB.out hx207_4
   replace hx207_5 := cm HB.out hx207_5
   replace hx207_6 := cm HB.out hx207_6
   replace hx207_7 := cm HB.out hx207_7
   replace hx207_8 := cm HB.out hx207_8
   have HR207_8 := am hi207_8
   have HC207_8 := am hl207_8
   clear hi207_8 hl207_8
   replace p207 := eq_true p207
   replace q207 := eq_true q207
   go_upto_if 54 with (fail)
   have H := H9.out
   clear H9
   by_cases c9 : ((rd_T29 l0 x5_1).f4) = (wrap64 ((wrap64 ((wrap64 ((wrap64 (x1_1 + 1)) + 1)) + 1)) + 1))
   rotate_left
   · rw [if_neg c9] at H
     have c9b0 : (((rd_T29 l0 x5_1).f4) == (wrap64 ((wrap64 ((wrap64 ((wrap64 (x1_1 + 1)) + 1)) + 1)) + 1))) = false := beq_eq_false_iff_ne.mpr c9
     have c9b1 : (((rd_T29 l0 x5_1).f4) != (wrap64 ((wrap64 ((wrap64 ((wrap64 (x1_1 + 1)) + 1)) + 1)) + 1))) = true := bne_iff_ne.mpr c9
     (first | rw [c9b0] | (simp only [i64_w, i32_w]; rw [c9b0]) | skip)
     obtain rfl := sj H
     go_wp2
     go_ret
     exact ⟨er, Q0⟩
   rw [if_pos c9] at H
   have c9b0 : (((rd_T29 l0 x5_1).f4) == (wrap64 ((wrap64 ((wrap64 ((wrap64 (x1_1 + 1)) + 1)) + 1)) + 1))) = true := beq_iff_eq.mpr c9
   have c9b1 : (((rd_T29 l0 x5_1).f4) != (wrap64 ((wrap64 ((wrap64 ((wrap64 (x1_1 + 1)) + 1)) + 1)) + 1))) = false := bne_eq_false_iff_eq.mpr c9
   clear c9
   (first | rw [c9b0] | (simp only [i64_w, i32_w]; rw [c9b0]) | skip)
   have H9 := am H
   clear H
   have p208 : 0 ≤ (x5_1 : Int) := of_decide_eq_true Q1
   have q208 : x5_1 < (l0.length : Int) := of_decide_eq_true Q1
   obtain ⟨ad208, A208_8, c208_8, e208, hx208_0, hx208_1, hx208_2, hx208_3, hx208_4, hx208_5, hx208_6, hx208_7, hx208_8, hl208_8, hi208_8⟩ := at_T29 HR0.out x5_1 p208 q208
   (try clear hx207_8)
   obtain rfl : ad203 = ad208 := (by injection e208)
   replace hx208_0 := cm HB.out hx208_0
   replace hx208_1 := cm HB.out hx208_1
   replace hx208_2 := cm HB.out hx208_2
   replace hx208_3 := cm HB.out hx208_3
   replace hx208_4 := cm HB.out hx208_4
   replace hx208_5 := cm HB.out hx208_5
   replace hx208_6 := cm HB.out hx208_6
   replace hx208_7 := cm HB.out hx208_7
   replace hx208_8 := cm HB.out hx208_8
   have HR208_8 := am hi208_8
   have HC208_8 := am hl208_8
   clear hi208_8 hl208_8
   replace p208 := eq_true p208
   replace q208 := eq_true q208
   go_upto_if 63 with (fail)
   have H := H9.out
   clear H9
   by_cases c10 : ((rd_T29 l0 x5_1).f5) = (wrap64 ((wrap64 ((wrap64 ((wrap64 ((wrap64 (x1_1 + 1)) + 1)) + 1)) + 1)) + 1))
   rotate_left
   · rw [if_neg c10] at H
     have c10b0 : (((rd_T29 l0 x5_1).f5) == (wrap64 ((wrap64 ((wrap64 ((wrap64 ((wrap64 (x1_1 + 1)) + 1)) + 1)) + 1)) + 1))) = false := beq_eq_false_iff_ne.mpr c10
     have c10b1 : (((rd_T29 l0 x5_1).f5) != (wrap64 ((wrap64 ((wrap64 ((wrap64 ((wrap64 (x1_1 + 1)) + 1)) + 1)) + 1)) + 1))) = true := bne_iff_ne.mpr c10
     (first | rw [c10b0] | (simp only [i64_w, i32_w]; rw [c10b0]) | skip)
     obtain rfl := sj H
     go_wp2
     go_ret
     exact ⟨er, Q0⟩
   rw [if_pos c10] at H
   have c10b0 : (((rd_T29 l0 x5_1).f5) == (wrap64 ((wrap64 ((wrap64 ((wrap64 ((wrap64 (x1_1 + 1)) + 1)) + 1)) + 1)) + 1))) = true := beq_iff_eq.mpr c10
   have c10b1 : (((rd_T29 l0 x5_1).f5) != (wrap64 ((wrap64 ((wrap64 ((wrap64 ((wrap64 (x1_1 + 1)) + 1)) + 1)) + 1)) + 1))) = false := bne_eq_false_iff_eq.mpr c10
   clear c10
   (first | rw [c10b0] | (simp only [i64_w, i32_w]; rw [c10b0]) | skip)
   have H9 := am H
   clear H
   have p209 : 0 ≤ (x5_1 : Int) := of_decide_eq_true Q1
   have q209 : x5_1 < (l0.length : Int) := of_decide_eq_true Q1
   obtain ⟨ad209, A209_8, c209_8, e209, hx209_0, hx209_1, hx209_2, hx209_3, hx209_4, hx209_5, hx209_6, hx209_7, hx209_8, hl209_8, hi209_8⟩ := at_T29 HR0.out x5_1 p209 q209
   (try clear hx208_8)
   obtain rfl : ad203 = ad209 := (by injection e209)
   replace hx209_0 := cm HB.out hx209_0
   replace hx209_1 := cm HB.out hx209_1
   replace hx209_2 := cm HB.out hx209_2
   replace hx209_3 := cm HB.out hx209_3
   replace hx209_4 := cm HB.out hx209_4
   replace hx209_5 := cm HB.out hx209_5
   replace hx209_6 := cm HB.out hx209_6
   replace hx209_7 := cm HB.out hx209_7
   replace hx209_8 := cm HB.out hx209_8
   have HR209_8 := am hi209_8
   have HC209_8 := am hl209_8
   clear hi209_8 hl209_8
   replace p209 := eq_true p209
   replace q209 := eq_true q209
   go_upto_if 72 with (fail)
   have H := H9.out
   clear H9
   by_cases c11 : ((rd_T29 l0 x5_1).f6) = (wrap64 ((wrap64 ((wrap64 ((wrap64 ((wrap64 ((wrap64 (x1_1 + 1)) + 1)) + 1)) + 1)) + 1)) + 1))
   rotate_left
   · rw [if_neg c11] at H
     have c11b0 : (((rd_T29 l0 x5_1).f6) == (wrap64 ((wrap64 ((wrap64 ((wrap64 ((wrap64 ((wrap64 (x1_1 + 1)) + 1)) + 1)) + 1)) + 1)) + 1))) = false := beq_eq_false_iff_ne.mpr c11
     have c11b1 : (((rd_T29 l0 x5_1).f6) != (wrap64 ((wrap64 ((wrap64 ((wrap64 ((wrap64 ((wrap64 (x1_1 + 1)) + 1)) + 1)) + 1)) + 1)) + 1))) = true := bne_iff_ne.mpr c11
     (first | rw [c11b0] | (simp only [i64_w, i32_w]; rw [c11b0]) | skip)
     obtain rfl := sj H
     go_wp2
     go_ret
     exact ⟨er, Q0⟩
   rw [if_pos c11] at H
   have c11b0 : (((rd_T29 l0 x5_1).f6) == (wrap64 ((wrap64 ((wrap64 ((wrap64 ((wrap64 ((wrap64 (x1_1 + 1)) + 1)) + 1)) + 1)) + 1)) + 1))) = true := beq_iff_eq.mpr c11
   have c11b1 : (((rd_T29 l0 x5_1).f6) != (wrap64 ((wrap64 ((wrap64 ((wrap64 ((wrap64 ((wrap64 (x1_1 + 1)) + 1)) + 1)) + 1)) + 1)) + 1))) = false := bne_eq_false_iff_eq.mpr c11
   clear c11
   (first | rw [c11b0] | (simp only [i64_w, i32_w]; rw [c11b0]) | skip)
   have H9 := am H
   clear H
   have p210 : 0 ≤ (x5_1 : Int) := of_decide_eq_true Q1
   have q210 : x5_1 < (l0.length : Int) := of_decide_eq_true Q1
   obtain ⟨ad210, A210_8, c210_8, e210, hx210_0, hx210_1, hx210_2, hx210_3, hx210_4, hx210_5, hx210_6, hx210_7, hx210_8, hl210_8, hi210_8⟩ := at_T29 HR0.out x5_1 p210 q210
   (try clear hx209_8)
   obtain rfl : ad203 = ad210 := (by injection e210)
   replace hx210_0 := cm HB.out hx210_0
   replace hx210_1 := cm HB.out hx210_1
   replace hx210_2 := cm HB.out hx210_2
   replace hx210_3 := cm HB.out hx210_3
   replace hx210_4 := cm HB.out hx210_4
   replace hx210_5 := cm HB.out hx210_5
   replace hx210_6 := cm HB.out hx210_6
   replace hx210_7 := cm HB.out hx210_7
   replace hx210_8 := cm HB.out hx210_8
   have HR210_8 := am hi210_8
   have HC210_8 := am hl210_8
   clear hi210_8 hl210_8
   replace p210 := eq_true p210
   replace q210 := eq_true q210
   go_upto_if 83 with (fail)
   have H := H9.out
   clear H9
   by_cases c12 : (((rd_T29 l0 x5_1).f7) != ((Int.tmod (wrap64 ((wrap64 ((wrap64 ((wrap64 ((wrap64 ((wrap64 ((wrap64 (x1_1 + 1)) + 1)) + 1)) + 1)) + 1)) + 1)) + 1)) 3) == 0)) = true
   · rw [if_pos c12] at H
     have c12b0 : (((rd_T29 l0 x5_1).f7) != ((Int.tmod (wrap64 ((wrap64 ((wrap64 ((wrap64 ((wrap64 ((wrap64 ((wrap64 (x1_1 + 1)) + 1)) + 1)) + 1)) + 1)) + 1)) + 1)) 3) == 0)) = true := c12
     (try (have c12b1 : decide (((rd_T29 l0 x5_1).f7) = ((Int.tmod (wrap64 ((wrap64 ((wrap64 ((wrap64 ((wrap64 ((wrap64 ((wrap64 (x1_1 + 1)) + 1)) + 1)) + 1)) + 1)) + 1)) + 1)) 3) == 0)) = false := by simpa using c12))
     (try (have c12b2 : (((rd_T29 l0 x5_1).f7) == ((Int.tmod (wrap64 ((wrap64 ((wrap64 ((wrap64 ((wrap64 ((wrap64 ((wrap64 (x1_1 + 1)) + 1)) + 1)) + 1)) + 1)) + 1)) + 1)) 3) == 0)) = false := by simpa using c12))
     (try (have c12b3 : ¬ (((rd_T29 l0 x5_1).f7) = ((Int.tmod (wrap64 ((wrap64 ((wrap64 ((wrap64 ((wrap64 ((wrap64 ((wrap64 (x1_1 + 1)) + 1)) + 1)) + 1)) + 1)) + 1)) + 1)) 3) == 0)) := by simpa using c12))
     clear c12
     (first | rw [c12b0] | (simp only [i64_w, i32_w]; rw [c12b0]) | rw [show (!(_ == _)) = _ from c12b0] | skip)
     obtain rfl := sj H
     go_wp2
     go_ret
     exact ⟨er, Q0⟩
   rw [if_neg c12] at H
   have c12b0 : (((rd_T29 l0 x5_1).f7) != ((Int.tmod (wrap64 ((wrap64 ((wrap64 ((wrap64 ((wrap64 ((wrap64 ((wrap64 (x1_1 + 1)) + 1)) + 1)) + 1)) + 1)) + 1)) + 1)) 3) == 0)) = false := by simpa using c12
   (try (have c12b1 : decide (((rd_T29 l0 x5_1).f7) = ((Int.tmod (wrap64 ((wrap64 ((wrap64 ((wrap64 ((wrap64 ((wrap64 ((wrap64 (x1_1 + 1)) + 1)) + 1)) + 1)) + 1)) + 1)) + 1)) 3) == 0)) = true := by simpa using c12))
   (try (have c12b2 : (((rd_T29 l0 x5_1).f7) == ((Int.tmod (wrap64 ((wrap64 ((wrap64 ((wrap64 ((wrap64 ((wrap64 ((wrap64 (x1_1 + 1)) + 1)) + 1)) + 1)) + 1)) + 1)) + 1)) 3) == 0)) = true := by simpa using c12))
   clear c12
   (first | rw [c12b0] | (simp only [i64_w, i32_w]; rw [c12b0]) | rw [show (!(_ == _)) = _ from c12b0] | skip)
   replace H := Option.bind_eq_some_iff.mp H
   obtain ⟨t212, A130, H⟩ := H
   replace H : (if t212 < 0 then (some (-1)) else (laws_heldMsgS.l0 k1 l0 t212 (wrap64 (x5_1 + 1)))) = some r := H
   have A13 := am A130
   clear A130
   have H9 := am H
   clear H
   have p211 : 0 ≤ (x5_1 : Int) := of_decide_eq_true Q1
   have q211 : x5_1 < (l0.length : Int) := of_decide_eq_true Q1
   obtain ⟨ad211, A211_8, c211_8, e211, hx211_0, hx211_1, hx211_2, hx211_3, hx211_4, hx211_5, hx211_6, hx211_7, hx211_8, hl211_8, hi211_8⟩ := at_T29 HR0.out x5_1 p211 q211
   (try clear hx210_8)
   obtain rfl : ad203 = ad211 := (by injection e211)
   replace hx211_0 := cm HB.out hx211_0
   replace hx211_1 := cm HB.out hx211_1
   replace hx211_2 := cm HB.out hx211_2
   replace hx211_3 := cm HB.out hx211_3
   replace hx211_4 := cm HB.out hx211_4
   replace hx211_5 := cm HB.out hx211_5
   replace hx211_6 := cm HB.out hx211_6
   replace hx211_7 := cm HB.out hx211_7
   replace hx211_8 := cm HB.out hx211_8
   have HR211_8 := am hi211_8
   have HC211_8 := am hl211_8
   clear hi211_8 hl211_8
   replace p211 := eq_true p211
   replace q211 := eq_true q211
   go_upto_if 94 with (first | ((with_reducible refine gate_callee (f := 60) rfl ?_); refine goesL_ (some 92) rfl rfl Try.func60 kr rfl #[.slice A211_8 ((rd_T29 l0 x5_1).f8).length c211_8, .int .i64 (wrap64 ((wrap64 ((wrap64 ((wrap64 ((wrap64 ((wrap64 ((wrap64 ((wrap64 (x1_1 + 1)) + 1)) + 1)) + 1)) + 1)) + 1)) + 1)) + 1))] rfl Q3 ?_; (with_reducible refine (laws_heldEntryS.calls k1 _ _ ((rd_T29 l0 x5_1).f8) (wrap64 ((wrap64 ((wrap64 ((wrap64 ((wrap64 ((wrap64 ((wrap64 ((wrap64 (x1_1 + 1)) + 1)) + 1)) + 1)) + 1)) + 1)) + 1)) + 1)) t212 _ ?side1 ?side2 A13.out).mono ?_); (case side1 => exact (by repeat (first | exact (Kd.C_below HR211_8.out HB.out) | (with_reducible refine Kd.C_alloc ?_ _) | (with_reducible refine Kd.C_drewN ?_ _) | (with_reducible refine Kd.C_drew ?_)))); (case side2 => exact HC211_8.out); rintro e w14 ⟨rfl, hb⟩; refine ⟨_, rfl, ?_⟩; replace HB := am (below_step Q0 hb); (try clear hb); (try clear hb2); (try clear hk); (try clear hi)))
   have H := H9.out
   clear H9
   by_cases c15 : t212 < 0
   · rw [if_pos c15] at H
     have c15b0 : decide (t212 < 0) = true := decide_eq_true c15
     clear c15
     (first | rw [c15b0] | (simp only [i64_w, i32_w]; rw [c15b0]) | skip)
     obtain rfl := sj H
     go_wp2
     go_ret
     exact ⟨er, Q0⟩
   rw [if_neg c15] at H
   have c15b0 : decide (t212 < 0) = false := decide_eq_false c15
   clear c15
   (first | rw [c15b0] | (simp only [i64_w, i32_w]; rw [c15b0]) | skip)
   have H' := am H
   clear H
   go_wp2
   go_roundg k1
   case measure => have := HK1.out; omega
   case rel => exact ⟨(t212), (wrap64 (x5_1 + 1)), Q2, Q2, H', ⟨by have := HK1.out; omega⟩, ⟨Q0⟩⟩

/-! ### spec_l01In: function 63 -/
def spec_l01In.f (a0 : Int) (a1 : Int) (a2 : Int) : Option (Bool) := if a1 ≤ a0 then (some (decide (a0 ≤ a2))) else (some false)
set_option maxHeartbeats 8000000 in
set_option maxRecDepth 100000 in
theorem spec_l01In.calls (a0 : Int) (a1 : Int) (a2 : Int) (r : Bool) (w : World) (h : spec_l01In.f a0 a1 a2 = some r) :
   Calls Try.prog 63 #[.int .i64 a0, .int .i64 a1, .int .i64 a2] w fun e w' => e = .returned (.bool r) ∧ Drawn0 w w' := by
 have H : (if a1 ≤ a0 then (some (decide (a0 ≤ a2))) else (some false)) = some r := h
 clear h
 by_cases c4 : a1 ≤ a0
 · rw [if_pos c4] at H
   have c4b0 : decide (a1 ≤ a0) = true := decide_eq_true c4
   clear c4
   obtain rfl := sj H
   go_enter Try.func63, Try.ntmps63
   go_wp2
   go_ret
   exact ⟨by first | rfl | (simp; done) | (simp [*]; done), Q4⟩
 rw [if_neg c4] at H
 have c4b0 : decide (a1 ≤ a0) = false := decide_eq_false c4
 clear c4
 obtain rfl := sj H
 go_enter Try.func63, Try.ntmps63
 go_wp2
 go_ret
 exact ⟨by first | rfl | (simp; done) | (simp [*]; done), Q4⟩

/-! ### spec_l07Size: function 62 -/
def spec_l07Size.f (a0 : Int) : Option (Bool) := (spec_l01In.f a0 1 5).bind fun t213 => (some t213)
set_option maxHeartbeats 8000000 in
set_option maxRecDepth 100000 in
theorem spec_l07Size.calls (a0 : Int) (r : Bool) (w : World) (h : spec_l07Size.f a0 = some r) :
   Calls Try.prog 62 #[.int .i64 a0] w fun e w' => e = .returned (.bool r) ∧ Drawn0 w w' := by
 have H : ((spec_l01In.f a0 1 5).bind fun t213 => (some t213)) = some r := h
 clear h
 replace H := Option.bind_eq_some_iff.mp H
 obtain ⟨t213, A20, H⟩ := H
 replace H : (some t213) = some r := H
 have A2 := am A20
 clear A20
 obtain rfl := sj H
 go_enter Try.func62, Try.ntmps62
 go_wp2_with (first | ((with_reducible refine gate_callee (f := 63) rfl ?_); refine goesL_ (some 4) rfl rfl Try.func63 kr rfl #[.int .i64 a0, .int .i64 1, .int .i64 5] rfl Q3 ?_; (with_reducible refine (spec_l01In.calls a0 1 5 t213 _ A2.out).mono ?_); rintro e w' ⟨rfl, ⟨nd, rfl⟩⟩; refine ⟨_, rfl, ?_⟩))
 go_ret
 exact ⟨by first | rfl | (simp; done) | (simp [*]; done), Q4⟩

/-! ### spec_l05Entry: function 64 -/
def spec_l05Entry.f (a0_0 : Int) (a0_1 : ByteArray) : Option (Bool) := (spec_l01In.f a0_0 1 1000000).bind fun t215 => (if t215 = true then (some (decide ((a0_1.size : Int) ≤ 40))) else (some false))
set_option maxHeartbeats 8000000 in
set_option maxRecDepth 100000 in
theorem spec_l05Entry.calls (a0_0 : Int) (a0_1 : ByteArray) (r : Bool) (w : World) (h : spec_l05Entry.f a0_0 a0_1 = some r) :
   Calls Try.prog 64 #[.agg #[.int .i64 a0_0, .string a0_1]] w fun e w' => e = .returned (.bool r) ∧ Below w.heap.size w w' := by
 have hu85 := Try.underlying85
 have HB := am (Below.refl w.heap.size w)
 have H : ((spec_l01In.f a0_0 1 1000000).bind fun t215 => (if t215 = true then (some (decide ((a0_1.size : Int) ≤ 40))) else (some false))) = some r := h
 clear h
 replace H := Option.bind_eq_some_iff.mp H
 obtain ⟨t215, A20, H⟩ := H
 replace H : (if t215 = true then (some (decide ((a0_1.size : Int) ≤ 40))) else (some false)) = some r := H
 have A2 := am A20
 clear A20
 by_cases c3 : t215 = true
 · subst c3
   rw [if_pos rfl] at H
   obtain rfl := sj H
   go_enter Try.func64, Try.ntmps64
   go_wp2_with (first | ((with_reducible refine gate_dst (N := 1) rfl ?_); (try (refine gate_guard (by rfl) ?_; dsimp only)); refine box_event ?hg (N := 1) ?hd (cs := #[.int .i64 a0_0, .string a0_1]) (t := 85) ?hr ?_; (case hd => rfl); (case hg => rfl); (case hr => first | (go_simp; done) | (go_simp; rfl)); intro gb214 hg w4 hbox hb; have BK214 := am (hbox); have GW214 := am ((by rw [hg]; exact (below_size Q0) : w.heap.size ≤ gb214)); have GE214 := am ((by rw [hg]; exact (below_size Q0) : w.heap.size ≤ gb214)); replace HB := am (below_step Q0 hb); clear hb hbox hg; obtain ⟨hcz5_0, hcz5_1, hfz5_0, hfz5_1⟩ := bc2f w4 BK214.out) | ((with_reducible refine gate_callee (f := 63) rfl ?_); refine goesL_ (some 5) rfl rfl Try.func63 kr rfl #[.int .i64 a0_0, .int .i64 1, .int .i64 1000000] rfl Q3 ?_; (with_reducible refine (spec_l01In.calls a0_0 1 1000000 true _ A2.out).mono ?_); rintro e w' ⟨rfl, ⟨nd, rfl⟩⟩; refine ⟨_, rfl, ?_⟩))
   go_ret
   exact ⟨er, Q0⟩
 replace c3 := Bool.eq_false_iff.mpr c3
 subst c3
 rw [nf] at H
 obtain rfl := sj H
 go_enter Try.func64, Try.ntmps64
 go_wp2_with (first | ((with_reducible refine gate_dst (N := 1) rfl ?_); (try (refine gate_guard (by rfl) ?_; dsimp only)); refine box_event ?hg (N := 1) ?hd (cs := #[.int .i64 a0_0, .string a0_1]) (t := 85) ?hr ?_; (case hd => rfl); (case hg => rfl); (case hr => first | (go_simp; done) | (go_simp; rfl)); intro gb214 hg w6 hbox hb; have BK214 := am (hbox); have GW214 := am ((by rw [hg]; exact (below_size Q0) : w.heap.size ≤ gb214)); have GE214 := am ((by rw [hg]; exact (below_size Q0) : w.heap.size ≤ gb214)); replace HB := am (below_step Q0 hb); clear hb hbox hg; obtain ⟨hcz7_0, hcz7_1, hfz7_0, hfz7_1⟩ := bc2f w6 BK214.out) | ((with_reducible refine gate_callee (f := 63) rfl ?_); refine goesL_ (some 5) rfl rfl Try.func63 kr rfl #[.int .i64 a0_0, .int .i64 1, .int .i64 1000000] rfl Q3 ?_; (with_reducible refine (spec_l01In.calls a0_0 1 1000000 false _ A2.out).mono ?_); rintro e w' ⟨rfl, ⟨nd, rfl⟩⟩; refine ⟨_, rfl, ?_⟩))
 go_ret
 exact ⟨er, Q0⟩

end Go.Proofs.Ytkcadcoohmofcaa.QFnExactElect
