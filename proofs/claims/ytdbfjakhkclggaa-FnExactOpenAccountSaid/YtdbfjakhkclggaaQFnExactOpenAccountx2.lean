-- Printed by the session's own program wip/prx.py.
import Derived.Test.YtdbfjakhkclggaaQFnExactOpenAccountx0
namespace Go.Proofs.Ytdbfjakhkclggaa.QFnExactOpenAccount
open Go.RowKit Go.Proofs.YtdbfjakhkclggaaW.PrintWords Go.Proofs.YtdbfjakhkclggaaW.PrintLast Go.Proofs.YtdbfjakhkclggaaW.PrintMore
attribute [local go_sem] max2_int min2_int max_two min_two max_three min_three max_four min_four Go.Proofs.Ytdbfjakhkclggaa.Set.isSome_setCell Go.Proofs.Ytdbfjakhkclggaa.Add.add64   -- for this text's walks alone
set_option linter.unusedVariables false
set_option linter.unusedSimpArgs false

-- squeezed
theorem u2_0 {P : Prop} (h : P := by first | (with_reducible assumption) | assumption) : P := h
theorem u2_1 {P : Prop} (h : P := by repeat (first | (with_reducible first | exact HK.out | apply Kept.alloc | apply Kept.drewN | apply Kept.drew) | exact HK.out)) : P := h
theorem u2_2 {P : Prop} (h : P := by repeat (first | (with_reducible first | exact HB.out | apply below_alloc | apply pw_below_drewN | apply below_drew1) | exact HB.out)) : P := h
theorem u2_3 {P : Prop} (h : P := by (with_reducible repeat (first | apply Kd.R_alloc | apply Kd.R_drewN | apply Kd.R_drew)); exact HO_0.out) : P := h
theorem u2_4 {P : Prop} (h : P := by repeat (first | exact Drawn0.refl _ | apply Drawn0.step)) : P := h
theorem u2_5 {P : Prop} (h : P := by first | rfl | (simp; done) | (simp [*]; done)) : P := h
theorem u2_6 {P : Prop} (h : P := by repeat (first | (with_reducible first | exact HK.out | apply Kept.alloc | apply Kept.drewN | apply Kept.drew | refine Kept.setCell ?_ (.inr GW135.out) _) | exact HK.out)) : P := h
theorem u2_7 {P : Prop} (h : P := by repeat (first | (with_reducible first | exact HB.out | apply below_alloc | apply pw_below_drewN | apply below_drew1 | refine below_set ?_ GE135.out) | exact HB.out)) : P := h
theorem u2_8 {P : Prop} (h : P := by repeat (first | (with_reducible first | exact HB.out | apply below_alloc | apply pw_below_drewN | apply below_drew1 | refine below_set ?_ GE143.out) | exact HB.out)) : P := h
theorem u2_9 {P : Prop} (h : P := by (try simp only [List.map_toArray, List.map_cons, List.map_nil]); first | done | rfl | (simp only [List.length_drop, List.length_take]; rfl)) : P := h
theorem u2_10 {P : Prop} (h : P := by (with_reducible repeat (first | apply Kd.R_alloc | apply Kd.R_drewN | apply Kd.R_drew)); exact HO0_0.out) : P := h
/-! ### laws_markAccountS: function 58 -/
def laws_markAccountS.l0 : Nat → List (S53) → Int → Int → Option (Int × (List (S53)))
  | 0, _, _, _ => none
  | k + 1, x0, x1, x5 => if x5 < (x0.length : Int) then (if 0 ≤ x5 then ((some (x0.set (x5 : Int).toNat (⟨IntKind.u64.wrap (x1), (rd_T53 x0 x5).f1, (rd_T53 x0 x5).f2, (rd_T53 x0 x5).f3, (rd_T53 x0 x5).f4⟩ : S53) : List (S53))).bind fun y130 => ((some (y130.set (x5 : Int).toNat (⟨(rd_T53 y130 x5).f0, IntKind.u64.wrap (wrap64 (x1 + 1)), (rd_T53 y130 x5).f2, (rd_T53 y130 x5).f3, (rd_T53 y130 x5).f4⟩ : S53) : List (S53))).bind fun y131 => ((some (y131.set (x5 : Int).toNat (⟨(rd_T53 y131 x5).f0, (rd_T53 y131 x5).f1, IntKind.u64.wrap (wrap64 ((wrap64 (x1 + 1)) + 1)), (rd_T53 y131 x5).f3, (rd_T53 y131 x5).f4⟩ : S53) : List (S53))).bind fun y132 => ((some (y132.set (x5 : Int).toNat (⟨(rd_T53 y132 x5).f0, (rd_T53 y132 x5).f1, (rd_T53 y132 x5).f2, IntKind.u64.wrap (wrap64 ((wrap64 ((wrap64 (x1 + 1)) + 1)) + 1)), (rd_T53 y132 x5).f4⟩ : S53) : List (S53))).bind fun y133 => (laws_markAccountS.l0 k (y133.set (x5 : Int).toNat (⟨(rd_T53 y133 x5).f0, (rd_T53 y133 x5).f1, (rd_T53 y133 x5).f2, (rd_T53 y133 x5).f3, wrap64 ((wrap64 ((wrap64 ((wrap64 (x1 + 1)) + 1)) + 1)) + 1)⟩ : S53)) (wrap64 ((wrap64 ((wrap64 ((wrap64 ((wrap64 (x1 + 1)) + 1)) + 1)) + 1)) + 1)) (wrap64 (x5 + 1))))))) else (none)) else (some (x1, x0))
def laws_markAccountS.f (k : Nat) (l0 : List (S53)) (a1 : Int) : Option (Int × (List (S53))) := laws_markAccountS.l0 k l0 a1 0
theorem laws_markAccountS.mono_l : ∀ k, (∀ y0 y1 y2, LeO (laws_markAccountS.l0 k y0 y1 y2) (laws_markAccountS.l0 (k + 1) y0 y1 y2))
  | 0 => fun _ _ _ r h => by simp [laws_markAccountS.l0] at h
  | k + 1 => by
    have ih0 := laws_markAccountS.mono_l k
    · intro y0 y1 y2
      unfold laws_markAccountS.l0
      repeat' first
      | (with_reducible exact ih0 _ _ _)
      | (with_reducible exact LeO.refl _)
      | (with_reducible exact LeO.none _)
      | (with_reducible refine LeO.ite ?_ ?_)
      | (with_reducible refine LeO.bind ?_ (fun _ => ?_))
      | exact ih0 _ _ _
      | exact LeO.none _
      | refine LeO.ite ?_ ?_
      | refine LeO.bind ?_ (fun _ => ?_)
theorem laws_markAccountS.mono : ∀ a0 a1 k, LeO (laws_markAccountS.f k a0 a1) (laws_markAccountS.f (k + 1) a0 a1) := by
  intro a0 a1 k
  have ih0 := laws_markAccountS.mono_l k
  unfold laws_markAccountS.f
  repeat' first
      | (with_reducible exact ih0 _ _ _)
      | (with_reducible exact LeO.refl _)
      | (with_reducible exact LeO.none _)
      | (with_reducible refine LeO.ite ?_ ?_)
      | (with_reducible refine LeO.bind ?_ (fun _ => ?_))
      | exact ih0 _ _ _
      | exact LeO.none _
      | refine LeO.ite ?_ ?_
      | refine LeO.bind ?_ (fun _ => ?_)
set_option maxHeartbeats 8000000 in
set_option maxRecDepth 100000 in
theorem laws_markAccountS.calls (k : Nat) (P0_ : Nat → Prop) (u9000_ : Value) (l0 : List (S53)) (a1 : Int) (r1 : Int) (r2 : List (S53)) (w0 w : World) (hB : Below w0.heap.size w0 w) (ho0 : Kd.R k53 53 w w0.heap.size P0_ u9000_ l0) (h : laws_markAccountS.f k l0 a1 = some (r1, r2)) :
    Calls Try.prog 58 #[u9000_, .int .i64 a1] w fun e w' => e = .returned (.int .i64 r1) ∧ Kd.R k53 53 w' w0.heap.size (fun k_ => (P0_ k_ ∨ w.heap.size ≤ k_)) u9000_ r2 ∧ Below w0.heap.size w0 w' ∧ Kept w w' (fun k_ => P0_ k_) := by
  have HO0 := Aside0.mk (show Kd.R k53 53 w w0.heap.size (fun k_ => (P0_ k_ ∨ w.heap.size ≤ k_)) u9000_ l0 from Kd.R_mono ho0 (fun k_ hk => (.inl hk)))
  have HK := Aside0.mk (Kept.refl w (fun k_ => P0_ k_))
  have HW0 := Aside0.mk hB.size
  have HB := Aside0.mk hB
  clear hB
  have H : (laws_markAccountS.l0 k l0 a1 0) = some (r1, r2) := h
  clear h
  have H' := Aside0.mk H
  clear H
  go_enter Try.func58, Try.ntmps58
  go_wp2
  go_loopg [1, 5] k (fun kq v1 v5 w' => ∃ (x0_1 : List (S53)) (x1_1 : Int) (x5_1 : Int), v1 = .int .i64 x1_1 ∧ v5 = .int .i64 x5_1 ∧ Aside0 (laws_markAccountS.l0 kq x0_1 x1_1 x5_1 = some (r1, r2)) ∧ Aside0 (kq ≤ k) ∧ Aside0 (Kd.R k53 53 w' w0.heap.size (fun k_ => (P0_ k_ ∨ w.heap.size ≤ k_)) u9000_ x0_1) ∧ Aside0 (Kept w w' (fun k_ => P0_ k_)) ∧ Aside0 (Below w0.heap.size w0 w'))
  case atStart => exact ⟨(l0), (a1), (0), u2_5, u2_5, H', ⟨Nat.le_refl _⟩, ⟨(by (with_reducible repeat (first | apply Kd.R_alloc | apply Kd.R_drewN | apply Kd.R_drew)); exact HO0.out)⟩, ⟨u2_1⟩, ⟨u2_2⟩⟩
  clear H'
  try clear p2
  obtain ⟨x0_1, x1_1, x5_1, rfl, rfl, HA, HK1, HO_0, HK, HB⟩ := hrel
  cases gk with
  | zero => exact absurd HA.out (by simp [laws_markAccountS.l0])
  | succ k1 =>
    have H := HA.out
    clear HA
    simp only [laws_markAccountS.l0] at H
    by_cases c3 : x5_1 < (x0_1.length : Int)
    rotate_left
    · rw [if_neg c3] at H
      have c3b0 : decide (x5_1 < (x0_1.length : Int)) = false := decide_eq_false c3
      clear c3
      simp only [Option.some.injEq, Prod.mk.injEq] at H
      obtain ⟨rfl, rfl⟩ := H
      obtain ⟨Ao21, co21, eo21⟩ := Kd.R_slice HO_0.out
      subst eo21
      go_wp2
      go_ret
      exact ⟨by first | rfl | (simp [errW_none, errW_some] <;> rfl) | (simp [*, errW_none, errW_some] <;> rfl), u2_3, u2_2, u2_1⟩
    rw [if_pos c3] at H
    have c3b0 : decide (x5_1 < (x0_1.length : Int)) = true := decide_eq_true c3
    clear c3
    by_cases c4 : 0 ≤ x5_1
    rotate_left
    · rw [if_neg c4] at H
      exact absurd H (by simp)
    rw [if_pos c4] at H
    have c4b0 : decide (0 ≤ x5_1) = true := decide_eq_true c4
    clear c4
    obtain ⟨y130, hy130⟩ : ∃ y_ : List (S53), y_ = (x0_1.set (x5_1 : Int).toNat (⟨IntKind.u64.wrap (x1_1), (rd_T53 x0_1 x5_1).f1, (rd_T53 x0_1 x5_1).f2, (rd_T53 x0_1 x5_1).f3, (rd_T53 x0_1 x5_1).f4⟩ : S53)) := ⟨_, rfl⟩
    replace H : ((some (y130.set (x5_1 : Int).toNat (⟨(rd_T53 y130 x5_1).f0, IntKind.u64.wrap (wrap64 (x1_1 + 1)), (rd_T53 y130 x5_1).f2, (rd_T53 y130 x5_1).f3, (rd_T53 y130 x5_1).f4⟩ : S53) : List (S53))).bind fun y131 => ((some (y131.set (x5_1 : Int).toNat (⟨(rd_T53 y131 x5_1).f0, (rd_T53 y131 x5_1).f1, IntKind.u64.wrap (wrap64 ((wrap64 (x1_1 + 1)) + 1)), (rd_T53 y131 x5_1).f3, (rd_T53 y131 x5_1).f4⟩ : S53) : List (S53))).bind fun y132 => ((some (y132.set (x5_1 : Int).toNat (⟨(rd_T53 y132 x5_1).f0, (rd_T53 y132 x5_1).f1, (rd_T53 y132 x5_1).f2, IntKind.u64.wrap (wrap64 ((wrap64 ((wrap64 (x1_1 + 1)) + 1)) + 1)), (rd_T53 y132 x5_1).f4⟩ : S53) : List (S53))).bind fun y133 => (laws_markAccountS.l0 k1 (y133.set (x5_1 : Int).toNat (⟨(rd_T53 y133 x5_1).f0, (rd_T53 y133 x5_1).f1, (rd_T53 y133 x5_1).f2, (rd_T53 y133 x5_1).f3, wrap64 ((wrap64 ((wrap64 ((wrap64 (x1_1 + 1)) + 1)) + 1)) + 1)⟩ : S53)) (wrap64 ((wrap64 ((wrap64 ((wrap64 ((wrap64 (x1_1 + 1)) + 1)) + 1)) + 1)) + 1)) (wrap64 (x5_1 + 1)))))) = some (r1, r2) := by first | (rw [hy130]; with_reducible exact H) | (have H2_ := (Option.bind_some _ _).symm.trans H; rw [hy130]; with_reducible exact H2_) | (have H2_ := (Option.bind_some _ _).symm.trans H; with_reducible exact H2_) | with_reducible exact H | (rw [hy130]; exact H) | exact H
    have Ny130 := Aside0.mk hy130
    clear hy130
    obtain ⟨y131, hy131⟩ : ∃ y_ : List (S53), y_ = (y130.set (x5_1 : Int).toNat (⟨(rd_T53 y130 x5_1).f0, IntKind.u64.wrap (wrap64 (x1_1 + 1)), (rd_T53 y130 x5_1).f2, (rd_T53 y130 x5_1).f3, (rd_T53 y130 x5_1).f4⟩ : S53)) := ⟨_, rfl⟩
    replace H : ((some (y131.set (x5_1 : Int).toNat (⟨(rd_T53 y131 x5_1).f0, (rd_T53 y131 x5_1).f1, IntKind.u64.wrap (wrap64 ((wrap64 (x1_1 + 1)) + 1)), (rd_T53 y131 x5_1).f3, (rd_T53 y131 x5_1).f4⟩ : S53) : List (S53))).bind fun y132 => ((some (y132.set (x5_1 : Int).toNat (⟨(rd_T53 y132 x5_1).f0, (rd_T53 y132 x5_1).f1, (rd_T53 y132 x5_1).f2, IntKind.u64.wrap (wrap64 ((wrap64 ((wrap64 (x1_1 + 1)) + 1)) + 1)), (rd_T53 y132 x5_1).f4⟩ : S53) : List (S53))).bind fun y133 => (laws_markAccountS.l0 k1 (y133.set (x5_1 : Int).toNat (⟨(rd_T53 y133 x5_1).f0, (rd_T53 y133 x5_1).f1, (rd_T53 y133 x5_1).f2, (rd_T53 y133 x5_1).f3, wrap64 ((wrap64 ((wrap64 ((wrap64 (x1_1 + 1)) + 1)) + 1)) + 1)⟩ : S53)) (wrap64 ((wrap64 ((wrap64 ((wrap64 ((wrap64 (x1_1 + 1)) + 1)) + 1)) + 1)) + 1)) (wrap64 (x5_1 + 1))))) = some (r1, r2) := by first | (rw [hy131]; with_reducible exact H) | (have H2_ := (Option.bind_some _ _).symm.trans H; rw [hy131]; with_reducible exact H2_) | (have H2_ := (Option.bind_some _ _).symm.trans H; with_reducible exact H2_) | with_reducible exact H | (rw [hy131]; exact H) | exact H
    have Ny131 := Aside0.mk hy131
    clear hy131
    obtain ⟨y132, hy132⟩ : ∃ y_ : List (S53), y_ = (y131.set (x5_1 : Int).toNat (⟨(rd_T53 y131 x5_1).f0, (rd_T53 y131 x5_1).f1, IntKind.u64.wrap (wrap64 ((wrap64 (x1_1 + 1)) + 1)), (rd_T53 y131 x5_1).f3, (rd_T53 y131 x5_1).f4⟩ : S53)) := ⟨_, rfl⟩
    replace H : ((some (y132.set (x5_1 : Int).toNat (⟨(rd_T53 y132 x5_1).f0, (rd_T53 y132 x5_1).f1, (rd_T53 y132 x5_1).f2, IntKind.u64.wrap (wrap64 ((wrap64 ((wrap64 (x1_1 + 1)) + 1)) + 1)), (rd_T53 y132 x5_1).f4⟩ : S53) : List (S53))).bind fun y133 => (laws_markAccountS.l0 k1 (y133.set (x5_1 : Int).toNat (⟨(rd_T53 y133 x5_1).f0, (rd_T53 y133 x5_1).f1, (rd_T53 y133 x5_1).f2, (rd_T53 y133 x5_1).f3, wrap64 ((wrap64 ((wrap64 ((wrap64 (x1_1 + 1)) + 1)) + 1)) + 1)⟩ : S53)) (wrap64 ((wrap64 ((wrap64 ((wrap64 ((wrap64 (x1_1 + 1)) + 1)) + 1)) + 1)) + 1)) (wrap64 (x5_1 + 1)))) = some (r1, r2) := by first | (rw [hy132]; with_reducible exact H) | (have H2_ := (Option.bind_some _ _).symm.trans H; rw [hy132]; with_reducible exact H2_) | (have H2_ := (Option.bind_some _ _).symm.trans H; with_reducible exact H2_) | with_reducible exact H | (rw [hy132]; exact H) | exact H
    have Ny132 := Aside0.mk hy132
    clear hy132
    obtain ⟨y133, hy133⟩ : ∃ y_ : List (S53), y_ = (y132.set (x5_1 : Int).toNat (⟨(rd_T53 y132 x5_1).f0, (rd_T53 y132 x5_1).f1, (rd_T53 y132 x5_1).f2, IntKind.u64.wrap (wrap64 ((wrap64 ((wrap64 (x1_1 + 1)) + 1)) + 1)), (rd_T53 y132 x5_1).f4⟩ : S53)) := ⟨_, rfl⟩
    replace H : (laws_markAccountS.l0 k1 (y133.set (x5_1 : Int).toNat (⟨(rd_T53 y133 x5_1).f0, (rd_T53 y133 x5_1).f1, (rd_T53 y133 x5_1).f2, (rd_T53 y133 x5_1).f3, wrap64 ((wrap64 ((wrap64 ((wrap64 (x1_1 + 1)) + 1)) + 1)) + 1)⟩ : S53)) (wrap64 ((wrap64 ((wrap64 ((wrap64 ((wrap64 (x1_1 + 1)) + 1)) + 1)) + 1)) + 1)) (wrap64 (x5_1 + 1))) = some (r1, r2) := by first | (rw [hy133]; with_reducible exact H) | (have H2_ := (Option.bind_some _ _).symm.trans H; rw [hy133]; with_reducible exact H2_) | (have H2_ := (Option.bind_some _ _).symm.trans H; with_reducible exact H2_) | with_reducible exact H | (rw [hy133]; exact H) | exact H
    have Ny133 := Aside0.mk hy133
    clear hy133
    obtain ⟨y134, hy134⟩ : ∃ y_ : List (S53), y_ = (y133.set (x5_1 : Int).toNat (⟨(rd_T53 y133 x5_1).f0, (rd_T53 y133 x5_1).f1, (rd_T53 y133 x5_1).f2, (rd_T53 y133 x5_1).f3, wrap64 ((wrap64 ((wrap64 ((wrap64 (x1_1 + 1)) + 1)) + 1)) + 1)⟩ : S53)) := ⟨_, rfl⟩
    replace H : (laws_markAccountS.l0 k1 y134 (wrap64 ((wrap64 ((wrap64 ((wrap64 ((wrap64 (x1_1 + 1)) + 1)) + 1)) + 1)) + 1)) (wrap64 (x5_1 + 1))) = some (r1, r2) := by first | (rw [hy134]; with_reducible exact H) | (have H2_ := (Option.bind_some _ _).symm.trans H; rw [hy134]; with_reducible exact H2_) | (have H2_ := (Option.bind_some _ _).symm.trans H; with_reducible exact H2_) | with_reducible exact H | (rw [hy134]; exact H) | exact H
    have Ny134 := Aside0.mk hy134
    clear hy134
    have H' := Aside0.mk H
    clear H
    obtain ⟨Ao10, co10, eo10⟩ := Kd.R_slice HO_0.out
    subst eo10
    have p5 : 0 ≤ (x5_1 : Int) := of_decide_eq_true u2_0
    have q5 : (x5_1 : Int) < ((x0_1.length : Int) : Int) := of_decide_eq_true u2_0
    obtain ⟨go5, co5, eo5, gb5, gl5, cl5, HG5⟩ := Kd.R_form HO_0.out (by omega)
    (first | cases eo5 | (injection eo5 with ea_ en_ ec_; (first | subst ea_ | (injection ea_ with ea_; subst ea_)); subst ec_; clear en_))
    have GB5 := Aside0.mk gb5
    have GG5 := Aside0.mk HG5
    clear gb5 gl5 HG5
    have HMgo5 := Aside0.mk (show (P0_ go5 ∨ w.heap.size ≤ go5) from (HO_0.out.1 _ rfl))
    obtain ⟨ce5, hcl5, hM5, hcc5, hfr5⟩ := Kd.R_elem HO_0.out z53 (x5_1 : Int) p5 q5
    obtain rfl := k53_openM hM5
    have hx5_0 : wr.cell? ⟨go5, (x5_1 : Int).toNat * 5, none⟩ = some (.int .u64 ((rd_T53 x0_1 x5_1).f0)) := hcc5 0 _ rfl
    have hx5_1 : wr.cell? ⟨go5, (x5_1 : Int).toNat * 5 + 1, none⟩ = some (.int .u64 ((rd_T53 x0_1 x5_1).f1)) := hcc5 1 _ rfl
    have hx5_2 : wr.cell? ⟨go5, (x5_1 : Int).toNat * 5 + 2, none⟩ = some (.int .u64 ((rd_T53 x0_1 x5_1).f2)) := hcc5 2 _ rfl
    have hx5_3 : wr.cell? ⟨go5, (x5_1 : Int).toNat * 5 + 3, none⟩ = some (.int .u64 ((rd_T53 x0_1 x5_1).f3)) := hcc5 3 _ rfl
    have hx5_4 : wr.cell? ⟨go5, (x5_1 : Int).toNat * 5 + 4, none⟩ = some (.int .i64 ((rd_T53 x0_1 x5_1).f4)) := hcc5 4 _ rfl
    have hf5_0 : wr.frozen? ⟨go5, (x5_1 : Int).toNat * 5, none⟩ = false := hfr5 0
    have hf5_1 : wr.frozen? ⟨go5, (x5_1 : Int).toNat * 5 + 1, none⟩ = false := hfr5 1
    have hf5_2 : wr.frozen? ⟨go5, (x5_1 : Int).toNat * 5 + 2, none⟩ = false := hfr5 2
    have hf5_3 : wr.frozen? ⟨go5, (x5_1 : Int).toNat * 5 + 3, none⟩ = false := hfr5 3
    have hf5_4 : wr.frozen? ⟨go5, (x5_1 : Int).toNat * 5 + 4, none⟩ = false := hfr5 4
    clear hcl5 hcc5 hfr5 hM5
    replace p5 := eq_true p5
    replace q5 := eq_true q5
    have HX11 := Aside0.mk (show Kd.R k53 53 wr w0.heap.size (fun k_ => (P0_ k_ ∨ w.heap.size ≤ k_)) (.slice (some ⟨go5, 0, none⟩) x0_1.length co10) x0_1 from u2_3)
    obtain ⟨ce11, hcl11, hM11, hcc11, hfr11⟩ := Kd.R_elem HX11.out z53 (x5_1 : Int) (of_decide_eq_true u2_0) (by have h_ : (x5_1 : Int) < ((x0_1.length : Int) : Int) := of_decide_eq_true u2_0; first | exact h_ | (have e_ := (Kd.R_reads' HO_0.out).1; omega) | simpa using h_)
    obtain rfl := k53_openM hM11
    have HP11 := Kd.R_seg HX11.out (x5_1 : Int) (of_decide_eq_true u2_0) (by have h_ : (x5_1 : Int) < ((x0_1.length : Int) : Int) := of_decide_eq_true u2_0; first | exact h_ | (have e_ := (Kd.R_reads' HO_0.out).1; omega) | simpa using h_) (seg := [.int .u64 (IntKind.u64.wrap (x1_1))]) (j := 0) hcl11 hcc11 (show 1 ≤ 5 from by decide) (x' := (⟨IntKind.u64.wrap (x1_1), (rd_T53 x0_1 x5_1).f1, (rd_T53 x0_1 x5_1).f2, (rd_T53 x0_1 x5_1).f3, (rd_T53 x0_1 x5_1).f4⟩ : S53)) (k53_mkM _ _ _ (⟨IntKind.u64.wrap (x1_1), (rd_T53 x0_1 x5_1).f1, (rd_T53 x0_1 x5_1).f2, (rd_T53 x0_1 x5_1).f3, (rd_T53 x0_1 x5_1).f4⟩ : S53) ) (fun _ hk => hk)
    have hx11_0 := hcc11 0 _ rfl
    (try simp only [show (k53).sz = 5 from rfl, Nat.mul_one, Nat.add_zero] at hx11_0)
    have hf11_0 := hfr11 0
    (try simp only [show (k53).sz = 5 from rfl, Nat.mul_one, Nat.add_zero] at hf11_0)
    clear hcl11 hcc11 hfr11 hM11
    go_wp2_with (first | ((with_reducible refine gate_store (t := 33) (p := 17) rfl ?_); refine store_event (t := 33) (p := 17) (v := ?vo_w12) (w1 := (wr.setCell ⟨go5, (x5_1 : Int).toNat * 5, none⟩ (.int .u64 (IntKind.u64.wrap (x1_1))))) ?hg ?ho ?hn ?hr ?_; (case ho => rfl); (case hg => rfl); (case hn => rfl); (case hr => first | (go_simp; done) | (go_simp; rfl)); intro w12 hw; have hg : wr.grownBy w12 (some go5) := (by rw [hw]; exact HP11.2); have hp_ : Kd.R k53 53 w12 w0.heap.size (fun k_ => (P0_ k_ ∨ w.heap.size ≤ k_)) (.slice (some ⟨go5, 0, none⟩) x0_1.length co10) y130 := (by rw [hw, Ny130.out]; exact HP11.1); clear HP11; have n0_ := Aside0.mk (hp_); have n1_ := Aside0.mk ((by rw [hw]; exact below_set (HB.out) GB5.out : Below w0.heap.size w0 w12)); have n2_ := Aside0.mk (Kept.of_grown (S := (fun k_ => P0_ k_)) hg u2_1 (fun k_ e_ => (HO_0.out.1 k_ e_))); clear HO_0; clear HB; clear HK; have HO_0 := n0_; have HB := n1_; have HK := n2_; clear n0_ n1_ n2_; clear hg hw hp_; have p6 : 0 ≤ (x5_1 : Int) := of_decide_eq_true u2_0; have q6 : (x5_1 : Int) < ((x0_1.length : Int) : Int) := of_decide_eq_true u2_0; obtain ⟨ce6, hcl6, hM6, hcc6, hfr6⟩ := Kd.R_elem HO_0.out z53 (x5_1 : Int) p6 q6; obtain rfl := k53_openM hM6; have hx6_0 : w12.cell? ⟨go5, (x5_1 : Int).toNat * 5, none⟩ = some (.int .u64 ((rd_T53 y130 x5_1).f0)) := hcc6 0 _ rfl; have hx6_1 : w12.cell? ⟨go5, (x5_1 : Int).toNat * 5 + 1, none⟩ = some (.int .u64 ((rd_T53 y130 x5_1).f1)) := hcc6 1 _ rfl; have hx6_2 : w12.cell? ⟨go5, (x5_1 : Int).toNat * 5 + 2, none⟩ = some (.int .u64 ((rd_T53 y130 x5_1).f2)) := hcc6 2 _ rfl; have hx6_3 : w12.cell? ⟨go5, (x5_1 : Int).toNat * 5 + 3, none⟩ = some (.int .u64 ((rd_T53 y130 x5_1).f3)) := hcc6 3 _ rfl; have hx6_4 : w12.cell? ⟨go5, (x5_1 : Int).toNat * 5 + 4, none⟩ = some (.int .i64 ((rd_T53 y130 x5_1).f4)) := hcc6 4 _ rfl; have hf6_0 : w12.frozen? ⟨go5, (x5_1 : Int).toNat * 5, none⟩ = false := hfr6 0; have hf6_1 : w12.frozen? ⟨go5, (x5_1 : Int).toNat * 5 + 1, none⟩ = false := hfr6 1; have hf6_2 : w12.frozen? ⟨go5, (x5_1 : Int).toNat * 5 + 2, none⟩ = false := hfr6 2; have hf6_3 : w12.frozen? ⟨go5, (x5_1 : Int).toNat * 5 + 3, none⟩ = false := hfr6 3; have hf6_4 : w12.frozen? ⟨go5, (x5_1 : Int).toNat * 5 + 4, none⟩ = false := hfr6 4; clear hcl6 hcc6 hfr6 hM6; replace p6 := eq_true p6; replace q6 := eq_true q6; have HX13 := Aside0.mk (show Kd.R k53 53 w12 w0.heap.size (fun k_ => (P0_ k_ ∨ w.heap.size ≤ k_)) (.slice (some ⟨go5, 0, none⟩) x0_1.length co10) y130 from u2_3); obtain ⟨ce13, hcl13, hM13, hcc13, hfr13⟩ := Kd.R_elem HX13.out z53 (x5_1 : Int) (of_decide_eq_true u2_0) (by have h_ : (x5_1 : Int) < ((x0_1.length : Int) : Int) := of_decide_eq_true u2_0; first | exact h_ | (have e_ := (Kd.R_reads' HO_0.out).1; omega) | simpa using h_); obtain rfl := k53_openM hM13; have HP13 := Kd.R_seg HX13.out (x5_1 : Int) (of_decide_eq_true u2_0) (by have h_ : (x5_1 : Int) < ((x0_1.length : Int) : Int) := of_decide_eq_true u2_0; first | exact h_ | (have e_ := (Kd.R_reads' HO_0.out).1; omega) | simpa using h_) (seg := [.int .u64 (IntKind.u64.wrap (wrap64 (x1_1 + 1)))]) (j := 1) hcl13 hcc13 (show 2 ≤ 5 from by decide) (x' := (⟨(rd_T53 y130 x5_1).f0, IntKind.u64.wrap (wrap64 (x1_1 + 1)), (rd_T53 y130 x5_1).f2, (rd_T53 y130 x5_1).f3, (rd_T53 y130 x5_1).f4⟩ : S53)) (k53_mkM _ _ _ (⟨(rd_T53 y130 x5_1).f0, IntKind.u64.wrap (wrap64 (x1_1 + 1)), (rd_T53 y130 x5_1).f2, (rd_T53 y130 x5_1).f3, (rd_T53 y130 x5_1).f4⟩ : S53) ) (fun _ hk => hk); have hx13_1 := hcc13 1 _ rfl; (try simp only [show (k53).sz = 5 from rfl, Nat.mul_one, Nat.add_zero] at hx13_1); have hf13_1 := hfr13 1; (try simp only [show (k53).sz = 5 from rfl, Nat.mul_one, Nat.add_zero] at hf13_1); clear hcl13 hcc13 hfr13 hM13) | ((with_reducible refine gate_store (t := 33) (p := 25) rfl ?_); refine store_event (t := 33) (p := 25) (v := ?vo_w14) (w1 := (w12.setCell ⟨go5, (x5_1 : Int).toNat * 5 + 1, none⟩ (.int .u64 (IntKind.u64.wrap (wrap64 (x1_1 + 1)))))) ?hg ?ho ?hn ?hr ?_; (case ho => rfl); (case hg => rfl); (case hn => rfl); (case hr => first | (go_simp; done) | (go_simp; rfl)); intro w14 hw; have hg : w12.grownBy w14 (some go5) := (by rw [hw]; exact HP13.2); have hp_ : Kd.R k53 53 w14 w0.heap.size (fun k_ => (P0_ k_ ∨ w.heap.size ≤ k_)) (.slice (some ⟨go5, 0, none⟩) x0_1.length co10) y131 := (by rw [hw, Ny131.out]; exact HP13.1); clear HP13; have n0_ := Aside0.mk (hp_); have n1_ := Aside0.mk ((by rw [hw]; exact below_set (HB.out) GB5.out : Below w0.heap.size w0 w14)); have n2_ := Aside0.mk (Kept.of_grown (S := (fun k_ => P0_ k_)) hg u2_1 (fun k_ e_ => (HO_0.out.1 k_ e_))); clear HO_0; clear HB; clear HK; have HO_0 := n0_; have HB := n1_; have HK := n2_; clear n0_ n1_ n2_; clear hg hw hp_; have p7 : 0 ≤ (x5_1 : Int) := of_decide_eq_true u2_0; have q7 : (x5_1 : Int) < ((x0_1.length : Int) : Int) := of_decide_eq_true u2_0; obtain ⟨ce7, hcl7, hM7, hcc7, hfr7⟩ := Kd.R_elem HO_0.out z53 (x5_1 : Int) p7 q7; obtain rfl := k53_openM hM7; have hx7_0 : w14.cell? ⟨go5, (x5_1 : Int).toNat * 5, none⟩ = some (.int .u64 ((rd_T53 y131 x5_1).f0)) := hcc7 0 _ rfl; have hx7_1 : w14.cell? ⟨go5, (x5_1 : Int).toNat * 5 + 1, none⟩ = some (.int .u64 ((rd_T53 y131 x5_1).f1)) := hcc7 1 _ rfl; have hx7_2 : w14.cell? ⟨go5, (x5_1 : Int).toNat * 5 + 2, none⟩ = some (.int .u64 ((rd_T53 y131 x5_1).f2)) := hcc7 2 _ rfl; have hx7_3 : w14.cell? ⟨go5, (x5_1 : Int).toNat * 5 + 3, none⟩ = some (.int .u64 ((rd_T53 y131 x5_1).f3)) := hcc7 3 _ rfl; have hx7_4 : w14.cell? ⟨go5, (x5_1 : Int).toNat * 5 + 4, none⟩ = some (.int .i64 ((rd_T53 y131 x5_1).f4)) := hcc7 4 _ rfl; have hf7_0 : w14.frozen? ⟨go5, (x5_1 : Int).toNat * 5, none⟩ = false := hfr7 0; have hf7_1 : w14.frozen? ⟨go5, (x5_1 : Int).toNat * 5 + 1, none⟩ = false := hfr7 1; have hf7_2 : w14.frozen? ⟨go5, (x5_1 : Int).toNat * 5 + 2, none⟩ = false := hfr7 2; have hf7_3 : w14.frozen? ⟨go5, (x5_1 : Int).toNat * 5 + 3, none⟩ = false := hfr7 3; have hf7_4 : w14.frozen? ⟨go5, (x5_1 : Int).toNat * 5 + 4, none⟩ = false := hfr7 4; clear hcl7 hcc7 hfr7 hM7; replace p7 := eq_true p7; replace q7 := eq_true q7; have HX15 := Aside0.mk (show Kd.R k53 53 w14 w0.heap.size (fun k_ => (P0_ k_ ∨ w.heap.size ≤ k_)) (.slice (some ⟨go5, 0, none⟩) x0_1.length co10) y131 from u2_3); obtain ⟨ce15, hcl15, hM15, hcc15, hfr15⟩ := Kd.R_elem HX15.out z53 (x5_1 : Int) (of_decide_eq_true u2_0) (by have h_ : (x5_1 : Int) < ((x0_1.length : Int) : Int) := of_decide_eq_true u2_0; first | exact h_ | (have e_ := (Kd.R_reads' HO_0.out).1; omega) | simpa using h_); obtain rfl := k53_openM hM15; have HP15 := Kd.R_seg HX15.out (x5_1 : Int) (of_decide_eq_true u2_0) (by have h_ : (x5_1 : Int) < ((x0_1.length : Int) : Int) := of_decide_eq_true u2_0; first | exact h_ | (have e_ := (Kd.R_reads' HO_0.out).1; omega) | simpa using h_) (seg := [.int .u64 (IntKind.u64.wrap (wrap64 ((wrap64 (x1_1 + 1)) + 1)))]) (j := 2) hcl15 hcc15 (show 3 ≤ 5 from by decide) (x' := (⟨(rd_T53 y131 x5_1).f0, (rd_T53 y131 x5_1).f1, IntKind.u64.wrap (wrap64 ((wrap64 (x1_1 + 1)) + 1)), (rd_T53 y131 x5_1).f3, (rd_T53 y131 x5_1).f4⟩ : S53)) (k53_mkM _ _ _ (⟨(rd_T53 y131 x5_1).f0, (rd_T53 y131 x5_1).f1, IntKind.u64.wrap (wrap64 ((wrap64 (x1_1 + 1)) + 1)), (rd_T53 y131 x5_1).f3, (rd_T53 y131 x5_1).f4⟩ : S53) ) (fun _ hk => hk); have hx15_2 := hcc15 2 _ rfl; (try simp only [show (k53).sz = 5 from rfl, Nat.mul_one, Nat.add_zero] at hx15_2); have hf15_2 := hfr15 2; (try simp only [show (k53).sz = 5 from rfl, Nat.mul_one, Nat.add_zero] at hf15_2); clear hcl15 hcc15 hfr15 hM15) | ((with_reducible refine gate_store (t := 33) (p := 33) rfl ?_); refine store_event (t := 33) (p := 33) (v := ?vo_w16) (w1 := (w14.setCell ⟨go5, (x5_1 : Int).toNat * 5 + 2, none⟩ (.int .u64 (IntKind.u64.wrap (wrap64 ((wrap64 (x1_1 + 1)) + 1)))))) ?hg ?ho ?hn ?hr ?_; (case ho => rfl); (case hg => rfl); (case hn => rfl); (case hr => first | (go_simp; done) | (go_simp; rfl)); intro w16 hw; have hg : w14.grownBy w16 (some go5) := (by rw [hw]; exact HP15.2); have hp_ : Kd.R k53 53 w16 w0.heap.size (fun k_ => (P0_ k_ ∨ w.heap.size ≤ k_)) (.slice (some ⟨go5, 0, none⟩) x0_1.length co10) y132 := (by rw [hw, Ny132.out]; exact HP15.1); clear HP15; have n0_ := Aside0.mk (hp_); have n1_ := Aside0.mk ((by rw [hw]; exact below_set (HB.out) GB5.out : Below w0.heap.size w0 w16)); have n2_ := Aside0.mk (Kept.of_grown (S := (fun k_ => P0_ k_)) hg u2_1 (fun k_ e_ => (HO_0.out.1 k_ e_))); clear HO_0; clear HB; clear HK; have HO_0 := n0_; have HB := n1_; have HK := n2_; clear n0_ n1_ n2_; clear hg hw hp_; have p8 : 0 ≤ (x5_1 : Int) := of_decide_eq_true u2_0; have q8 : (x5_1 : Int) < ((x0_1.length : Int) : Int) := of_decide_eq_true u2_0; obtain ⟨ce8, hcl8, hM8, hcc8, hfr8⟩ := Kd.R_elem HO_0.out z53 (x5_1 : Int) p8 q8; obtain rfl := k53_openM hM8; have hx8_0 : w16.cell? ⟨go5, (x5_1 : Int).toNat * 5, none⟩ = some (.int .u64 ((rd_T53 y132 x5_1).f0)) := hcc8 0 _ rfl; have hx8_1 : w16.cell? ⟨go5, (x5_1 : Int).toNat * 5 + 1, none⟩ = some (.int .u64 ((rd_T53 y132 x5_1).f1)) := hcc8 1 _ rfl; have hx8_2 : w16.cell? ⟨go5, (x5_1 : Int).toNat * 5 + 2, none⟩ = some (.int .u64 ((rd_T53 y132 x5_1).f2)) := hcc8 2 _ rfl; have hx8_3 : w16.cell? ⟨go5, (x5_1 : Int).toNat * 5 + 3, none⟩ = some (.int .u64 ((rd_T53 y132 x5_1).f3)) := hcc8 3 _ rfl; have hx8_4 : w16.cell? ⟨go5, (x5_1 : Int).toNat * 5 + 4, none⟩ = some (.int .i64 ((rd_T53 y132 x5_1).f4)) := hcc8 4 _ rfl; have hf8_0 : w16.frozen? ⟨go5, (x5_1 : Int).toNat * 5, none⟩ = false := hfr8 0; have hf8_1 : w16.frozen? ⟨go5, (x5_1 : Int).toNat * 5 + 1, none⟩ = false := hfr8 1; have hf8_2 : w16.frozen? ⟨go5, (x5_1 : Int).toNat * 5 + 2, none⟩ = false := hfr8 2; have hf8_3 : w16.frozen? ⟨go5, (x5_1 : Int).toNat * 5 + 3, none⟩ = false := hfr8 3; have hf8_4 : w16.frozen? ⟨go5, (x5_1 : Int).toNat * 5 + 4, none⟩ = false := hfr8 4; clear hcl8 hcc8 hfr8 hM8; replace p8 := eq_true p8; replace q8 := eq_true q8; have HX17 := Aside0.mk (show Kd.R k53 53 w16 w0.heap.size (fun k_ => (P0_ k_ ∨ w.heap.size ≤ k_)) (.slice (some ⟨go5, 0, none⟩) x0_1.length co10) y132 from u2_3); obtain ⟨ce17, hcl17, hM17, hcc17, hfr17⟩ := Kd.R_elem HX17.out z53 (x5_1 : Int) (of_decide_eq_true u2_0) (by have h_ : (x5_1 : Int) < ((x0_1.length : Int) : Int) := of_decide_eq_true u2_0; first | exact h_ | (have e_ := (Kd.R_reads' HO_0.out).1; omega) | simpa using h_); obtain rfl := k53_openM hM17; have HP17 := Kd.R_seg HX17.out (x5_1 : Int) (of_decide_eq_true u2_0) (by have h_ : (x5_1 : Int) < ((x0_1.length : Int) : Int) := of_decide_eq_true u2_0; first | exact h_ | (have e_ := (Kd.R_reads' HO_0.out).1; omega) | simpa using h_) (seg := [.int .u64 (IntKind.u64.wrap (wrap64 ((wrap64 ((wrap64 (x1_1 + 1)) + 1)) + 1)))]) (j := 3) hcl17 hcc17 (show 4 ≤ 5 from by decide) (x' := (⟨(rd_T53 y132 x5_1).f0, (rd_T53 y132 x5_1).f1, (rd_T53 y132 x5_1).f2, IntKind.u64.wrap (wrap64 ((wrap64 ((wrap64 (x1_1 + 1)) + 1)) + 1)), (rd_T53 y132 x5_1).f4⟩ : S53)) (k53_mkM _ _ _ (⟨(rd_T53 y132 x5_1).f0, (rd_T53 y132 x5_1).f1, (rd_T53 y132 x5_1).f2, IntKind.u64.wrap (wrap64 ((wrap64 ((wrap64 (x1_1 + 1)) + 1)) + 1)), (rd_T53 y132 x5_1).f4⟩ : S53) ) (fun _ hk => hk); have hx17_3 := hcc17 3 _ rfl; (try simp only [show (k53).sz = 5 from rfl, Nat.mul_one, Nat.add_zero] at hx17_3); have hf17_3 := hfr17 3; (try simp only [show (k53).sz = 5 from rfl, Nat.mul_one, Nat.add_zero] at hf17_3); clear hcl17 hcc17 hfr17 hM17) | ((with_reducible refine gate_store (t := 33) (p := 41) rfl ?_); refine store_event (t := 33) (p := 41) (v := ?vo_w18) (w1 := (w16.setCell ⟨go5, (x5_1 : Int).toNat * 5 + 3, none⟩ (.int .u64 (IntKind.u64.wrap (wrap64 ((wrap64 ((wrap64 (x1_1 + 1)) + 1)) + 1)))))) ?hg ?ho ?hn ?hr ?_; (case ho => rfl); (case hg => rfl); (case hn => rfl); (case hr => first | (go_simp; done) | (go_simp; rfl)); intro w18 hw; have hg : w16.grownBy w18 (some go5) := (by rw [hw]; exact HP17.2); have hp_ : Kd.R k53 53 w18 w0.heap.size (fun k_ => (P0_ k_ ∨ w.heap.size ≤ k_)) (.slice (some ⟨go5, 0, none⟩) x0_1.length co10) y133 := (by rw [hw, Ny133.out]; exact HP17.1); clear HP17; have n0_ := Aside0.mk (hp_); have n1_ := Aside0.mk ((by rw [hw]; exact below_set (HB.out) GB5.out : Below w0.heap.size w0 w18)); have n2_ := Aside0.mk (Kept.of_grown (S := (fun k_ => P0_ k_)) hg u2_1 (fun k_ e_ => (HO_0.out.1 k_ e_))); clear HO_0; clear HB; clear HK; have HO_0 := n0_; have HB := n1_; have HK := n2_; clear n0_ n1_ n2_; clear hg hw hp_; have p9 : 0 ≤ (x5_1 : Int) := of_decide_eq_true u2_0; have q9 : (x5_1 : Int) < ((x0_1.length : Int) : Int) := of_decide_eq_true u2_0; obtain ⟨ce9, hcl9, hM9, hcc9, hfr9⟩ := Kd.R_elem HO_0.out z53 (x5_1 : Int) p9 q9; obtain rfl := k53_openM hM9; have hx9_0 : w18.cell? ⟨go5, (x5_1 : Int).toNat * 5, none⟩ = some (.int .u64 ((rd_T53 y133 x5_1).f0)) := hcc9 0 _ rfl; have hx9_1 : w18.cell? ⟨go5, (x5_1 : Int).toNat * 5 + 1, none⟩ = some (.int .u64 ((rd_T53 y133 x5_1).f1)) := hcc9 1 _ rfl; have hx9_2 : w18.cell? ⟨go5, (x5_1 : Int).toNat * 5 + 2, none⟩ = some (.int .u64 ((rd_T53 y133 x5_1).f2)) := hcc9 2 _ rfl; have hx9_3 : w18.cell? ⟨go5, (x5_1 : Int).toNat * 5 + 3, none⟩ = some (.int .u64 ((rd_T53 y133 x5_1).f3)) := hcc9 3 _ rfl; have hx9_4 : w18.cell? ⟨go5, (x5_1 : Int).toNat * 5 + 4, none⟩ = some (.int .i64 ((rd_T53 y133 x5_1).f4)) := hcc9 4 _ rfl; have hf9_0 : w18.frozen? ⟨go5, (x5_1 : Int).toNat * 5, none⟩ = false := hfr9 0; have hf9_1 : w18.frozen? ⟨go5, (x5_1 : Int).toNat * 5 + 1, none⟩ = false := hfr9 1; have hf9_2 : w18.frozen? ⟨go5, (x5_1 : Int).toNat * 5 + 2, none⟩ = false := hfr9 2; have hf9_3 : w18.frozen? ⟨go5, (x5_1 : Int).toNat * 5 + 3, none⟩ = false := hfr9 3; have hf9_4 : w18.frozen? ⟨go5, (x5_1 : Int).toNat * 5 + 4, none⟩ = false := hfr9 4; clear hcl9 hcc9 hfr9 hM9; replace p9 := eq_true p9; replace q9 := eq_true q9; have HX19 := Aside0.mk (show Kd.R k53 53 w18 w0.heap.size (fun k_ => (P0_ k_ ∨ w.heap.size ≤ k_)) (.slice (some ⟨go5, 0, none⟩) x0_1.length co10) y133 from u2_3); obtain ⟨ce19, hcl19, hM19, hcc19, hfr19⟩ := Kd.R_elem HX19.out z53 (x5_1 : Int) (of_decide_eq_true u2_0) (by have h_ : (x5_1 : Int) < ((x0_1.length : Int) : Int) := of_decide_eq_true u2_0; first | exact h_ | (have e_ := (Kd.R_reads' HO_0.out).1; omega) | simpa using h_); obtain rfl := k53_openM hM19; have HP19 := Kd.R_seg HX19.out (x5_1 : Int) (of_decide_eq_true u2_0) (by have h_ : (x5_1 : Int) < ((x0_1.length : Int) : Int) := of_decide_eq_true u2_0; first | exact h_ | (have e_ := (Kd.R_reads' HO_0.out).1; omega) | simpa using h_) (seg := [.int .i64 (wrap64 ((wrap64 ((wrap64 ((wrap64 (x1_1 + 1)) + 1)) + 1)) + 1))]) (j := 4) hcl19 hcc19 (show 5 ≤ 5 from by decide) (x' := (⟨(rd_T53 y133 x5_1).f0, (rd_T53 y133 x5_1).f1, (rd_T53 y133 x5_1).f2, (rd_T53 y133 x5_1).f3, wrap64 ((wrap64 ((wrap64 ((wrap64 (x1_1 + 1)) + 1)) + 1)) + 1)⟩ : S53)) (k53_mkM _ _ _ (⟨(rd_T53 y133 x5_1).f0, (rd_T53 y133 x5_1).f1, (rd_T53 y133 x5_1).f2, (rd_T53 y133 x5_1).f3, wrap64 ((wrap64 ((wrap64 ((wrap64 (x1_1 + 1)) + 1)) + 1)) + 1)⟩ : S53) ) (fun _ hk => hk); have hx19_4 := hcc19 4 _ rfl; (try simp only [show (k53).sz = 5 from rfl, Nat.mul_one, Nat.add_zero] at hx19_4); have hf19_4 := hfr19 4; (try simp only [show (k53).sz = 5 from rfl, Nat.mul_one, Nat.add_zero] at hf19_4); clear hcl19 hcc19 hfr19 hM19) | ((with_reducible refine gate_store (t := 3) (p := 48) rfl ?_); refine store_event (t := 3) (p := 48) (v := ?vo_w20) (w1 := (w18.setCell ⟨go5, (x5_1 : Int).toNat * 5 + 4, none⟩ (.int .i64 (wrap64 ((wrap64 ((wrap64 ((wrap64 (x1_1 + 1)) + 1)) + 1)) + 1))))) ?hg ?ho ?hn ?hr ?_; (case ho => rfl); (case hg => rfl); (case hn => rfl); (case hr => first | (go_simp; done) | (go_simp; rfl)); intro w20 hw; have hg : w18.grownBy w20 (some go5) := (by rw [hw]; exact HP19.2); have hp_ : Kd.R k53 53 w20 w0.heap.size (fun k_ => (P0_ k_ ∨ w.heap.size ≤ k_)) (.slice (some ⟨go5, 0, none⟩) x0_1.length co10) y134 := (by rw [hw, Ny134.out]; exact HP19.1); clear HP19; have n0_ := Aside0.mk (hp_); have n1_ := Aside0.mk ((by rw [hw]; exact below_set (HB.out) GB5.out : Below w0.heap.size w0 w20)); have n2_ := Aside0.mk (Kept.of_grown (S := (fun k_ => P0_ k_)) hg u2_1 (fun k_ e_ => (HO_0.out.1 k_ e_))); clear HO_0; clear HB; clear HK; have HO_0 := n0_; have HB := n1_; have HK := n2_; clear n0_ n1_ n2_; clear hg hw hp_))
    go_roundg k1
    case measure => have := HK1.out; omega
    case rel => exact ⟨(y134), (wrap64 ((wrap64 ((wrap64 ((wrap64 ((wrap64 (x1_1 + 1)) + 1)) + 1)) + 1)) + 1)), (wrap64 (x5_1 + 1)), u2_5, u2_5, H', ⟨by have := HK1.out; omega⟩, ⟨u2_3⟩, ⟨u2_1⟩, ⟨u2_2⟩⟩

/-! ### laws_markBook: function 26 -/
def laws_markBook.f (k : Nat) (l0_0 : List (S53)) (a1 : Int) : Option (Int × (List (S53))) := (laws_markAccountS.f k l0_0 a1).bind fun bt136 => (some (bt136.1, bt136.2))
theorem laws_markBook.mono : ∀ a0 a1 k, LeO (laws_markBook.f k a0 a1) (laws_markBook.f (k + 1) a0 a1) := by
  intro a0 a1 k
  unfold laws_markBook.f
  repeat' first
      | (with_reducible exact laws_markAccountS.mono _ _ _)
      | (with_reducible exact LeO.refl _)
      | (with_reducible exact LeO.none _)
      | (with_reducible refine LeO.ite ?_ ?_)
      | (with_reducible refine LeO.bind ?_ (fun _ => ?_))
      | exact laws_markAccountS.mono _ _ _
      | exact LeO.none _
      | refine LeO.ite ?_ ?_
      | refine LeO.bind ?_ (fun _ => ?_)
set_option maxHeartbeats 8000000 in
set_option maxRecDepth 100000 in
theorem laws_markBook.calls (k : Nat) (P0_0_ : Nat → Prop) (u9000_ : Value) (l0_0 : List (S53)) (a1 : Int) (r1 : Int) (r2 : List (S53)) (w0 w : World) (hB : Below w0.heap.size w0 w) (ho0_0 : Kd.R k53 53 w w0.heap.size P0_0_ u9000_ l0_0) (h : laws_markBook.f k l0_0 a1 = some (r1, r2)) :
    Calls Try.prog 26 #[.agg #[u9000_], .int .i64 a1] w fun e w' => e = .returned (.int .i64 r1) ∧ Kd.R k53 53 w' w0.heap.size (fun k_ => (P0_0_ k_ ∨ w.heap.size ≤ k_)) u9000_ r2 ∧ Below w0.heap.size w0 w' ∧ Kept w w' (fun k_ => P0_0_ k_) := by
  have hu29 := Try.underlying29
  have HO0_0 := Aside0.mk (show Kd.R k53 53 w w0.heap.size (fun k_ => (P0_0_ k_ ∨ w.heap.size ≤ k_)) u9000_ l0_0 from Kd.R_mono ho0_0 (fun k_ hk => (.inl hk)))
  have HK := Aside0.mk (Kept.refl w (fun k_ => P0_0_ k_))
  have HW0 := Aside0.mk hB.size
  have HB := Aside0.mk hB
  clear hB
  have H : ((laws_markAccountS.f k l0_0 a1).bind fun bt136 => (some (bt136.1, bt136.2))) = some (r1, r2) := h
  clear h
  replace H := Option.bind_eq_some_iff.mp H
  obtain ⟨⟨t136, t137⟩, A30, H⟩ := H
  replace H : (some (t136, t137)) = some (r1, r2) := H
  have A3 := Aside0.mk A30
  clear A30
  simp only [Option.some.injEq, Prod.mk.injEq] at H
  obtain ⟨rfl, rfl⟩ := H
  obtain ⟨Ao4, co4, eo4⟩ := Kd.R_slice HO0_0.out
  subst eo4
  go_enter Try.func26, Try.ntmps26
  go_wp2_with (first | ((with_reducible refine gate_dst (N := 2) rfl ?_); refine box_event ?hg (N := 2) ?hd (cs := #[.slice Ao4 l0_0.length co4]) (t := 29) ?hr ?_; (case hd => rfl); (case hg => rfl); (case hr => first | (go_simp; done) | (go_simp; rfl)); intro gb135 hg w5 hbox hb; have n0_ := Aside0.mk (Kd.R_below u2_10 hb); have n1_ := Aside0.mk (Kept.below (S := (fun k_ => P0_0_ k_)) u2_1 hb); have n2_ := Aside0.mk (below_step u2_2 hb); have n3_ := Aside0.mk (hbox); have n4_ := Aside0.mk ((by rw [hg]; exact (by first | exact HK.out.1 | exact (show Kept w _ (fun k_ => P0_0_ k_) from by repeat (first | (with_reducible first | exact HK.out | apply Kept.alloc | apply Kept.drewN | apply Kept.drew) | exact HK.out)).1) : w.heap.size ≤ gb135)); have n5_ := Aside0.mk ((by rw [hg]; exact (below_size u2_2) : w0.heap.size ≤ gb135)); clear HO0_0; clear HK; clear HB; have HO0_0 := n0_; have HK := n1_; have HB := n2_; have BK135 := n3_; have GW135 := n4_; have GE135 := n5_; clear n0_ n1_ n2_ n3_ n4_ n5_; clear hb hbox hg; have hcz6_0 : w5.cell? ⟨gb135, 0, none⟩ = some (.slice Ao4 l0_0.length co4) := (blk_cell BK135.out 0).trans rfl; have hfz6_0 := blk_frozen BK135.out 0) | ((with_reducible refine gate_callee (f := 58) rfl ?_); refine goesL_ (some 8) rfl rfl Try.func58 (by kernel_rfl) rfl #[.slice Ao4 l0_0.length co4, .int .i64 a1] rfl u2_9 ?_; (with_reducible refine (laws_markAccountS.calls k (fun k_ => some k_ = (.slice Ao4 l0_0.length co4 : Value).ownBlock) (.slice Ao4 l0_0.length co4) l0_0 a1 t136 t137 w0 _ ?side1 ?side2 A3.out).mono ?_); (case side1 => exact u2_7); (case side2 => exact Kd.R_tight rfl HO0_0.out); rintro e w7 ⟨rfl, hy0, hb, hkp⟩; refine ⟨_, rfl, ?_⟩; have n0_ := Aside0.mk (Kd.R_reok rfl hy0 (fun k_ e_ => HO0_0.out.1 k_ e_)); have n1_ := Aside0.mk (blk_kept (by (with_reducible repeat (first | refine blk_drewN ?_ _ | refine blk_drew ?_ | refine blk_alloc ?_ _)); exact BK135.out) hkp (fun hs_ => (fun e_ => (Kd.R_ne HO0_0.out BK135.out (by decide)) e_) hs_)); have n2_ := Aside0.mk (Kept.then_ (S := (fun k_ => P0_0_ k_)) u2_6 hkp (fun k_ hs_ => (fun e_ => (HO0_0.out.1 k_ e_.symm)) hs_)); have n3_ := Aside0.mk (hb); clear HO0_0; clear BK135; clear HK; clear HB; have HO0_0 := n0_; have BK135 := n1_; have HK := n2_; have HB := n3_; clear n0_ n1_ n2_ n3_; (try clear hb); (try clear hkp); (try clear hy0)))
  go_ret
  exact ⟨by first | rfl | (simp [errW_none, errW_some] <;> rfl) | (simp [*, errW_none, errW_some] <;> rfl), u2_10, u2_7, u2_6⟩

/-! ### laws_heldAccountS: function 59 -/
def laws_heldAccountS.l0 : Nat → List (S53) → Int → Int → Option (Int)
  | 0, _, _, _ => none
  | k + 1, x0, x1, x5 => if x5 < (x0.length : Int) then (if 0 ≤ x5 then (if ((rd_T53 x0 x5).f0) = (IntKind.u64.wrap (x1)) then (if ((rd_T53 x0 x5).f1) = (IntKind.u64.wrap (wrap64 (x1 + 1))) then (if ((rd_T53 x0 x5).f2) = (IntKind.u64.wrap (wrap64 ((wrap64 (x1 + 1)) + 1))) then (if ((rd_T53 x0 x5).f3) = (IntKind.u64.wrap (wrap64 ((wrap64 ((wrap64 (x1 + 1)) + 1)) + 1))) then (if ((rd_T53 x0 x5).f4) = (wrap64 ((wrap64 ((wrap64 ((wrap64 (x1 + 1)) + 1)) + 1)) + 1)) then (laws_heldAccountS.l0 k x0 (wrap64 ((wrap64 ((wrap64 ((wrap64 ((wrap64 (x1 + 1)) + 1)) + 1)) + 1)) + 1)) (wrap64 (x5 + 1))) else (some (-1))) else (some (-1))) else (some (-1))) else (some (-1))) else (some (-1))) else (none)) else (some x1)
def laws_heldAccountS.f (k : Nat) (l0 : List (S53)) (a1 : Int) : Option (Int) := laws_heldAccountS.l0 k l0 a1 0
theorem laws_heldAccountS.mono_l : ∀ k, (∀ y0 y1 y2, LeO (laws_heldAccountS.l0 k y0 y1 y2) (laws_heldAccountS.l0 (k + 1) y0 y1 y2))
  | 0 => fun _ _ _ r h => by simp [laws_heldAccountS.l0] at h
  | k + 1 => by
    have ih0 := laws_heldAccountS.mono_l k
    · intro y0 y1 y2
      unfold laws_heldAccountS.l0
      repeat' first
      | (with_reducible exact ih0 _ _ _)
      | (with_reducible exact LeO.refl _)
      | (with_reducible exact LeO.none _)
      | (with_reducible refine LeO.ite ?_ ?_)
      | (with_reducible refine LeO.bind ?_ (fun _ => ?_))
      | exact ih0 _ _ _
      | exact LeO.none _
      | refine LeO.ite ?_ ?_
      | refine LeO.bind ?_ (fun _ => ?_)
theorem laws_heldAccountS.mono : ∀ a0 a1 k, LeO (laws_heldAccountS.f k a0 a1) (laws_heldAccountS.f (k + 1) a0 a1) := by
  intro a0 a1 k
  have ih0 := laws_heldAccountS.mono_l k
  unfold laws_heldAccountS.f
  repeat' first
      | (with_reducible exact ih0 _ _ _)
      | (with_reducible exact LeO.refl _)
      | (with_reducible exact LeO.none _)
      | (with_reducible refine LeO.ite ?_ ?_)
      | (with_reducible refine LeO.bind ?_ (fun _ => ?_))
      | exact ih0 _ _ _
      | exact LeO.none _
      | refine LeO.ite ?_ ?_
      | refine LeO.bind ?_ (fun _ => ?_)
set_option maxHeartbeats 8000000 in
set_option maxRecDepth 100000 in
theorem laws_heldAccountS.calls (k : Nat) (A0 : Option Addr) (c0 : Nat) (l0 : List (S53)) (a1 : Int) (r : Int) (w : World) (hr0 : Kd.C k53 w A0 l0.length l0) (hc0 : l0.length ≤ c0) (h : laws_heldAccountS.f k l0 a1 = some r) :
    Calls Try.prog 59 #[.slice A0 l0.length c0, .int .i64 a1] w fun e w' => e = .returned (.int .i64 r) ∧ Drawn0 w w' := by
  have HR0 := Aside0.mk hr0
  have HC0 := Aside0.mk hc0
  clear hr0 hc0
  have H : (laws_heldAccountS.l0 k l0 a1 0) = some r := h
  clear h
  have H' := Aside0.mk H
  clear H
  go_enter Try.func59, Try.ntmps59
  go_wp2
  go_loopg [1, 5] k (fun kq v1 v5 w' => ∃ (x1_1 : Int) (x5_1 : Int), v1 = .int .i64 x1_1 ∧ v5 = .int .i64 x5_1 ∧ Aside0 (laws_heldAccountS.l0 kq l0 x1_1 x5_1 = some r) ∧ Aside0 (kq ≤ k) ∧ Drawn0 w w')
  case atStart => exact ⟨(a1), (0), u2_5, u2_5, H', ⟨Nat.le_refl _⟩, u2_4⟩
  clear H'
  try clear p2
  obtain ⟨x1_1, x5_1, rfl, rfl, HA, HK1, ⟨m1, rfl⟩⟩ := hrel
  cases gk with
  | zero => exact absurd HA.out (by simp [laws_heldAccountS.l0])
  | succ k1 =>
    have H := HA.out
    clear HA
    simp only [laws_heldAccountS.l0] at H
    by_cases c3 : x5_1 < (l0.length : Int)
    rotate_left
    · rw [if_neg c3] at H
      have c3b0 : decide (x5_1 < (l0.length : Int)) = false := decide_eq_false c3
      clear c3
      obtain rfl := Option.some.inj H
      go_wp2
      go_ret
      exact ⟨by first | rfl | (simp; done) | (simp [*]; done), u2_4⟩
    rw [if_pos c3] at H
    have c3b0 : decide (x5_1 < (l0.length : Int)) = true := decide_eq_true c3
    clear c3
    by_cases c4 : 0 ≤ x5_1
    rotate_left
    · rw [if_neg c4] at H
      exact absurd H (by simp)
    rw [if_pos c4] at H
    have c4b0 : decide (0 ≤ x5_1) = true := decide_eq_true c4
    clear c4
    have H9 := Aside0.mk H
    clear H
    have p138 : 0 ≤ (x5_1 : Int) := of_decide_eq_true u2_0
    have q138 : x5_1 < (l0.length : Int) := of_decide_eq_true u2_0
    obtain ⟨ad138, e138, hx138_0, hx138_1, hx138_2, hx138_3, hx138_4⟩ := at_T53 HR0.out x5_1 p138 q138
    cases e138
    replace p138 := eq_true p138
    replace q138 := eq_true q138
    go_upto_if 19 with (fail)
    have H := H9.out
    clear H9
    by_cases c5 : ((rd_T53 l0 x5_1).f0) = (IntKind.u64.wrap (x1_1))
    rotate_left
    · rw [if_neg c5] at H
      have c5b0 : (((rd_T53 l0 x5_1).f0) == (IntKind.u64.wrap (x1_1))) = false := beq_eq_false_iff_ne.mpr c5
      have c5b1 : (((rd_T53 l0 x5_1).f0) != (IntKind.u64.wrap (x1_1))) = true := bne_iff_ne.mpr c5
      (first | rw [c5b0] | (simp only [i64_w, i32_w]; rw [c5b0]) | skip)
      obtain rfl := Option.some.inj H
      go_wp2
      go_ret
      exact ⟨by first | rfl | (simp; done) | (simp [*]; done), u2_4⟩
    rw [if_pos c5] at H
    have c5b0 : (((rd_T53 l0 x5_1).f0) == (IntKind.u64.wrap (x1_1))) = true := beq_iff_eq.mpr c5
    have c5b1 : (((rd_T53 l0 x5_1).f0) != (IntKind.u64.wrap (x1_1))) = false := bne_eq_false_iff_eq.mpr c5
    clear c5
    (first | rw [c5b0] | (simp only [i64_w, i32_w]; rw [c5b0]) | skip)
    have H9 := Aside0.mk H
    clear H
    have p139 : 0 ≤ (x5_1 : Int) := of_decide_eq_true u2_0
    have q139 : x5_1 < (l0.length : Int) := of_decide_eq_true u2_0
    obtain ⟨ad139, e139, hx139_0, hx139_1, hx139_2, hx139_3, hx139_4⟩ := at_T53 HR0.out x5_1 p139 q139
    obtain rfl : ad138 = ad139 := (by injection e139)
    replace p139 := eq_true p139
    replace q139 := eq_true q139
    go_upto_if 29 with (fail)
    have H := H9.out
    clear H9
    by_cases c6 : ((rd_T53 l0 x5_1).f1) = (IntKind.u64.wrap (wrap64 (x1_1 + 1)))
    rotate_left
    · rw [if_neg c6] at H
      have c6b0 : (((rd_T53 l0 x5_1).f1) == (IntKind.u64.wrap (wrap64 (x1_1 + 1)))) = false := beq_eq_false_iff_ne.mpr c6
      have c6b1 : (((rd_T53 l0 x5_1).f1) != (IntKind.u64.wrap (wrap64 (x1_1 + 1)))) = true := bne_iff_ne.mpr c6
      (first | rw [c6b0] | (simp only [i64_w, i32_w]; rw [c6b0]) | skip)
      obtain rfl := Option.some.inj H
      go_wp2
      go_ret
      exact ⟨by first | rfl | (simp; done) | (simp [*]; done), u2_4⟩
    rw [if_pos c6] at H
    have c6b0 : (((rd_T53 l0 x5_1).f1) == (IntKind.u64.wrap (wrap64 (x1_1 + 1)))) = true := beq_iff_eq.mpr c6
    have c6b1 : (((rd_T53 l0 x5_1).f1) != (IntKind.u64.wrap (wrap64 (x1_1 + 1)))) = false := bne_eq_false_iff_eq.mpr c6
    clear c6
    (first | rw [c6b0] | (simp only [i64_w, i32_w]; rw [c6b0]) | skip)
    have H9 := Aside0.mk H
    clear H
    have p140 : 0 ≤ (x5_1 : Int) := of_decide_eq_true u2_0
    have q140 : x5_1 < (l0.length : Int) := of_decide_eq_true u2_0
    obtain ⟨ad140, e140, hx140_0, hx140_1, hx140_2, hx140_3, hx140_4⟩ := at_T53 HR0.out x5_1 p140 q140
    obtain rfl : ad138 = ad140 := (by injection e140)
    replace p140 := eq_true p140
    replace q140 := eq_true q140
    go_upto_if 39 with (fail)
    have H := H9.out
    clear H9
    by_cases c7 : ((rd_T53 l0 x5_1).f2) = (IntKind.u64.wrap (wrap64 ((wrap64 (x1_1 + 1)) + 1)))
    rotate_left
    · rw [if_neg c7] at H
      have c7b0 : (((rd_T53 l0 x5_1).f2) == (IntKind.u64.wrap (wrap64 ((wrap64 (x1_1 + 1)) + 1)))) = false := beq_eq_false_iff_ne.mpr c7
      have c7b1 : (((rd_T53 l0 x5_1).f2) != (IntKind.u64.wrap (wrap64 ((wrap64 (x1_1 + 1)) + 1)))) = true := bne_iff_ne.mpr c7
      (first | rw [c7b0] | (simp only [i64_w, i32_w]; rw [c7b0]) | skip)
      obtain rfl := Option.some.inj H
      go_wp2
      go_ret
      exact ⟨by first | rfl | (simp; done) | (simp [*]; done), u2_4⟩
    rw [if_pos c7] at H
    have c7b0 : (((rd_T53 l0 x5_1).f2) == (IntKind.u64.wrap (wrap64 ((wrap64 (x1_1 + 1)) + 1)))) = true := beq_iff_eq.mpr c7
    have c7b1 : (((rd_T53 l0 x5_1).f2) != (IntKind.u64.wrap (wrap64 ((wrap64 (x1_1 + 1)) + 1)))) = false := bne_eq_false_iff_eq.mpr c7
    clear c7
    (first | rw [c7b0] | (simp only [i64_w, i32_w]; rw [c7b0]) | skip)
    have H9 := Aside0.mk H
    clear H
    have p141 : 0 ≤ (x5_1 : Int) := of_decide_eq_true u2_0
    have q141 : x5_1 < (l0.length : Int) := of_decide_eq_true u2_0
    obtain ⟨ad141, e141, hx141_0, hx141_1, hx141_2, hx141_3, hx141_4⟩ := at_T53 HR0.out x5_1 p141 q141
    obtain rfl : ad138 = ad141 := (by injection e141)
    replace p141 := eq_true p141
    replace q141 := eq_true q141
    go_upto_if 49 with (fail)
    have H := H9.out
    clear H9
    by_cases c8 : ((rd_T53 l0 x5_1).f3) = (IntKind.u64.wrap (wrap64 ((wrap64 ((wrap64 (x1_1 + 1)) + 1)) + 1)))
    rotate_left
    · rw [if_neg c8] at H
      have c8b0 : (((rd_T53 l0 x5_1).f3) == (IntKind.u64.wrap (wrap64 ((wrap64 ((wrap64 (x1_1 + 1)) + 1)) + 1)))) = false := beq_eq_false_iff_ne.mpr c8
      have c8b1 : (((rd_T53 l0 x5_1).f3) != (IntKind.u64.wrap (wrap64 ((wrap64 ((wrap64 (x1_1 + 1)) + 1)) + 1)))) = true := bne_iff_ne.mpr c8
      (first | rw [c8b0] | (simp only [i64_w, i32_w]; rw [c8b0]) | skip)
      obtain rfl := Option.some.inj H
      go_wp2
      go_ret
      exact ⟨by first | rfl | (simp; done) | (simp [*]; done), u2_4⟩
    rw [if_pos c8] at H
    have c8b0 : (((rd_T53 l0 x5_1).f3) == (IntKind.u64.wrap (wrap64 ((wrap64 ((wrap64 (x1_1 + 1)) + 1)) + 1)))) = true := beq_iff_eq.mpr c8
    have c8b1 : (((rd_T53 l0 x5_1).f3) != (IntKind.u64.wrap (wrap64 ((wrap64 ((wrap64 (x1_1 + 1)) + 1)) + 1)))) = false := bne_eq_false_iff_eq.mpr c8
    clear c8
    (first | rw [c8b0] | (simp only [i64_w, i32_w]; rw [c8b0]) | skip)
    have H9 := Aside0.mk H
    clear H
    have p142 : 0 ≤ (x5_1 : Int) := of_decide_eq_true u2_0
    have q142 : x5_1 < (l0.length : Int) := of_decide_eq_true u2_0
    obtain ⟨ad142, e142, hx142_0, hx142_1, hx142_2, hx142_3, hx142_4⟩ := at_T53 HR0.out x5_1 p142 q142
    obtain rfl : ad138 = ad142 := (by injection e142)
    replace p142 := eq_true p142
    replace q142 := eq_true q142
    go_upto_if 58 with (fail)
    have H := H9.out
    clear H9
    by_cases c9 : ((rd_T53 l0 x5_1).f4) = (wrap64 ((wrap64 ((wrap64 ((wrap64 (x1_1 + 1)) + 1)) + 1)) + 1))
    rotate_left
    · rw [if_neg c9] at H
      have c9b0 : (((rd_T53 l0 x5_1).f4) == (wrap64 ((wrap64 ((wrap64 ((wrap64 (x1_1 + 1)) + 1)) + 1)) + 1))) = false := beq_eq_false_iff_ne.mpr c9
      have c9b1 : (((rd_T53 l0 x5_1).f4) != (wrap64 ((wrap64 ((wrap64 ((wrap64 (x1_1 + 1)) + 1)) + 1)) + 1))) = true := bne_iff_ne.mpr c9
      (first | rw [c9b0] | (simp only [i64_w, i32_w]; rw [c9b0]) | skip)
      obtain rfl := Option.some.inj H
      go_wp2
      go_ret
      exact ⟨by first | rfl | (simp; done) | (simp [*]; done), u2_4⟩
    rw [if_pos c9] at H
    have c9b0 : (((rd_T53 l0 x5_1).f4) == (wrap64 ((wrap64 ((wrap64 ((wrap64 (x1_1 + 1)) + 1)) + 1)) + 1))) = true := beq_iff_eq.mpr c9
    have c9b1 : (((rd_T53 l0 x5_1).f4) != (wrap64 ((wrap64 ((wrap64 ((wrap64 (x1_1 + 1)) + 1)) + 1)) + 1))) = false := bne_eq_false_iff_eq.mpr c9
    clear c9
    (first | rw [c9b0] | (simp only [i64_w, i32_w]; rw [c9b0]) | skip)
    have H' := Aside0.mk H
    clear H
    go_wp2
    go_roundg k1
    case measure => have := HK1.out; omega
    case rel => exact ⟨(wrap64 ((wrap64 ((wrap64 ((wrap64 ((wrap64 (x1_1 + 1)) + 1)) + 1)) + 1)) + 1)), (wrap64 (x5_1 + 1)), u2_5, u2_5, H', ⟨by have := HK1.out; omega⟩, u2_4⟩

/-! ### laws_heldBook: function 27 -/
def laws_heldBook.f (k : Nat) (l0_0 : List (S53)) (a1 : Int) : Option (Int) := (laws_heldAccountS.f k l0_0 a1).bind fun t144 => (if t144 < 0 then (some (-1)) else (some t144))
theorem laws_heldBook.mono : ∀ a0 a1 k, LeO (laws_heldBook.f k a0 a1) (laws_heldBook.f (k + 1) a0 a1) := by
  intro a0 a1 k
  unfold laws_heldBook.f
  repeat' first
      | (with_reducible exact laws_heldAccountS.mono _ _ _)
      | (with_reducible exact LeO.refl _)
      | (with_reducible exact LeO.none _)
      | (with_reducible refine LeO.ite ?_ ?_)
      | (with_reducible refine LeO.bind ?_ (fun _ => ?_))
      | exact laws_heldAccountS.mono _ _ _
      | exact LeO.none _
      | refine LeO.ite ?_ ?_
      | refine LeO.bind ?_ (fun _ => ?_)
set_option maxHeartbeats 8000000 in
set_option maxRecDepth 100000 in
theorem laws_heldBook.calls (k : Nat) (A0_0 : Option Addr) (c0_0 : Nat) (l0_0 : List (S53)) (a1 : Int) (r : Int) (w : World) (hr0_0 : Kd.C k53 w A0_0 l0_0.length l0_0) (hc0_0 : l0_0.length ≤ c0_0) (h : laws_heldBook.f k l0_0 a1 = some r) :
    Calls Try.prog 27 #[.agg #[.slice A0_0 l0_0.length c0_0], .int .i64 a1] w fun e w' => e = .returned (.int .i64 r) ∧ Below w.heap.size w w' := by
  have hu29 := Try.underlying29
  have HR0_0 := Aside0.mk hr0_0
  have HC0_0 := Aside0.mk hc0_0
  clear hr0_0 hc0_0
  have HB := Aside0.mk (Below.refl w.heap.size w)
  have H : ((laws_heldAccountS.f k l0_0 a1).bind fun t144 => (if t144 < 0 then (some (-1)) else (some t144))) = some r := h
  clear h
  replace H := Option.bind_eq_some_iff.mp H
  obtain ⟨t144, A30, H⟩ := H
  replace H : (if t144 < 0 then (some (-1)) else (some t144)) = some r := H
  have A3 := Aside0.mk A30
  clear A30
  have H9 := Aside0.mk H
  clear H
  go_enter Try.func27, Try.ntmps27
  go_upto_if 10 with (first | ((with_reducible refine gate_dst (N := 2) rfl ?_); refine box_event ?hg (N := 2) ?hd (cs := #[.slice A0_0 l0_0.length c0_0]) (t := 29) ?hr ?_; (case hd => rfl); (case hg => rfl); (case hr => first | (go_simp; done) | (go_simp; rfl)); intro gb143 hg w4 hbox hb; have n0_ := Aside0.mk (below_step u2_2 hb); have n1_ := Aside0.mk (hbox); have n2_ := Aside0.mk ((by rw [hg]; exact (below_size u2_2) : w.heap.size ≤ gb143)); have n3_ := Aside0.mk ((by rw [hg]; exact (below_size u2_2) : w.heap.size ≤ gb143)); clear HB; have HB := n0_; have BK143 := n1_; have GW143 := n2_; have GE143 := n3_; clear n0_ n1_ n2_ n3_; clear hb hbox hg; have hcz5_0 : w4.cell? ⟨gb143, 0, none⟩ = some (.slice A0_0 l0_0.length c0_0) := (blk_cell BK143.out 0).trans rfl; have hfz5_0 := blk_frozen BK143.out 0) | ((with_reducible refine gate_callee (f := 59) rfl ?_); refine goesL_ (some 8) rfl rfl Try.func59 (by kernel_rfl) rfl #[.slice A0_0 l0_0.length c0_0, .int .i64 a1] rfl u2_9 ?_; (with_reducible refine (laws_heldAccountS.calls k _ _ l0_0 a1 t144 _ ?side1 ?side2 A3.out).mono ?_); (case side1 => exact (by repeat (first | exact (Kd.C_below HR0_0.out HB.out) | (with_reducible refine Kd.C_alloc ?_ _) | (with_reducible refine Kd.C_drewN ?_ _) | (with_reducible refine Kd.C_drew ?_)))); (case side2 => exact HC0_0.out); rintro e w' ⟨rfl, ⟨nd, rfl⟩⟩; refine ⟨_, rfl, ?_⟩))
  have H := H9.out
  clear H9
  by_cases c6 : t144 < 0
  · rw [if_pos c6] at H
    have c6b0 : decide (t144 < 0) = true := decide_eq_true c6
    clear c6
    (first | rw [c6b0] | (simp only [i64_w, i32_w]; rw [c6b0]) | skip)
    obtain rfl := Option.some.inj H
    go_wp2
    go_ret
    exact ⟨by first | rfl | (simp [errW_none, errW_some] <;> rfl) | (simp [*, errW_none, errW_some] <;> rfl), u2_8⟩
  rw [if_neg c6] at H
  have c6b0 : decide (t144 < 0) = false := decide_eq_false c6
  clear c6
  (first | rw [c6b0] | (simp only [i64_w, i32_w]; rw [c6b0]) | skip)
  obtain rfl := Option.some.inj H
  go_wp2
  go_ret
  exact ⟨by first | rfl | (simp [errW_none, errW_some] <;> rfl) | (simp [*, errW_none, errW_some] <;> rfl), u2_8⟩

end Go.Proofs.Ytdbfjakhkclggaa.QFnExactOpenAccount
