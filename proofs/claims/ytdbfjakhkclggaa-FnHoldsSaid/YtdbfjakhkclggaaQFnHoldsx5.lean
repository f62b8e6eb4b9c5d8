-- Printed by the session's own program wip/prx.py.
import Derived.Test.YtdbfjakhkclggaaQFnHoldsx0
import Derived.Test.YtdbfjakhkclggaaQFnHoldsx4
namespace Go.Proofs.Ytdbfjakhkclggaa.QFnHolds
open Go.RowKit Go.Proofs.YtdbfjakhkclggaaW.PrintWords Go.Proofs.YtdbfjakhkclggaaW.PrintLast Go.Proofs.YtdbfjakhkclggaaW.PrintMore
attribute [local go_sem] max2_int min2_int max_two min_two max_three min_three max_four min_four Go.Proofs.Ytdbfjakhkclggaa.Set.isSome_setCell Go.Proofs.Ytdbfjakhkclggaa.Add.add64   -- for this text's walks alone
set_option linter.unusedVariables false
set_option linter.unusedSimpArgs false

-- squeezed
theorem u5_0 {P : Prop} (h : P := by repeat (first | (with_reducible first | exact HB.out | apply below_alloc | apply pw_below_drewN | apply below_drew1 | refine below_set ?_ GE135.out | refine below_set ?_ GE136.out | refine below_set ?_ GE143.out | refine below_set ?_ GE150.out) | exact HB.out)) : P := h
theorem u5_1 {P : Prop} (h : P := by (with_reducible repeat (first | refine blk_drewN ?_ _ | refine blk_drew ?_ | refine blk_alloc ?_ _)); exact BK135.out) : P := h
theorem u5_2 {P : Prop} (h : P := by (with_reducible repeat (first | refine blk_drewN ?_ _ | refine blk_drew ?_ | refine blk_alloc ?_ _)); exact BK143.out) : P := h
theorem u5_3 {P : Prop} (h : P := by (with_reducible repeat (first | refine blk_drewN ?_ _ | refine blk_drew ?_ | refine blk_alloc ?_ _)); exact BK136.out) : P := h
theorem u5_4 {P : Prop} (h : P := by (with_reducible repeat (first | refine blk_drewN ?_ _ | refine blk_drew ?_ | refine blk_alloc ?_ _)); exact BK150.out) : P := h
theorem u5_5 {P : Prop} (h : P := by (with_reducible repeat (first | refine blk_drewN ?_ _ | refine blk_drew ?_ | refine blk_alloc ?_ _)); refine blk_put (cs := #[.slice none 0 0]) ?_ 0 _ rfl; (with_reducible repeat (first | refine blk_drewN ?_ _ | refine blk_drew ?_ | refine blk_alloc ?_ _)); exact BK136.out) : P := h
theorem u5_6 {P : Prop} (h : P := by (with_reducible repeat (first | refine blk_drewN ?_ _ | refine blk_drew ?_ | refine blk_alloc ?_ _)); refine blk_put (cs := #[.int .u64 t144, .int .u64 t145, .int .u64 t146, .int .u64 t147, .int .i64 0]) ?_ 4 _ rfl; (with_reducible repeat (first | refine blk_drewN ?_ _ | refine blk_drew ?_ | refine blk_alloc ?_ _)); refine blk_put (cs := #[.int .u64 t144, .int .u64 t145, .int .u64 t146, .int .u64 0, .int .i64 0]) ?_ 3 _ rfl; (with_reducible repeat (first | refine blk_drewN ?_ _ | refine blk_drew ?_ | refine blk_alloc ?_ _)); refine blk_put (cs := #[.int .u64 t144, .int .u64 t145, .int .u64 0, .int .u64 0, .int .i64 0]) ?_ 2 _ rfl; (with_reducible repeat (first | refine blk_drewN ?_ _ | refine blk_drew ?_ | refine blk_alloc ?_ _)); refine blk_put (cs := #[.int .u64 t144, .int .u64 0, .int .u64 0, .int .u64 0, .int .i64 0]) ?_ 1 _ rfl; (with_reducible repeat (first | refine blk_drewN ?_ _ | refine blk_drew ?_ | refine blk_alloc ?_ _)); refine blk_put (cs := #[.int .u64 0, .int .u64 0, .int .u64 0, .int .u64 0, .int .i64 0]) ?_ 0 _ rfl; (with_reducible repeat (first | refine blk_drewN ?_ _ | refine blk_drew ?_ | refine blk_alloc ?_ _)); exact BK150.out) : P := h
theorem u5_7 {P : Prop} (h : P := by (try simp only [List.map_toArray, List.map_cons, List.map_nil]); first | done | rfl | (simp only [List.length_drop, List.length_take]; rfl)) : P := h
theorem u5_8 {P : Prop} (h : P := by repeat (first | exact (Kd.C_below HR0_0.out HB.out) | (with_reducible refine Kd.C_alloc ?_ _) | (with_reducible refine Kd.C_drewN ?_ _) | (with_reducible refine Kd.C_drew ?_))) : P := h
theorem u5_9 {P : Prop} (h : P := by repeat (first | (with_reducible first | exact HB.out | apply below_alloc | apply pw_below_drewN | apply below_drew1 | refine below_set ?_ GE135.out | refine below_set ?_ GE136.out | refine below_set ?_ GE143.out) | exact HB.out)) : P := h
theorem u5_10 {P : Prop} (h : P := by (with_reducible repeat (first | refine blk_drewN ?_ _ | refine blk_drew ?_ | refine blk_alloc ?_ _)); refine blk_far ?_ NB135_150.out _; (with_reducible repeat (first | refine blk_drewN ?_ _ | refine blk_drew ?_ | refine blk_alloc ?_ _)); refine blk_far ?_ NB135_150.out _; (with_reducible repeat (first | refine blk_drewN ?_ _ | refine blk_drew ?_ | refine blk_alloc ?_ _)); refine blk_far ?_ NB135_150.out _; (with_reducible repeat (first | refine blk_drewN ?_ _ | refine blk_drew ?_ | refine blk_alloc ?_ _)); refine blk_far ?_ NB135_150.out _; (with_reducible repeat (first | refine blk_drewN ?_ _ | refine blk_drew ?_ | refine blk_alloc ?_ _)); refine blk_far ?_ NB135_150.out _; (with_reducible repeat (first | refine blk_drewN ?_ _ | refine blk_drew ?_ | refine blk_alloc ?_ _)); exact BK135.out) : P := h
theorem u5_11 {P : Prop} (h : P := by (with_reducible repeat (first | refine blk_drewN ?_ _ | refine blk_drew ?_ | refine blk_alloc ?_ _)); refine blk_far ?_ NB136_150.out _; (with_reducible repeat (first | refine blk_drewN ?_ _ | refine blk_drew ?_ | refine blk_alloc ?_ _)); refine blk_far ?_ NB136_150.out _; (with_reducible repeat (first | refine blk_drewN ?_ _ | refine blk_drew ?_ | refine blk_alloc ?_ _)); refine blk_far ?_ NB136_150.out _; (with_reducible repeat (first | refine blk_drewN ?_ _ | refine blk_drew ?_ | refine blk_alloc ?_ _)); refine blk_far ?_ NB136_150.out _; (with_reducible repeat (first | refine blk_drewN ?_ _ | refine blk_drew ?_ | refine blk_alloc ?_ _)); refine blk_far ?_ NB136_150.out _; (with_reducible repeat (first | refine blk_drewN ?_ _ | refine blk_drew ?_ | refine blk_alloc ?_ _)); exact BK136.out) : P := h
theorem u5_12 {P : Prop} (h : P := by (with_reducible repeat (first | refine blk_drewN ?_ _ | refine blk_drew ?_ | refine blk_alloc ?_ _)); refine blk_far ?_ NB143_150.out _; (with_reducible repeat (first | refine blk_drewN ?_ _ | refine blk_drew ?_ | refine blk_alloc ?_ _)); refine blk_far ?_ NB143_150.out _; (with_reducible repeat (first | refine blk_drewN ?_ _ | refine blk_drew ?_ | refine blk_alloc ?_ _)); refine blk_far ?_ NB143_150.out _; (with_reducible repeat (first | refine blk_drewN ?_ _ | refine blk_drew ?_ | refine blk_alloc ?_ _)); refine blk_far ?_ NB143_150.out _; (with_reducible repeat (first | refine blk_drewN ?_ _ | refine blk_drew ?_ | refine blk_alloc ?_ _)); refine blk_far ?_ NB143_150.out _; (with_reducible repeat (first | refine blk_drewN ?_ _ | refine blk_drew ?_ | refine blk_alloc ?_ _)); exact BK143.out) : P := h
theorem u5_13 {P : Prop} (h : P := by repeat (first | (with_reducible first | exact HB.out | apply below_alloc | apply pw_below_drewN | apply below_drew1 | refine below_set ?_ GE135.out | refine below_set ?_ GE136.out) | exact HB.out)) : P := h
theorem u5_14 {P : Prop} (h : P := by repeat (first | (with_reducible first | exact HB.out | apply below_alloc | apply pw_below_drewN | apply below_drew1 | refine below_set ?_ GE135.out) | exact HB.out)) : P := h
theorem u5_15 {P : Prop} (h : P := by repeat (first | (with_reducible first | exact HB.out | apply below_alloc | apply pw_below_drewN | apply below_drew1) | exact HB.out)) : P := h
theorem u5_16 {P : Prop} (h : P := by first | rfl | (simp; done) | (simp [*]; done)) : P := h
theorem u5_17 {P : Prop} (h : P := by (with_reducible repeat (first | apply Kd.R_alloc | apply Kd.R_drewN | apply Kd.R_drew)); exact HO168.out) : P := h
/-! ### spec_MoveMoney: function 24 -/
mutual
def spec_MoveMoney.j0 : Nat → Int → Int → Int → Bool → List (S53) → Int → Int → Int → Int → Int → Int → Int → Int → Int → Int → Option ((List (S53)) × Int)
  | 0, _, _, _, _, _, _, _, _, _, _, _, _, _, _, _ => none
  | k + 1, x3, x11, x13, x26, x136000, x144000, x144001, x144002, x144003, x144004, x151000, x151001, x151002, x151003, x151004 => if x26 = true then ((spec_l10Copy.f k x136000).bind fun t151 => (some (t151, 1))) else (if x11 = 0 then (spec_MoveMoney.j1 k x3 (x13 != 0) x136000 x144000 x144001 x144002 x144003 x144004 x151000 x151001 x151002 x151003 x151004) else (spec_MoveMoney.j1 k x3 true x136000 x144000 x144001 x144002 x144003 x144004 x151000 x151001 x151002 x151003 x151004))
def spec_MoveMoney.j1 : Nat → Int → Bool → List (S53) → Int → Int → Int → Int → Int → Int → Int → Int → Int → Int → Option ((List (S53)) × Int)
  | 0, _, _, _, _, _, _, _, _, _, _, _, _, _ => none
  | k + 1, x3, x36, x136000, x144000, x144001, x144002, x144003, x144004, x151000, x151001, x151002, x151003, x151004 => if x36 = true then ((spec_l10Copy.f k x136000).bind fun t154 => (some (t154, 2))) else (if x144004 = 0 then (spec_MoveMoney.j2 k x3 (x151004 != 0) x136000 x144000 x144001 x144002 x144003 x144004 x151000 x151001 x151002 x151003 x151004) else (spec_MoveMoney.j2 k x3 true x136000 x144000 x144001 x144002 x144003 x144004 x151000 x151001 x151002 x151003 x151004))
def spec_MoveMoney.j2 : Nat → Int → Bool → List (S53) → Int → Int → Int → Int → Int → Int → Int → Int → Int → Int → Option ((List (S53)) × Int)
  | 0, _, _, _, _, _, _, _, _, _, _, _, _, _ => none
  | k + 1, x3, x45, x136000, x144000, x144001, x144002, x144003, x144004, x151000, x151001, x151002, x151003, x151004 => if x45 = true then ((spec_l10Copy.f k x136000).bind fun t157 => (some (t157, 6))) else (if x3 > x144001 then ((spec_l10Copy.f k x136000).bind fun t160 => (some (t160, 4))) else (if x3 > (IntKind.u64.wrap (18446744073709551615 - x151001)) then ((spec_l10Copy.f k x136000).bind fun t163 => (some (t163, 5))) else ((spec_l10With.f k x136000 x144000 (IntKind.u64.wrap (x144001 - x3)) x144002 x144003 x144004).bind fun t166 => ((spec_l10With.f k t166 x151000 (IntKind.u64.wrap (x151001 + x3)) x151002 x151003 x151004).bind fun t169 => (some (t169, 0))))))
end
def spec_MoveMoney.f (k : Nat) (l0_0 : List (S53)) (a1 : Int) (a2 : Int) (a3 : Int) : Option ((List (S53)) × Int) := (spec_l10Of.f k l0_0 a1 1).bind fun bt137 => ((spec_l10Of.f k l0_0 a2 1).bind fun bt144 => (if bt137.2.2.2.2.2 = 1 then (spec_MoveMoney.j0 k a3 bt137.2.2.2.2.2 bt144.2.2.2.2.2 true l0_0 bt137.1 bt137.2.1 bt137.2.2.1 bt137.2.2.2.1 bt137.2.2.2.2.1 bt144.1 bt144.2.1 bt144.2.2.1 bt144.2.2.2.1 bt144.2.2.2.2.1) else (spec_MoveMoney.j0 k a3 bt137.2.2.2.2.2 bt144.2.2.2.2.2 (a1 == a2) l0_0 bt137.1 bt137.2.1 bt137.2.2.1 bt137.2.2.2.1 bt137.2.2.2.2.1 bt144.1 bt144.2.1 bt144.2.2.1 bt144.2.2.2.1 bt144.2.2.2.2.1)))
theorem spec_MoveMoney.mono_l : ∀ k, (∀ y0 y1 y2 y3 y4 y5 y6 y7 y8 y9 y10 y11 y12 y13 y14, LeO (spec_MoveMoney.j0 k y0 y1 y2 y3 y4 y5 y6 y7 y8 y9 y10 y11 y12 y13 y14) (spec_MoveMoney.j0 (k + 1) y0 y1 y2 y3 y4 y5 y6 y7 y8 y9 y10 y11 y12 y13 y14)) ∧ (∀ y0 y1 y2 y3 y4 y5 y6 y7 y8 y9 y10 y11 y12, LeO (spec_MoveMoney.j1 k y0 y1 y2 y3 y4 y5 y6 y7 y8 y9 y10 y11 y12) (spec_MoveMoney.j1 (k + 1) y0 y1 y2 y3 y4 y5 y6 y7 y8 y9 y10 y11 y12)) ∧ (∀ y0 y1 y2 y3 y4 y5 y6 y7 y8 y9 y10 y11 y12, LeO (spec_MoveMoney.j2 k y0 y1 y2 y3 y4 y5 y6 y7 y8 y9 y10 y11 y12) (spec_MoveMoney.j2 (k + 1) y0 y1 y2 y3 y4 y5 y6 y7 y8 y9 y10 y11 y12))
  | 0 => ⟨fun _ _ _ _ _ _ _ _ _ _ _ _ _ _ _ r h => by simp [spec_MoveMoney.j0] at h, fun _ _ _ _ _ _ _ _ _ _ _ _ _ r h => by simp [spec_MoveMoney.j1] at h, fun _ _ _ _ _ _ _ _ _ _ _ _ _ r h => by simp [spec_MoveMoney.j2] at h⟩
  | k + 1 => by
    obtain ⟨ih0, ih1, ih2⟩ := spec_MoveMoney.mono_l k
    refine ⟨?_, ?_, ?_⟩
    · intro y0 y1 y2 y3 y4 y5 y6 y7 y8 y9 y10 y11 y12 y13 y14
      unfold spec_MoveMoney.j0
      repeat' first
      | (with_reducible exact ih0 _ _ _ _ _ _ _ _ _ _ _ _ _ _ _)
      | (with_reducible exact ih1 _ _ _ _ _ _ _ _ _ _ _ _ _)
      | (with_reducible exact ih2 _ _ _ _ _ _ _ _ _ _ _ _ _)
      | (with_reducible exact spec_l10Copy.mono _ _)
      | (with_reducible exact spec_l10Of.mono _ _ _ _)
      | (with_reducible exact spec_l10With.mono _ _ _ _ _ _ _)
      | (with_reducible exact LeO.refl _)
      | (with_reducible exact LeO.none _)
      | (with_reducible refine LeO.ite ?_ ?_)
      | (with_reducible refine LeO.bind ?_ (fun _ => ?_))
      | exact ih0 _ _ _ _ _ _ _ _ _ _ _ _ _ _ _
      | exact ih1 _ _ _ _ _ _ _ _ _ _ _ _ _
      | exact ih2 _ _ _ _ _ _ _ _ _ _ _ _ _
      | exact spec_l10Copy.mono _ _
      | exact spec_l10Of.mono _ _ _ _
      | exact spec_l10With.mono _ _ _ _ _ _ _
      | exact LeO.none _
      | refine LeO.ite ?_ ?_
      | refine LeO.bind ?_ (fun _ => ?_)
    · intro y0 y1 y2 y3 y4 y5 y6 y7 y8 y9 y10 y11 y12
      unfold spec_MoveMoney.j1
      repeat' first
      | (with_reducible exact ih0 _ _ _ _ _ _ _ _ _ _ _ _ _ _ _)
      | (with_reducible exact ih1 _ _ _ _ _ _ _ _ _ _ _ _ _)
      | (with_reducible exact ih2 _ _ _ _ _ _ _ _ _ _ _ _ _)
      | (with_reducible exact spec_l10Copy.mono _ _)
      | (with_reducible exact spec_l10Of.mono _ _ _ _)
      | (with_reducible exact spec_l10With.mono _ _ _ _ _ _ _)
      | (with_reducible exact LeO.refl _)
      | (with_reducible exact LeO.none _)
      | (with_reducible refine LeO.ite ?_ ?_)
      | (with_reducible refine LeO.bind ?_ (fun _ => ?_))
      | exact ih0 _ _ _ _ _ _ _ _ _ _ _ _ _ _ _
      | exact ih1 _ _ _ _ _ _ _ _ _ _ _ _ _
      | exact ih2 _ _ _ _ _ _ _ _ _ _ _ _ _
      | exact spec_l10Copy.mono _ _
      | exact spec_l10Of.mono _ _ _ _
      | exact spec_l10With.mono _ _ _ _ _ _ _
      | exact LeO.none _
      | refine LeO.ite ?_ ?_
      | refine LeO.bind ?_ (fun _ => ?_)
    · intro y0 y1 y2 y3 y4 y5 y6 y7 y8 y9 y10 y11 y12
      unfold spec_MoveMoney.j2
      repeat' first
      | (with_reducible exact ih0 _ _ _ _ _ _ _ _ _ _ _ _ _ _ _)
      | (with_reducible exact ih1 _ _ _ _ _ _ _ _ _ _ _ _ _)
      | (with_reducible exact ih2 _ _ _ _ _ _ _ _ _ _ _ _ _)
      | (with_reducible exact spec_l10Copy.mono _ _)
      | (with_reducible exact spec_l10Of.mono _ _ _ _)
      | (with_reducible exact spec_l10With.mono _ _ _ _ _ _ _)
      | (with_reducible exact LeO.refl _)
      | (with_reducible exact LeO.none _)
      | (with_reducible refine LeO.ite ?_ ?_)
      | (with_reducible refine LeO.bind ?_ (fun _ => ?_))
      | exact ih0 _ _ _ _ _ _ _ _ _ _ _ _ _ _ _
      | exact ih1 _ _ _ _ _ _ _ _ _ _ _ _ _
      | exact ih2 _ _ _ _ _ _ _ _ _ _ _ _ _
      | exact spec_l10Copy.mono _ _
      | exact spec_l10Of.mono _ _ _ _
      | exact spec_l10With.mono _ _ _ _ _ _ _
      | exact LeO.none _
      | refine LeO.ite ?_ ?_
      | refine LeO.bind ?_ (fun _ => ?_)
theorem spec_MoveMoney.mono : ∀ a0 a1 a2 a3 k, LeO (spec_MoveMoney.f k a0 a1 a2 a3) (spec_MoveMoney.f (k + 1) a0 a1 a2 a3) := by
  intro a0 a1 a2 a3 k
  obtain ⟨ih0, ih1, ih2⟩ := spec_MoveMoney.mono_l k
  unfold spec_MoveMoney.f
  repeat' first
      | (with_reducible exact ih0 _ _ _ _ _ _ _ _ _ _ _ _ _ _ _)
      | (with_reducible exact ih1 _ _ _ _ _ _ _ _ _ _ _ _ _)
      | (with_reducible exact ih2 _ _ _ _ _ _ _ _ _ _ _ _ _)
      | (with_reducible exact spec_l10Copy.mono _ _)
      | (with_reducible exact spec_l10Of.mono _ _ _ _)
      | (with_reducible exact spec_l10With.mono _ _ _ _ _ _ _)
      | (with_reducible exact LeO.refl _)
      | (with_reducible exact LeO.none _)
      | (with_reducible refine LeO.ite ?_ ?_)
      | (with_reducible refine LeO.bind ?_ (fun _ => ?_))
      | exact ih0 _ _ _ _ _ _ _ _ _ _ _ _ _ _ _
      | exact ih1 _ _ _ _ _ _ _ _ _ _ _ _ _
      | exact ih2 _ _ _ _ _ _ _ _ _ _ _ _ _
      | exact spec_l10Copy.mono _ _
      | exact spec_l10Of.mono _ _ _ _
      | exact spec_l10With.mono _ _ _ _ _ _ _
      | exact LeO.none _
      | refine LeO.ite ?_ ?_
      | refine LeO.bind ?_ (fun _ => ?_)
set_option maxHeartbeats 8000000 in
set_option maxRecDepth 100000 in
theorem spec_MoveMoney.calls (k : Nat) (A0_0 : Option Addr) (c0_0 : Nat) (l0_0 : List (S53)) (a1 : Int) (a2 : Int) (a3 : Int) (r1 : List (S53)) (r2 : Int) (w : World) (hr0_0 : Kd.C k53 w A0_0 l0_0.length l0_0) (hc0_0 : l0_0.length ≤ c0_0) (h : spec_MoveMoney.f k l0_0 a1 a2 a3 = some (r1, r2)) :
    Calls Try.prog 24 #[.agg #[.slice A0_0 l0_0.length c0_0], .int .u64 a1, .int .u64 a2, .int .u64 a3] w fun e w' => ∃ v0_ : Value, e = .returned (.tuple #[.agg #[v0_], .int .i64 r2]) ∧ Kd.R k53 53 w' w.heap.size (fun _ => True) v0_ r1 ∧ Below w.heap.size w w' := by
  have hu29 := Try.underlying29
  have hu53 := Try.underlying53
  have HR0_0 := Aside0.mk hr0_0
  have HC0_0 := Aside0.mk hc0_0
  clear hr0_0 hc0_0
  have HB := Aside0.mk (Below.refl w.heap.size w)
  have H : ((spec_l10Of.f k l0_0 a1 1).bind fun bt137 => ((spec_l10Of.f k l0_0 a2 1).bind fun bt144 => (if bt137.2.2.2.2.2 = 1 then (spec_MoveMoney.j0 k a3 bt137.2.2.2.2.2 bt144.2.2.2.2.2 true l0_0 bt137.1 bt137.2.1 bt137.2.2.1 bt137.2.2.2.1 bt137.2.2.2.2.1 bt144.1 bt144.2.1 bt144.2.2.1 bt144.2.2.2.1 bt144.2.2.2.2.1) else (spec_MoveMoney.j0 k a3 bt137.2.2.2.2.2 bt144.2.2.2.2.2 (a1 == a2) l0_0 bt137.1 bt137.2.1 bt137.2.2.1 bt137.2.2.2.1 bt137.2.2.2.2.1 bt144.1 bt144.2.1 bt144.2.2.1 bt144.2.2.2.1 bt144.2.2.2.2.1)))) = some (r1, r2) := h
  clear h
  replace H := Option.bind_eq_some_iff.mp H
  obtain ⟨⟨t137, t138, t139, t140, t141, t142⟩, A50, H⟩ := H
  (try dsimp only at H)
  have A5 := Aside0.mk A50
  clear A50
  replace H := Option.bind_eq_some_iff.mp H
  obtain ⟨⟨t144, t145, t146, t147, t148, t149⟩, A60, H⟩ := H
  (try dsimp only at H)
  have A6 := Aside0.mk A60
  clear A60
  have HC7 := Aside0.mk H
  clear H
  go_enter Try.func24, Try.ntmps24
  go_upto_region 3 with (first | ((with_reducible refine gate_dst (N := 4) rfl ?_); refine box_event ?hg (N := 4) ?hd (cs := #[.slice A0_0 l0_0.length c0_0]) (t := 29) ?hr ?_; (case hd => rfl); (case hg => rfl); (case hr => first | (go_simp; done) | (go_simp; rfl)); intro gb135 hg w8 hbox hb; have n0_ := Aside0.mk (below_step u5_15 hb); have n1_ := Aside0.mk (hbox); have n2_ := Aside0.mk ((by rw [hg]; exact (below_size u5_15) : w.heap.size ≤ gb135)); have n3_ := Aside0.mk ((by rw [hg]; exact (below_size u5_15) : w.heap.size ≤ gb135)); clear HB; have HB := n0_; have BK135 := n1_; have GW135 := n2_; have GE135 := n3_; clear n0_ n1_ n2_ n3_; clear hb hbox hg) | ((with_reducible refine gate_dst (N := 8) rfl ?_); refine box_event ?hg (N := 8) ?hd (cs := #[.slice none 0 0]) (t := 29) ?hr ?_; (case hd => rfl); (case hg => rfl); (case hr => first | (go_simp; done) | (go_simp; rfl)); intro gb136 hg w9 hbox hb; have n0_ := Aside0.mk (blk_below (g := gb135) (o := .cells #[.slice A0_0 l0_0.length c0_0] 29 (0, 0)) u5_1 hb); have n1_ := Aside0.mk (below_step u5_14 hb); have n2_ := Aside0.mk (hbox); have n3_ := Aside0.mk ((by rw [hg]; exact (below_size u5_14) : w.heap.size ≤ gb136)); have n4_ := Aside0.mk ((by rw [hg]; exact (below_size u5_14) : w.heap.size ≤ gb136)); have n5_ := Aside0.mk ((by rw [hg]; exact Nat.ne_of_lt (blk_lt (g := gb135) (o := .cells #[.slice A0_0 l0_0.length c0_0] 29 (0, 0)) u5_1) : gb135 ≠ gb136)); have n6_ := Aside0.mk ((by rw [hg]; exact Nat.ne_of_gt (blk_lt (g := gb135) (o := .cells #[.slice A0_0 l0_0.length c0_0] 29 (0, 0)) u5_1) : gb136 ≠ gb135)); clear BK135; clear HB; have BK135 := n0_; have HB := n1_; have BK136 := n2_; have GW136 := n3_; have GE136 := n4_; have NB135_136 := n5_; have NB136_135 := n6_; clear n0_ n1_ n2_ n3_ n4_ n5_ n6_; clear hb hbox hg; have hnb10 := NB135_136.out; have hnc10 := NB136_135.out; have hcz11_0 : w9.cell? ⟨gb135, 0, none⟩ = some (.slice A0_0 l0_0.length c0_0) := (blk_cell BK135.out 0).trans rfl; have hfz11_0 := blk_frozen BK135.out 0) | ((with_reducible refine gate_callee (f := 53) rfl ?_); refine goesL_ (some 17) rfl rfl Try.func53 (by kernel_rfl) rfl #[.agg #[.slice A0_0 l0_0.length c0_0], .int .u64 a1, .int .i64 1] rfl u5_7 ?_; (with_reducible refine (spec_l10Of.calls k _ _ l0_0 a1 1 t137 t138 t139 t140 t141 t142 _ ?side1 ?side2 A5.out).mono ?_); (case side1 => exact u5_8); (case side2 => exact HC0_0.out); rintro e w12 ⟨rfl, hb⟩; refine ⟨_, rfl, ?_⟩; have n0_ := Aside0.mk (blk_below (g := gb135) (o := .cells #[.slice A0_0 l0_0.length c0_0] 29 (0, 0)) u5_1 hb); have n1_ := Aside0.mk (blk_below (g := gb136) (o := .cells #[.slice none 0 0] 29 (0, 0)) u5_3 hb); have n2_ := Aside0.mk (below_step u5_13 hb); clear BK135; clear BK136; clear HB; have BK135 := n0_; have BK136 := n1_; have HB := n2_; clear n0_ n1_ n2_; (try clear hb); (try clear hb2); (try clear hk); (try clear hi)) | ((with_reducible refine gate_dst (N := 10) rfl ?_); refine box_event ?hg (N := 10) ?hd (cs := #[.int .u64 0, .int .u64 0, .int .u64 0, .int .u64 0, .int .i64 0]) (t := 53) ?hr ?_; (case hd => rfl); (case hg => rfl); (case hr => first | (go_simp; done) | (go_simp; rfl)); intro gb143 hg w13 hbox hb; have n0_ := Aside0.mk (blk_below (g := gb135) (o := .cells #[.slice A0_0 l0_0.length c0_0] 29 (0, 0)) u5_1 hb); have n1_ := Aside0.mk (blk_below (g := gb136) (o := .cells #[.slice none 0 0] 29 (0, 0)) u5_3 hb); have n2_ := Aside0.mk (below_step u5_13 hb); have n3_ := Aside0.mk (hbox); have n4_ := Aside0.mk ((by rw [hg]; exact (below_size u5_13) : w.heap.size ≤ gb143)); have n5_ := Aside0.mk ((by rw [hg]; exact (below_size u5_13) : w.heap.size ≤ gb143)); have n6_ := Aside0.mk ((by rw [hg]; exact Nat.ne_of_lt (blk_lt (g := gb135) (o := .cells #[.slice A0_0 l0_0.length c0_0] 29 (0, 0)) u5_1) : gb135 ≠ gb143)); have n7_ := Aside0.mk ((by rw [hg]; exact Nat.ne_of_gt (blk_lt (g := gb135) (o := .cells #[.slice A0_0 l0_0.length c0_0] 29 (0, 0)) u5_1) : gb143 ≠ gb135)); have n8_ := Aside0.mk ((by rw [hg]; exact Nat.ne_of_lt (blk_lt (g := gb136) (o := .cells #[.slice none 0 0] 29 (0, 0)) u5_3) : gb136 ≠ gb143)); have n9_ := Aside0.mk ((by rw [hg]; exact Nat.ne_of_gt (blk_lt (g := gb136) (o := .cells #[.slice none 0 0] 29 (0, 0)) u5_3) : gb143 ≠ gb136)); clear BK135; clear BK136; clear HB; have BK135 := n0_; have BK136 := n1_; have HB := n2_; have BK143 := n3_; have GW143 := n4_; have GE143 := n5_; have NB135_143 := n6_; have NB143_135 := n7_; have NB136_143 := n8_; have NB143_136 := n9_; clear n0_ n1_ n2_ n3_ n4_ n5_ n6_ n7_ n8_ n9_; clear hb hbox hg; have hnb14 := NB143_135.out; have hnc14 := NB135_143.out; have hnb15 := NB143_136.out; have hnc15 := NB136_143.out; have hcz16_0 : w13.cell? ⟨gb143, 0, none⟩ = some (.int .u64 0) := (blk_cell BK143.out 0).trans rfl; have hcz16_1 : w13.cell? ⟨gb143, 1, none⟩ = some (.int .u64 0) := (blk_cell BK143.out 1).trans rfl; have hcz16_2 : w13.cell? ⟨gb143, 2, none⟩ = some (.int .u64 0) := (blk_cell BK143.out 2).trans rfl; have hcz16_3 : w13.cell? ⟨gb143, 3, none⟩ = some (.int .u64 0) := (blk_cell BK143.out 3).trans rfl; have hcz16_4 : w13.cell? ⟨gb143, 4, none⟩ = some (.int .i64 0) := (blk_cell BK143.out 4).trans rfl; have hfz16_0 := blk_frozen BK143.out 0; have hfz16_1 := blk_frozen BK143.out 1; have hfz16_2 := blk_frozen BK143.out 2; have hfz16_3 := blk_frozen BK143.out 3; have hfz16_4 := blk_frozen BK143.out 4; have hcz17_0 : w13.cell? ⟨gb135, 0, none⟩ = some (.slice A0_0 l0_0.length c0_0) := (blk_cell BK135.out 0).trans rfl; have hfz17_0 := blk_frozen BK135.out 0) | ((with_reducible refine gate_callee (f := 53) rfl ?_); refine goesL_ (some 23) rfl rfl Try.func53 (by kernel_rfl) rfl #[.agg #[.slice A0_0 l0_0.length c0_0], .int .u64 a2, .int .i64 1] rfl u5_7 ?_; (with_reducible refine (spec_l10Of.calls k _ _ l0_0 a2 1 t144 t145 t146 t147 t148 t149 _ ?side1 ?side2 A6.out).mono ?_); (case side1 => exact (by exact Kd.C_below HR0_0.out u5_9)); (case side2 => exact HC0_0.out); rintro e w18 ⟨rfl, hb⟩; refine ⟨_, rfl, ?_⟩; have n0_ := Aside0.mk (blk_below (g := gb135) (o := .cells #[.slice A0_0 l0_0.length c0_0] 29 (0, 0)) (by (with_reducible repeat (first | refine blk_drewN ?_ _ | refine blk_drew ?_ | refine blk_alloc ?_ _)); refine blk_far ?_ NB135_143.out _; (with_reducible repeat (first | refine blk_drewN ?_ _ | refine blk_drew ?_ | refine blk_alloc ?_ _)); refine blk_far ?_ NB135_143.out _; (with_reducible repeat (first | refine blk_drewN ?_ _ | refine blk_drew ?_ | refine blk_alloc ?_ _)); refine blk_far ?_ NB135_143.out _; (with_reducible repeat (first | refine blk_drewN ?_ _ | refine blk_drew ?_ | refine blk_alloc ?_ _)); refine blk_far ?_ NB135_143.out _; (with_reducible repeat (first | refine blk_drewN ?_ _ | refine blk_drew ?_ | refine blk_alloc ?_ _)); refine blk_far ?_ NB135_143.out _; (with_reducible repeat (first | refine blk_drewN ?_ _ | refine blk_drew ?_ | refine blk_alloc ?_ _)); exact BK135.out) hb); have n1_ := Aside0.mk (blk_below (g := gb136) (o := .cells #[.slice none 0 0] 29 (0, 0)) (by (with_reducible repeat (first | refine blk_drewN ?_ _ | refine blk_drew ?_ | refine blk_alloc ?_ _)); refine blk_far ?_ NB136_143.out _; (with_reducible repeat (first | refine blk_drewN ?_ _ | refine blk_drew ?_ | refine blk_alloc ?_ _)); refine blk_far ?_ NB136_143.out _; (with_reducible repeat (first | refine blk_drewN ?_ _ | refine blk_drew ?_ | refine blk_alloc ?_ _)); refine blk_far ?_ NB136_143.out _; (with_reducible repeat (first | refine blk_drewN ?_ _ | refine blk_drew ?_ | refine blk_alloc ?_ _)); refine blk_far ?_ NB136_143.out _; (with_reducible repeat (first | refine blk_drewN ?_ _ | refine blk_drew ?_ | refine blk_alloc ?_ _)); refine blk_far ?_ NB136_143.out _; (with_reducible repeat (first | refine blk_drewN ?_ _ | refine blk_drew ?_ | refine blk_alloc ?_ _)); exact BK136.out) hb); have n2_ := Aside0.mk (blk_below (g := gb143) (o := .cells #[.int .u64 t137, .int .u64 t138, .int .u64 t139, .int .u64 t140, .int .i64 t141] 53 (0, 0)) (by (with_reducible repeat (first | refine blk_drewN ?_ _ | refine blk_drew ?_ | refine blk_alloc ?_ _)); refine blk_put (cs := #[.int .u64 t137, .int .u64 t138, .int .u64 t139, .int .u64 t140, .int .i64 0]) ?_ 4 _ rfl; (with_reducible repeat (first | refine blk_drewN ?_ _ | refine blk_drew ?_ | refine blk_alloc ?_ _)); refine blk_put (cs := #[.int .u64 t137, .int .u64 t138, .int .u64 t139, .int .u64 0, .int .i64 0]) ?_ 3 _ rfl; (with_reducible repeat (first | refine blk_drewN ?_ _ | refine blk_drew ?_ | refine blk_alloc ?_ _)); refine blk_put (cs := #[.int .u64 t137, .int .u64 t138, .int .u64 0, .int .u64 0, .int .i64 0]) ?_ 2 _ rfl; (with_reducible repeat (first | refine blk_drewN ?_ _ | refine blk_drew ?_ | refine blk_alloc ?_ _)); refine blk_put (cs := #[.int .u64 t137, .int .u64 0, .int .u64 0, .int .u64 0, .int .i64 0]) ?_ 1 _ rfl; (with_reducible repeat (first | refine blk_drewN ?_ _ | refine blk_drew ?_ | refine blk_alloc ?_ _)); refine blk_put (cs := #[.int .u64 0, .int .u64 0, .int .u64 0, .int .u64 0, .int .i64 0]) ?_ 0 _ rfl; (with_reducible repeat (first | refine blk_drewN ?_ _ | refine blk_drew ?_ | refine blk_alloc ?_ _)); exact BK143.out) hb); have n3_ := Aside0.mk (below_step u5_9 hb); clear BK135; clear BK136; clear BK143; clear HB; have BK135 := n0_; have BK136 := n1_; have BK143 := n2_; have HB := n3_; clear n0_ n1_ n2_ n3_; (try clear hb); (try clear hb2); (try clear hk); (try clear hi)) | ((with_reducible refine gate_dst (N := 12) rfl ?_); refine box_event ?hg (N := 12) ?hd (cs := #[.int .u64 0, .int .u64 0, .int .u64 0, .int .u64 0, .int .i64 0]) (t := 53) ?hr ?_; (case hd => rfl); (case hg => rfl); (case hr => first | (go_simp; done) | (go_simp; rfl)); intro gb150 hg w19 hbox hb; have n0_ := Aside0.mk (blk_below (g := gb135) (o := .cells #[.slice A0_0 l0_0.length c0_0] 29 (0, 0)) u5_1 hb); have n1_ := Aside0.mk (blk_below (g := gb136) (o := .cells #[.slice none 0 0] 29 (0, 0)) u5_3 hb); have n2_ := Aside0.mk (blk_below (g := gb143) (o := .cells #[.int .u64 t137, .int .u64 t138, .int .u64 t139, .int .u64 t140, .int .i64 t141] 53 (0, 0)) u5_2 hb); have n3_ := Aside0.mk (below_step u5_9 hb); have n4_ := Aside0.mk (hbox); have n5_ := Aside0.mk ((by rw [hg]; exact (below_size u5_9) : w.heap.size ≤ gb150)); have n6_ := Aside0.mk ((by rw [hg]; exact (below_size u5_9) : w.heap.size ≤ gb150)); have n7_ := Aside0.mk ((by rw [hg]; exact Nat.ne_of_lt (blk_lt (g := gb135) (o := .cells #[.slice A0_0 l0_0.length c0_0] 29 (0, 0)) u5_1) : gb135 ≠ gb150)); have n8_ := Aside0.mk ((by rw [hg]; exact Nat.ne_of_gt (blk_lt (g := gb135) (o := .cells #[.slice A0_0 l0_0.length c0_0] 29 (0, 0)) u5_1) : gb150 ≠ gb135)); have n9_ := Aside0.mk ((by rw [hg]; exact Nat.ne_of_lt (blk_lt (g := gb136) (o := .cells #[.slice none 0 0] 29 (0, 0)) u5_3) : gb136 ≠ gb150)); have n10_ := Aside0.mk ((by rw [hg]; exact Nat.ne_of_gt (blk_lt (g := gb136) (o := .cells #[.slice none 0 0] 29 (0, 0)) u5_3) : gb150 ≠ gb136)); have n11_ := Aside0.mk ((by rw [hg]; exact Nat.ne_of_lt (blk_lt (g := gb143) (o := .cells #[.int .u64 t137, .int .u64 t138, .int .u64 t139, .int .u64 t140, .int .i64 t141] 53 (0, 0)) u5_2) : gb143 ≠ gb150)); have n12_ := Aside0.mk ((by rw [hg]; exact Nat.ne_of_gt (blk_lt (g := gb143) (o := .cells #[.int .u64 t137, .int .u64 t138, .int .u64 t139, .int .u64 t140, .int .i64 t141] 53 (0, 0)) u5_2) : gb150 ≠ gb143)); clear BK135; clear BK136; clear BK143; clear HB; have BK135 := n0_; have BK136 := n1_; have BK143 := n2_; have HB := n3_; have BK150 := n4_; have GW150 := n5_; have GE150 := n6_; have NB135_150 := n7_; have NB150_135 := n8_; have NB136_150 := n9_; have NB150_136 := n10_; have NB143_150 := n11_; have NB150_143 := n12_; clear n0_ n1_ n2_ n3_ n4_ n5_ n6_ n7_ n8_ n9_ n10_ n11_ n12_; clear hb hbox hg; have hnb20 := NB150_135.out; have hnc20 := NB135_150.out; have hnb21 := NB150_136.out; have hnc21 := NB136_150.out; have hnb22 := NB150_143.out; have hnc22 := NB143_150.out; have hcz23_0 : w19.cell? ⟨gb150, 0, none⟩ = some (.int .u64 0) := (blk_cell BK150.out 0).trans rfl; have hcz23_1 : w19.cell? ⟨gb150, 1, none⟩ = some (.int .u64 0) := (blk_cell BK150.out 1).trans rfl; have hcz23_2 : w19.cell? ⟨gb150, 2, none⟩ = some (.int .u64 0) := (blk_cell BK150.out 2).trans rfl; have hcz23_3 : w19.cell? ⟨gb150, 3, none⟩ = some (.int .u64 0) := (blk_cell BK150.out 3).trans rfl; have hcz23_4 : w19.cell? ⟨gb150, 4, none⟩ = some (.int .i64 0) := (blk_cell BK150.out 4).trans rfl; have hfz23_0 := blk_frozen BK150.out 0; have hfz23_1 := blk_frozen BK150.out 1; have hfz23_2 := blk_frozen BK150.out 2; have hfz23_3 := blk_frozen BK150.out 3; have hfz23_4 := blk_frozen BK150.out 4))
  (try simp only [Act.put, List.setIfInBounds_toArray, List.set_cons_zero, List.set_cons_succ])
  go_cut [26] (fun v26 wc => ∃ (kq : Nat) (x26_6 : Bool), v26 = .bool x26_6 ∧ Aside0 (spec_MoveMoney.j0 kq a3 t142 t149 x26_6 l0_0 t137 t138 t139 t140 t141 t144 t145 t146 t147 t148 = some (r1, r2)) ∧ Aside0 (kq ≤ k) ∧ Aside0 (wc.heap[gb135]? = some (.cells #[(.slice A0_0 l0_0.length c0_0)] 29 (0, 0))) ∧ Aside0 (wc.heap[gb136]? = some (.cells #[(.slice none 0 0)] 29 (0, 0))) ∧ Aside0 (wc.heap[gb143]? = some (.cells #[.int .u64 t137, .int .u64 t138, .int .u64 t139, .int .u64 t140, .int .i64 t141] 53 (0, 0))) ∧ Aside0 (wc.heap[gb150]? = some (.cells #[.int .u64 t144, .int .u64 t145, .int .u64 t146, .int .u64 t147, .int .i64 t148] 53 (0, 0))) ∧ Aside0 (Below w.heap.size w wc))
  case first =>
    have H := HC7.out
    clear HC7
    by_cases c24 : t142 = 1
    rotate_left
    · rw [if_neg c24] at H
      have c24b0 : (t142 == 1) = false := beq_eq_false_iff_ne.mpr c24
      have c24b1 : (t142 != 1) = true := bne_iff_ne.mpr c24
      (first | rw [c24b0] | (simp only [i64_w, i32_w]; rw [c24b0]) | skip)
      have H' := Aside0.mk H
      clear H
      go_wp2
      go_meet
      case rel => exact ⟨_, ((a1 == a2)), u5_16, H', ⟨by first | omega | exact Nat.le_refl _⟩, ⟨u5_10⟩, ⟨u5_11⟩, ⟨u5_12⟩, ⟨u5_6⟩, ⟨u5_0⟩⟩
    rw [if_pos c24] at H
    have c24b0 : (t142 == 1) = true := beq_iff_eq.mpr c24
    have c24b1 : (t142 != 1) = false := bne_eq_false_iff_eq.mpr c24
    clear c24
    (first | rw [c24b0] | (simp only [i64_w, i32_w]; rw [c24b0]) | skip)
    have H' := Aside0.mk H
    clear H
    go_wp2
    go_meet
    case rel => exact ⟨_, (true), u5_16, H', ⟨by first | omega | exact Nat.le_refl _⟩, ⟨u5_10⟩, ⟨u5_11⟩, ⟨u5_12⟩, ⟨u5_6⟩, ⟨u5_0⟩⟩
  clear HC7
  try clear c1
  try clear c2
  try clear p2
  try clear c5
  try clear c10
  try clear c14
  try clear c15
  try clear c20
  try clear c21
  try clear c22
  try clear c24
  try clear c24b0
  try clear c24b1
  try clear hcz11_0
  try clear hcz16_0
  try clear hcz16_1
  try clear hcz16_2
  try clear hcz16_3
  try clear hcz16_4
  try clear hcz17_0
  try clear hcz23_0
  try clear hcz23_1
  try clear hcz23_2
  try clear hcz23_3
  try clear hcz23_4
  try clear hfz11_0
  try clear hfz16_0
  try clear hfz16_1
  try clear hfz16_2
  try clear hfz16_3
  try clear hfz16_4
  try clear hfz17_0
  try clear hfz23_0
  try clear hfz23_1
  try clear hfz23_2
  try clear hfz23_3
  try clear hfz23_4
  obtain ⟨kq, x26_6, rfl, HA, HJ6, BK135, BK136, BK143, BK150, HB⟩ := hcut
  cases kq with
  | zero => exact absurd HA.out (by simp [spec_MoveMoney.j0])
  | succ kj6 =>
    have H := HA.out
    clear HA
    simp only [spec_MoveMoney.j0] at H
    by_cases c25 : x26_6 = true
    · subst c25
      rw [if_pos rfl] at H
      replace H := Option.bind_eq_some_iff.mp H
      obtain ⟨t151, A260, H⟩ := H
      replace H : (some (t151, 1)) = some (r1, r2) := H
      have A26 := Aside0.mk A260
      clear A260
      simp only [Option.some.injEq, Prod.mk.injEq] at H
      obtain ⟨rfl, rfl⟩ := H
      have hnb27 := NB135_136.out
      have hnc27 := NB136_135.out
      have hnb28 := NB135_143.out
      have hnc28 := NB143_135.out
      have hnb29 := NB135_150.out
      have hnc29 := NB150_135.out
      have hcz30_0 : wc.cell? ⟨gb135, 0, none⟩ = some (.slice A0_0 l0_0.length c0_0) := (blk_cell BK135.out 0).trans rfl
      have hfz30_0 := blk_frozen BK135.out 0
      go_wp2_with (first | ((with_reducible refine gate_callee (f := 54) rfl ?_); refine goesL_ (some 35) rfl rfl Try.func54 (by kernel_rfl) rfl #[.agg #[.slice A0_0 l0_0.length c0_0]] rfl u5_7 ?_; (with_reducible refine (spec_l10Copy.calls kj6 _ _ l0_0 t151 _ ?side1 ?side2 A26.out).mono ?_); (case side1 => exact u5_8); (case side2 => exact HC0_0.out); rintro e w31 ⟨v152, rfl, ho0, hb⟩; refine ⟨_, rfl, ?_⟩; have n0_ := Aside0.mk (Kd.R_lower (Kd.R_newB (Kd.R_newB ho0 (g := gb143) (o := .cells #[.int .u64 t137, .int .u64 t138, .int .u64 t139, .int .u64 t140, .int .i64 t141] 53 (0, 0)) u5_2) (g := gb150) (o := .cells #[.int .u64 t144, .int .u64 t145, .int .u64 t146, .int .u64 t147, .int .i64 t148] 53 (0, 0)) u5_4) (below_size u5_0)); have n1_ := Aside0.mk (blk_below (g := gb135) (o := .cells #[.slice A0_0 l0_0.length c0_0] 29 (0, 0)) u5_1 hb); have n2_ := Aside0.mk (blk_below (g := gb136) (o := .cells #[.slice none 0 0] 29 (0, 0)) u5_3 hb); have n3_ := Aside0.mk (blk_below (g := gb143) (o := .cells #[.int .u64 t137, .int .u64 t138, .int .u64 t139, .int .u64 t140, .int .i64 t141] 53 (0, 0)) u5_2 hb); have n4_ := Aside0.mk (blk_below (g := gb150) (o := .cells #[.int .u64 t144, .int .u64 t145, .int .u64 t146, .int .u64 t147, .int .i64 t148] 53 (0, 0)) u5_4 hb); have n5_ := Aside0.mk (below_step u5_0 hb); clear BK135; clear BK136; clear BK143; clear BK150; clear HB; have HO153 := n0_; have BK135 := n1_; have BK136 := n2_; have BK143 := n3_; have BK150 := n4_; have HB := n5_; clear n0_ n1_ n2_ n3_ n4_ n5_; (try clear hb); (try clear hb2); (try clear hk); (try clear hi); (try clear ho0); obtain ⟨Ao32, co32, eo32⟩ := Kd.R_slice HO153.out; subst eo32; have hnb33 := NB136_143.out; have hnc33 := NB143_136.out; have hnb34 := NB136_150.out; have hnc34 := NB150_136.out; have hcz35_0 : w31.cell? ⟨gb136, 0, none⟩ = some (.slice none 0 0) := (blk_cell BK136.out 0).trans rfl; have hfz35_0 := blk_frozen BK136.out 0))
      refine bodyPost_ret (results_ct rfl _ _ gb136 29 #[.slice Ao32 t151.length co32] (0, 0) _ rfl u5_5 Try.underlying29 rfl (by kernel_rfl)) rfl ?_
      exact ⟨_, by first | rfl | (simp [errW_none, errW_some] <;> rfl) | (simp [*, errW_none, errW_some] <;> rfl), (by (with_reducible repeat (first | apply Kd.R_alloc | apply Kd.R_drewN | apply Kd.R_drew)); exact Kd.R_mono (Kd.R_far (p := ⟨gb136, 0, none⟩) (Kd.R_types HO153.out BK136.out (by decide)) (fun _ hk => hk.2) (.slice Ao32 t151.length co32)) (fun _ hk => trivial)), u5_0⟩
    replace c25 := Bool.eq_false_iff.mpr c25
    subst c25
    rw [if_neg (show ¬ (false = true) by decide)] at H
    have HC36 := Aside0.mk H
    clear H
    go_upto_region 5 with (fail)
    go_cut [36] (fun v36 wc => ∃ (kq : Nat) (x36_35 : Bool), v36 = .bool x36_35 ∧ Aside0 (spec_MoveMoney.j1 kq a3 x36_35 l0_0 t137 t138 t139 t140 t141 t144 t145 t146 t147 t148 = some (r1, r2)) ∧ Aside0 (kq ≤ kj6) ∧ Aside0 (wc.heap[gb135]? = some (.cells #[(.slice A0_0 l0_0.length c0_0)] 29 (0, 0))) ∧ Aside0 (wc.heap[gb136]? = some (.cells #[(.slice none 0 0)] 29 (0, 0))) ∧ Aside0 (wc.heap[gb143]? = some (.cells #[.int .u64 t137, .int .u64 t138, .int .u64 t139, .int .u64 t140, .int .i64 t141] 53 (0, 0))) ∧ Aside0 (wc.heap[gb150]? = some (.cells #[.int .u64 t144, .int .u64 t145, .int .u64 t146, .int .u64 t147, .int .i64 t148] 53 (0, 0))) ∧ Aside0 (Below w.heap.size w wc))
    case first =>
      have H := HC36.out
      clear HC36
      by_cases c37 : t142 = 0
      rotate_left
      · rw [if_neg c37] at H
        have c37b0 : (t142 == 0) = false := beq_eq_false_iff_ne.mpr c37
        have c37b1 : (t142 != 0) = true := bne_iff_ne.mpr c37
        (first | rw [c37b0] | (simp only [i64_w, i32_w]; rw [c37b0]) | skip)
        have H' := Aside0.mk H
        clear H
        go_wp2
        go_meet
        case rel => exact ⟨_, (true), u5_16, H', ⟨(by have := HJ6.out; first | omega | exact Nat.le_refl _)⟩, ⟨u5_1⟩, ⟨u5_3⟩, ⟨u5_2⟩, ⟨u5_4⟩, ⟨u5_0⟩⟩
      rw [if_pos c37] at H
      have c37b0 : (t142 == 0) = true := beq_iff_eq.mpr c37
      have c37b1 : (t142 != 0) = false := bne_eq_false_iff_eq.mpr c37
      clear c37
      (first | rw [c37b0] | (simp only [i64_w, i32_w]; rw [c37b0]) | skip)
      have H' := Aside0.mk H
      clear H
      go_wp2
      go_meet
      case rel => exact ⟨_, ((t149 != 0)), u5_16, H', ⟨(by have := HJ6.out; first | omega | exact Nat.le_refl _)⟩, ⟨u5_1⟩, ⟨u5_3⟩, ⟨u5_2⟩, ⟨u5_4⟩, ⟨u5_0⟩⟩
    clear HC36
    try clear c1
    try clear c2
    try clear p2
    try clear c3
    try clear c5
    try clear c10
    try clear c14
    try clear c15
    try clear c20
    try clear c21
    try clear c22
    try clear c24
    try clear c24b0
    try clear c24b1
    try clear c25
    try clear c27
    try clear c28
    try clear c29
    try clear c33
    try clear c34
    try clear c37
    try clear c37b0
    try clear c37b1
    try clear hcz11_0
    try clear hcz16_0
    try clear hcz16_1
    try clear hcz16_2
    try clear hcz16_3
    try clear hcz16_4
    try clear hcz17_0
    try clear hcz23_0
    try clear hcz23_1
    try clear hcz23_2
    try clear hcz23_3
    try clear hcz23_4
    try clear hcz30_0
    try clear hcz35_0
    try clear hfz11_0
    try clear hfz16_0
    try clear hfz16_1
    try clear hfz16_2
    try clear hfz16_3
    try clear hfz16_4
    try clear hfz17_0
    try clear hfz23_0
    try clear hfz23_1
    try clear hfz23_2
    try clear hfz23_3
    try clear hfz23_4
    try clear hfz30_0
    try clear hfz35_0
    try clear p2
    obtain ⟨kq, x36_35, rfl, HA, HJ35, BK135, BK136, BK143, BK150, HB⟩ := hcut
    cases kq with
    | zero => exact absurd HA.out (by simp [spec_MoveMoney.j1])
    | succ kj35 =>
      have H := HA.out
      clear HA
      simp only [spec_MoveMoney.j1] at H
      by_cases c38 : x36_35 = true
      · subst c38
        rw [if_pos rfl] at H
        replace H := Option.bind_eq_some_iff.mp H
        obtain ⟨t154, A390, H⟩ := H
        replace H : (some (t154, 2)) = some (r1, r2) := H
        have A39 := Aside0.mk A390
        clear A390
        simp only [Option.some.injEq, Prod.mk.injEq] at H
        obtain ⟨rfl, rfl⟩ := H
        have hnb40 := NB135_136.out
        have hnc40 := NB136_135.out
        have hnb41 := NB135_143.out
        have hnc41 := NB143_135.out
        have hnb42 := NB135_150.out
        have hnc42 := NB150_135.out
        have hcz43_0 : wc.cell? ⟨gb135, 0, none⟩ = some (.slice A0_0 l0_0.length c0_0) := (blk_cell BK135.out 0).trans rfl
        have hfz43_0 := blk_frozen BK135.out 0
        go_wp2_with (first | ((with_reducible refine gate_callee (f := 54) rfl ?_); refine goesL_ (some 44) rfl rfl Try.func54 (by kernel_rfl) rfl #[.agg #[.slice A0_0 l0_0.length c0_0]] rfl u5_7 ?_; (with_reducible refine (spec_l10Copy.calls kj35 _ _ l0_0 t154 _ ?side1 ?side2 A39.out).mono ?_); (case side1 => exact u5_8); (case side2 => exact HC0_0.out); rintro e w44 ⟨v155, rfl, ho0, hb⟩; refine ⟨_, rfl, ?_⟩; have n0_ := Aside0.mk (Kd.R_lower (Kd.R_newB (Kd.R_newB ho0 (g := gb143) (o := .cells #[.int .u64 t137, .int .u64 t138, .int .u64 t139, .int .u64 t140, .int .i64 t141] 53 (0, 0)) u5_2) (g := gb150) (o := .cells #[.int .u64 t144, .int .u64 t145, .int .u64 t146, .int .u64 t147, .int .i64 t148] 53 (0, 0)) u5_4) (below_size u5_0)); have n1_ := Aside0.mk (blk_below (g := gb135) (o := .cells #[.slice A0_0 l0_0.length c0_0] 29 (0, 0)) u5_1 hb); have n2_ := Aside0.mk (blk_below (g := gb136) (o := .cells #[.slice none 0 0] 29 (0, 0)) u5_3 hb); have n3_ := Aside0.mk (blk_below (g := gb143) (o := .cells #[.int .u64 t137, .int .u64 t138, .int .u64 t139, .int .u64 t140, .int .i64 t141] 53 (0, 0)) u5_2 hb); have n4_ := Aside0.mk (blk_below (g := gb150) (o := .cells #[.int .u64 t144, .int .u64 t145, .int .u64 t146, .int .u64 t147, .int .i64 t148] 53 (0, 0)) u5_4 hb); have n5_ := Aside0.mk (below_step u5_0 hb); clear BK135; clear BK136; clear BK143; clear BK150; clear HB; have HO156 := n0_; have BK135 := n1_; have BK136 := n2_; have BK143 := n3_; have BK150 := n4_; have HB := n5_; clear n0_ n1_ n2_ n3_ n4_ n5_; (try clear hb); (try clear hb2); (try clear hk); (try clear hi); (try clear ho0); obtain ⟨Ao45, co45, eo45⟩ := Kd.R_slice HO156.out; subst eo45; have hnb46 := NB136_143.out; have hnc46 := NB143_136.out; have hnb47 := NB136_150.out; have hnc47 := NB150_136.out; have hcz48_0 : w44.cell? ⟨gb136, 0, none⟩ = some (.slice none 0 0) := (blk_cell BK136.out 0).trans rfl; have hfz48_0 := blk_frozen BK136.out 0))
        refine bodyPost_ret (results_ct rfl _ _ gb136 29 #[.slice Ao45 t154.length co45] (0, 0) _ rfl u5_5 Try.underlying29 rfl (by kernel_rfl)) rfl ?_
        exact ⟨_, by first | rfl | (simp [errW_none, errW_some] <;> rfl) | (simp [*, errW_none, errW_some] <;> rfl), (by (with_reducible repeat (first | apply Kd.R_alloc | apply Kd.R_drewN | apply Kd.R_drew)); exact Kd.R_mono (Kd.R_far (p := ⟨gb136, 0, none⟩) (Kd.R_types HO156.out BK136.out (by decide)) (fun _ hk => hk.2) (.slice Ao45 t154.length co45)) (fun _ hk => trivial)), u5_0⟩
      replace c38 := Bool.eq_false_iff.mpr c38
      subst c38
      rw [if_neg (show ¬ (false = true) by decide)] at H
      have HC49 := Aside0.mk H
      clear H
      go_upto_region 7 with (fail)
      go_cut [45] (fun v45 wc => ∃ (kq : Nat) (x45_48 : Bool), v45 = .bool x45_48 ∧ Aside0 (spec_MoveMoney.j2 kq a3 x45_48 l0_0 t137 t138 t139 t140 t141 t144 t145 t146 t147 t148 = some (r1, r2)) ∧ Aside0 (kq ≤ kj35) ∧ Aside0 (wc.heap[gb135]? = some (.cells #[(.slice A0_0 l0_0.length c0_0)] 29 (0, 0))) ∧ Aside0 (wc.heap[gb136]? = some (.cells #[(.slice none 0 0)] 29 (0, 0))) ∧ Aside0 (wc.heap[gb143]? = some (.cells #[.int .u64 t137, .int .u64 t138, .int .u64 t139, .int .u64 t140, .int .i64 t141] 53 (0, 0))) ∧ Aside0 (wc.heap[gb150]? = some (.cells #[.int .u64 t144, .int .u64 t145, .int .u64 t146, .int .u64 t147, .int .i64 t148] 53 (0, 0))) ∧ Aside0 (Below w.heap.size w wc))
      case first =>
        have H := HC49.out
        clear HC49
        by_cases c50 : t141 = 0
        rotate_left
        · rw [if_neg c50] at H
          have c50b0 : (t141 == 0) = false := beq_eq_false_iff_ne.mpr c50
          have c50b1 : (t141 != 0) = true := bne_iff_ne.mpr c50
          (first | rw [c50b0] | (simp only [i64_w, i32_w]; rw [c50b0]) | skip)
          have H' := Aside0.mk H
          clear H
          have hnb58 := NB143_135.out
          have hnc58 := NB135_143.out
          have hnb59 := NB143_136.out
          have hnc59 := NB136_143.out
          have hnb60 := NB143_150.out
          have hnc60 := NB150_143.out
          have hcz61_0 : wc.cell? ⟨gb143, 0, none⟩ = some (.int .u64 t137) := (blk_cell BK143.out 0).trans rfl
          have hcz61_1 : wc.cell? ⟨gb143, 1, none⟩ = some (.int .u64 t138) := (blk_cell BK143.out 1).trans rfl
          have hcz61_2 : wc.cell? ⟨gb143, 2, none⟩ = some (.int .u64 t139) := (blk_cell BK143.out 2).trans rfl
          have hcz61_3 : wc.cell? ⟨gb143, 3, none⟩ = some (.int .u64 t140) := (blk_cell BK143.out 3).trans rfl
          have hcz61_4 : wc.cell? ⟨gb143, 4, none⟩ = some (.int .i64 t141) := (blk_cell BK143.out 4).trans rfl
          have hfz61_0 := blk_frozen BK143.out 0
          have hfz61_1 := blk_frozen BK143.out 1
          have hfz61_2 := blk_frozen BK143.out 2
          have hfz61_3 := blk_frozen BK143.out 3
          have hfz61_4 := blk_frozen BK143.out 4
          go_wp2
          go_meet
          case rel => exact ⟨_, (true), u5_16, H', ⟨(by have := HJ6.out; have := HJ35.out; first | omega | exact Nat.le_refl _)⟩, ⟨u5_1⟩, ⟨u5_3⟩, ⟨u5_2⟩, ⟨u5_4⟩, ⟨u5_0⟩⟩
        rw [if_pos c50] at H
        have c50b0 : (t141 == 0) = true := beq_iff_eq.mpr c50
        have c50b1 : (t141 != 0) = false := bne_eq_false_iff_eq.mpr c50
        clear c50
        (first | rw [c50b0] | (simp only [i64_w, i32_w]; rw [c50b0]) | skip)
        have H' := Aside0.mk H
        clear H
        have hnb51 := NB143_135.out
        have hnc51 := NB135_143.out
        have hnb52 := NB143_136.out
        have hnc52 := NB136_143.out
        have hnb53 := NB143_150.out
        have hnc53 := NB150_143.out
        have hcz54_0 : wc.cell? ⟨gb143, 0, none⟩ = some (.int .u64 t137) := (blk_cell BK143.out 0).trans rfl
        have hcz54_1 : wc.cell? ⟨gb143, 1, none⟩ = some (.int .u64 t138) := (blk_cell BK143.out 1).trans rfl
        have hcz54_2 : wc.cell? ⟨gb143, 2, none⟩ = some (.int .u64 t139) := (blk_cell BK143.out 2).trans rfl
        have hcz54_3 : wc.cell? ⟨gb143, 3, none⟩ = some (.int .u64 t140) := (blk_cell BK143.out 3).trans rfl
        have hcz54_4 : wc.cell? ⟨gb143, 4, none⟩ = some (.int .i64 t141) := (blk_cell BK143.out 4).trans rfl
        have hfz54_0 := blk_frozen BK143.out 0
        have hfz54_1 := blk_frozen BK143.out 1
        have hfz54_2 := blk_frozen BK143.out 2
        have hfz54_3 := blk_frozen BK143.out 3
        have hfz54_4 := blk_frozen BK143.out 4
        have hnb55 := NB150_135.out
        have hnc55 := NB135_150.out
        have hnb56 := NB150_136.out
        have hnc56 := NB136_150.out
        have hcz57_0 : wc.cell? ⟨gb150, 0, none⟩ = some (.int .u64 t144) := (blk_cell BK150.out 0).trans rfl
        have hcz57_1 : wc.cell? ⟨gb150, 1, none⟩ = some (.int .u64 t145) := (blk_cell BK150.out 1).trans rfl
        have hcz57_2 : wc.cell? ⟨gb150, 2, none⟩ = some (.int .u64 t146) := (blk_cell BK150.out 2).trans rfl
        have hcz57_3 : wc.cell? ⟨gb150, 3, none⟩ = some (.int .u64 t147) := (blk_cell BK150.out 3).trans rfl
        have hcz57_4 : wc.cell? ⟨gb150, 4, none⟩ = some (.int .i64 t148) := (blk_cell BK150.out 4).trans rfl
        have hfz57_0 := blk_frozen BK150.out 0
        have hfz57_1 := blk_frozen BK150.out 1
        have hfz57_2 := blk_frozen BK150.out 2
        have hfz57_3 := blk_frozen BK150.out 3
        have hfz57_4 := blk_frozen BK150.out 4
        go_wp2
        go_meet
        case rel => exact ⟨_, ((t148 != 0)), u5_16, H', ⟨(by have := HJ6.out; have := HJ35.out; first | omega | exact Nat.le_refl _)⟩, ⟨u5_1⟩, ⟨u5_3⟩, ⟨u5_2⟩, ⟨u5_4⟩, ⟨u5_0⟩⟩
      clear HC49
      try clear c1
      try clear c2
      try clear p2
      try clear c3
      try clear c4
      try clear c5
      try clear c6
      try clear c10
      try clear c14
      try clear c15
      try clear c20
      try clear c21
      try clear c22
      try clear c24
      try clear c24b0
      try clear c24b1
      try clear c25
      try clear c27
      try clear c28
      try clear c29
      try clear c33
      try clear c34
      try clear c37
      try clear c37b0
      try clear c37b1
      try clear c38
      try clear c40
      try clear c41
      try clear c42
      try clear c46
      try clear c47
      try clear c50
      try clear c50b0
      try clear c50b1
      try clear c51
      try clear c52
      try clear c53
      try clear c54
      try clear c55
      try clear c56
      try clear c58
      try clear c59
      try clear c60
      try clear hcz11_0
      try clear hcz16_0
      try clear hcz16_1
      try clear hcz16_2
      try clear hcz16_3
      try clear hcz16_4
      try clear hcz17_0
      try clear hcz23_0
      try clear hcz23_1
      try clear hcz23_2
      try clear hcz23_3
      try clear hcz23_4
      try clear hcz30_0
      try clear hcz35_0
      try clear hcz43_0
      try clear hcz48_0
      try clear hcz54_0
      try clear hcz54_1
      try clear hcz54_2
      try clear hcz54_3
      try clear hcz54_4
      try clear hcz57_0
      try clear hcz57_1
      try clear hcz57_2
      try clear hcz57_3
      try clear hcz57_4
      try clear hcz61_0
      try clear hcz61_1
      try clear hcz61_2
      try clear hcz61_3
      try clear hcz61_4
      try clear hfz11_0
      try clear hfz16_0
      try clear hfz16_1
      try clear hfz16_2
      try clear hfz16_3
      try clear hfz16_4
      try clear hfz17_0
      try clear hfz23_0
      try clear hfz23_1
      try clear hfz23_2
      try clear hfz23_3
      try clear hfz23_4
      try clear hfz30_0
      try clear hfz35_0
      try clear hfz43_0
      try clear hfz48_0
      try clear hfz54_0
      try clear hfz54_1
      try clear hfz54_2
      try clear hfz54_3
      try clear hfz54_4
      try clear hfz57_0
      try clear hfz57_1
      try clear hfz57_2
      try clear hfz57_3
      try clear hfz57_4
      try clear hfz61_0
      try clear hfz61_1
      try clear hfz61_2
      try clear hfz61_3
      try clear hfz61_4
      try clear p2
      obtain ⟨kq, x45_48, rfl, HA, HJ48, BK135, BK136, BK143, BK150, HB⟩ := hcut
      cases kq with
      | zero => exact absurd HA.out (by simp [spec_MoveMoney.j2])
      | succ kj48 =>
        have H := HA.out
        clear HA
        simp only [spec_MoveMoney.j2] at H
        by_cases c62 : x45_48 = true
        · subst c62
          rw [if_pos rfl] at H
          replace H := Option.bind_eq_some_iff.mp H
          obtain ⟨t157, A630, H⟩ := H
          replace H : (some (t157, 6)) = some (r1, r2) := H
          have A63 := Aside0.mk A630
          clear A630
          simp only [Option.some.injEq, Prod.mk.injEq] at H
          obtain ⟨rfl, rfl⟩ := H
          have hnb64 := NB135_136.out
          have hnc64 := NB136_135.out
          have hnb65 := NB135_143.out
          have hnc65 := NB143_135.out
          have hnb66 := NB135_150.out
          have hnc66 := NB150_135.out
          have hcz67_0 : wc.cell? ⟨gb135, 0, none⟩ = some (.slice A0_0 l0_0.length c0_0) := (blk_cell BK135.out 0).trans rfl
          have hfz67_0 := blk_frozen BK135.out 0
          go_wp2_with (first | ((with_reducible refine gate_callee (f := 54) rfl ?_); refine goesL_ (some 55) rfl rfl Try.func54 (by kernel_rfl) rfl #[.agg #[.slice A0_0 l0_0.length c0_0]] rfl u5_7 ?_; (with_reducible refine (spec_l10Copy.calls kj48 _ _ l0_0 t157 _ ?side1 ?side2 A63.out).mono ?_); (case side1 => exact u5_8); (case side2 => exact HC0_0.out); rintro e w68 ⟨v158, rfl, ho0, hb⟩; refine ⟨_, rfl, ?_⟩; have n0_ := Aside0.mk (Kd.R_lower (Kd.R_newB (Kd.R_newB ho0 (g := gb143) (o := .cells #[.int .u64 t137, .int .u64 t138, .int .u64 t139, .int .u64 t140, .int .i64 t141] 53 (0, 0)) u5_2) (g := gb150) (o := .cells #[.int .u64 t144, .int .u64 t145, .int .u64 t146, .int .u64 t147, .int .i64 t148] 53 (0, 0)) u5_4) (below_size u5_0)); have n1_ := Aside0.mk (blk_below (g := gb135) (o := .cells #[.slice A0_0 l0_0.length c0_0] 29 (0, 0)) u5_1 hb); have n2_ := Aside0.mk (blk_below (g := gb136) (o := .cells #[.slice none 0 0] 29 (0, 0)) u5_3 hb); have n3_ := Aside0.mk (blk_below (g := gb143) (o := .cells #[.int .u64 t137, .int .u64 t138, .int .u64 t139, .int .u64 t140, .int .i64 t141] 53 (0, 0)) u5_2 hb); have n4_ := Aside0.mk (blk_below (g := gb150) (o := .cells #[.int .u64 t144, .int .u64 t145, .int .u64 t146, .int .u64 t147, .int .i64 t148] 53 (0, 0)) u5_4 hb); have n5_ := Aside0.mk (below_step u5_0 hb); clear BK135; clear BK136; clear BK143; clear BK150; clear HB; have HO159 := n0_; have BK135 := n1_; have BK136 := n2_; have BK143 := n3_; have BK150 := n4_; have HB := n5_; clear n0_ n1_ n2_ n3_ n4_ n5_; (try clear hb); (try clear hb2); (try clear hk); (try clear hi); (try clear ho0); obtain ⟨Ao69, co69, eo69⟩ := Kd.R_slice HO159.out; subst eo69; have hnb70 := NB136_143.out; have hnc70 := NB143_136.out; have hnb71 := NB136_150.out; have hnc71 := NB150_136.out; have hcz72_0 : w68.cell? ⟨gb136, 0, none⟩ = some (.slice none 0 0) := (blk_cell BK136.out 0).trans rfl; have hfz72_0 := blk_frozen BK136.out 0))
          refine bodyPost_ret (results_ct rfl _ _ gb136 29 #[.slice Ao69 t157.length co69] (0, 0) _ rfl u5_5 Try.underlying29 rfl (by kernel_rfl)) rfl ?_
          exact ⟨_, by first | rfl | (simp [errW_none, errW_some] <;> rfl) | (simp [*, errW_none, errW_some] <;> rfl), (by (with_reducible repeat (first | apply Kd.R_alloc | apply Kd.R_drewN | apply Kd.R_drew)); exact Kd.R_mono (Kd.R_far (p := ⟨gb136, 0, none⟩) (Kd.R_types HO159.out BK136.out (by decide)) (fun _ hk => hk.2) (.slice Ao69 t157.length co69)) (fun _ hk => trivial)), u5_0⟩
        replace c62 := Bool.eq_false_iff.mpr c62
        subst c62
        rw [if_neg (show ¬ (false = true) by decide)] at H
        by_cases c73 : a3 > t138
        · rw [if_pos c73] at H
          have c73b0 : decide (t138 < a3) = true := decide_eq_true c73
          clear c73
          replace H := Option.bind_eq_some_iff.mp H
          obtain ⟨t160, A740, H⟩ := H
          replace H : (some (t160, 4)) = some (r1, r2) := H
          have A74 := Aside0.mk A740
          clear A740
          simp only [Option.some.injEq, Prod.mk.injEq] at H
          obtain ⟨rfl, rfl⟩ := H
          have hnb75 := NB143_135.out
          have hnc75 := NB135_143.out
          have hnb76 := NB143_136.out
          have hnc76 := NB136_143.out
          have hnb77 := NB143_150.out
          have hnc77 := NB150_143.out
          have hcz78_0 : wc.cell? ⟨gb143, 0, none⟩ = some (.int .u64 t137) := (blk_cell BK143.out 0).trans rfl
          have hcz78_1 : wc.cell? ⟨gb143, 1, none⟩ = some (.int .u64 t138) := (blk_cell BK143.out 1).trans rfl
          have hcz78_2 : wc.cell? ⟨gb143, 2, none⟩ = some (.int .u64 t139) := (blk_cell BK143.out 2).trans rfl
          have hcz78_3 : wc.cell? ⟨gb143, 3, none⟩ = some (.int .u64 t140) := (blk_cell BK143.out 3).trans rfl
          have hcz78_4 : wc.cell? ⟨gb143, 4, none⟩ = some (.int .i64 t141) := (blk_cell BK143.out 4).trans rfl
          have hfz78_0 := blk_frozen BK143.out 0
          have hfz78_1 := blk_frozen BK143.out 1
          have hfz78_2 := blk_frozen BK143.out 2
          have hfz78_3 := blk_frozen BK143.out 3
          have hfz78_4 := blk_frozen BK143.out 4
          have hnb79 := NB135_136.out
          have hnc79 := NB136_135.out
          have hnb80 := NB135_150.out
          have hnc80 := NB150_135.out
          have hcz81_0 : wc.cell? ⟨gb135, 0, none⟩ = some (.slice A0_0 l0_0.length c0_0) := (blk_cell BK135.out 0).trans rfl
          have hfz81_0 := blk_frozen BK135.out 0
          go_wp2_with (first | ((with_reducible refine gate_callee (f := 54) rfl ?_); refine goesL_ (some 62) rfl rfl Try.func54 (by kernel_rfl) rfl #[.agg #[.slice A0_0 l0_0.length c0_0]] rfl u5_7 ?_; (with_reducible refine (spec_l10Copy.calls kj48 _ _ l0_0 t160 _ ?side1 ?side2 A74.out).mono ?_); (case side1 => exact u5_8); (case side2 => exact HC0_0.out); rintro e w82 ⟨v161, rfl, ho0, hb⟩; refine ⟨_, rfl, ?_⟩; have n0_ := Aside0.mk (Kd.R_lower (Kd.R_newB (Kd.R_newB ho0 (g := gb143) (o := .cells #[.int .u64 t137, .int .u64 t138, .int .u64 t139, .int .u64 t140, .int .i64 t141] 53 (0, 0)) u5_2) (g := gb150) (o := .cells #[.int .u64 t144, .int .u64 t145, .int .u64 t146, .int .u64 t147, .int .i64 t148] 53 (0, 0)) u5_4) (below_size u5_0)); have n1_ := Aside0.mk (blk_below (g := gb135) (o := .cells #[.slice A0_0 l0_0.length c0_0] 29 (0, 0)) u5_1 hb); have n2_ := Aside0.mk (blk_below (g := gb136) (o := .cells #[.slice none 0 0] 29 (0, 0)) u5_3 hb); have n3_ := Aside0.mk (blk_below (g := gb143) (o := .cells #[.int .u64 t137, .int .u64 t138, .int .u64 t139, .int .u64 t140, .int .i64 t141] 53 (0, 0)) u5_2 hb); have n4_ := Aside0.mk (blk_below (g := gb150) (o := .cells #[.int .u64 t144, .int .u64 t145, .int .u64 t146, .int .u64 t147, .int .i64 t148] 53 (0, 0)) u5_4 hb); have n5_ := Aside0.mk (below_step u5_0 hb); clear BK135; clear BK136; clear BK143; clear BK150; clear HB; have HO162 := n0_; have BK135 := n1_; have BK136 := n2_; have BK143 := n3_; have BK150 := n4_; have HB := n5_; clear n0_ n1_ n2_ n3_ n4_ n5_; (try clear hb); (try clear hb2); (try clear hk); (try clear hi); (try clear ho0); obtain ⟨Ao83, co83, eo83⟩ := Kd.R_slice HO162.out; subst eo83; have hnb84 := NB136_150.out; have hnc84 := NB150_136.out; have hcz85_0 : w82.cell? ⟨gb136, 0, none⟩ = some (.slice none 0 0) := (blk_cell BK136.out 0).trans rfl; have hfz85_0 := blk_frozen BK136.out 0))
          refine bodyPost_ret (results_ct rfl _ _ gb136 29 #[.slice Ao83 t160.length co83] (0, 0) _ rfl u5_5 Try.underlying29 rfl (by kernel_rfl)) rfl ?_
          exact ⟨_, by first | rfl | (simp [errW_none, errW_some] <;> rfl) | (simp [*, errW_none, errW_some] <;> rfl), (by (with_reducible repeat (first | apply Kd.R_alloc | apply Kd.R_drewN | apply Kd.R_drew)); exact Kd.R_mono (Kd.R_far (p := ⟨gb136, 0, none⟩) (Kd.R_types HO162.out BK136.out (by decide)) (fun _ hk => hk.2) (.slice Ao83 t160.length co83)) (fun _ hk => trivial)), u5_0⟩
        rw [if_neg c73] at H
        have c73b0 : decide (t138 < a3) = false := decide_eq_false c73
        clear c73
        by_cases c86 : a3 > (IntKind.u64.wrap (18446744073709551615 - t145))
        · rw [if_pos c86] at H
          have c86b0 : decide ((IntKind.u64.wrap (18446744073709551615 - t145)) < a3) = true := decide_eq_true c86
          clear c86
          replace H := Option.bind_eq_some_iff.mp H
          obtain ⟨t163, A870, H⟩ := H
          replace H : (some (t163, 5)) = some (r1, r2) := H
          have A87 := Aside0.mk A870
          clear A870
          simp only [Option.some.injEq, Prod.mk.injEq] at H
          obtain ⟨rfl, rfl⟩ := H
          have hnb88 := NB143_135.out
          have hnc88 := NB135_143.out
          have hnb89 := NB143_136.out
          have hnc89 := NB136_143.out
          have hnb90 := NB143_150.out
          have hnc90 := NB150_143.out
          have hcz91_0 : wc.cell? ⟨gb143, 0, none⟩ = some (.int .u64 t137) := (blk_cell BK143.out 0).trans rfl
          have hcz91_1 : wc.cell? ⟨gb143, 1, none⟩ = some (.int .u64 t138) := (blk_cell BK143.out 1).trans rfl
          have hcz91_2 : wc.cell? ⟨gb143, 2, none⟩ = some (.int .u64 t139) := (blk_cell BK143.out 2).trans rfl
          have hcz91_3 : wc.cell? ⟨gb143, 3, none⟩ = some (.int .u64 t140) := (blk_cell BK143.out 3).trans rfl
          have hcz91_4 : wc.cell? ⟨gb143, 4, none⟩ = some (.int .i64 t141) := (blk_cell BK143.out 4).trans rfl
          have hfz91_0 := blk_frozen BK143.out 0
          have hfz91_1 := blk_frozen BK143.out 1
          have hfz91_2 := blk_frozen BK143.out 2
          have hfz91_3 := blk_frozen BK143.out 3
          have hfz91_4 := blk_frozen BK143.out 4
          have hnb92 := NB150_135.out
          have hnc92 := NB135_150.out
          have hnb93 := NB150_136.out
          have hnc93 := NB136_150.out
          have hcz94_0 : wc.cell? ⟨gb150, 0, none⟩ = some (.int .u64 t144) := (blk_cell BK150.out 0).trans rfl
          have hcz94_1 : wc.cell? ⟨gb150, 1, none⟩ = some (.int .u64 t145) := (blk_cell BK150.out 1).trans rfl
          have hcz94_2 : wc.cell? ⟨gb150, 2, none⟩ = some (.int .u64 t146) := (blk_cell BK150.out 2).trans rfl
          have hcz94_3 : wc.cell? ⟨gb150, 3, none⟩ = some (.int .u64 t147) := (blk_cell BK150.out 3).trans rfl
          have hcz94_4 : wc.cell? ⟨gb150, 4, none⟩ = some (.int .i64 t148) := (blk_cell BK150.out 4).trans rfl
          have hfz94_0 := blk_frozen BK150.out 0
          have hfz94_1 := blk_frozen BK150.out 1
          have hfz94_2 := blk_frozen BK150.out 2
          have hfz94_3 := blk_frozen BK150.out 3
          have hfz94_4 := blk_frozen BK150.out 4
          have hnb95 := NB135_136.out
          have hnc95 := NB136_135.out
          have hcz96_0 : wc.cell? ⟨gb135, 0, none⟩ = some (.slice A0_0 l0_0.length c0_0) := (blk_cell BK135.out 0).trans rfl
          have hfz96_0 := blk_frozen BK135.out 0
          go_wp2_with (first | ((with_reducible refine gate_callee (f := 54) rfl ?_); refine goesL_ (some 70) rfl rfl Try.func54 (by kernel_rfl) rfl #[.agg #[.slice A0_0 l0_0.length c0_0]] rfl u5_7 ?_; (with_reducible refine (spec_l10Copy.calls kj48 _ _ l0_0 t163 _ ?side1 ?side2 A87.out).mono ?_); (case side1 => exact u5_8); (case side2 => exact HC0_0.out); rintro e w97 ⟨v164, rfl, ho0, hb⟩; refine ⟨_, rfl, ?_⟩; have n0_ := Aside0.mk (Kd.R_lower (Kd.R_newB (Kd.R_newB ho0 (g := gb143) (o := .cells #[.int .u64 t137, .int .u64 t138, .int .u64 t139, .int .u64 t140, .int .i64 t141] 53 (0, 0)) u5_2) (g := gb150) (o := .cells #[.int .u64 t144, .int .u64 t145, .int .u64 t146, .int .u64 t147, .int .i64 t148] 53 (0, 0)) u5_4) (below_size u5_0)); have n1_ := Aside0.mk (blk_below (g := gb135) (o := .cells #[.slice A0_0 l0_0.length c0_0] 29 (0, 0)) u5_1 hb); have n2_ := Aside0.mk (blk_below (g := gb136) (o := .cells #[.slice none 0 0] 29 (0, 0)) u5_3 hb); have n3_ := Aside0.mk (blk_below (g := gb143) (o := .cells #[.int .u64 t137, .int .u64 t138, .int .u64 t139, .int .u64 t140, .int .i64 t141] 53 (0, 0)) u5_2 hb); have n4_ := Aside0.mk (blk_below (g := gb150) (o := .cells #[.int .u64 t144, .int .u64 t145, .int .u64 t146, .int .u64 t147, .int .i64 t148] 53 (0, 0)) u5_4 hb); have n5_ := Aside0.mk (below_step u5_0 hb); clear BK135; clear BK136; clear BK143; clear BK150; clear HB; have HO165 := n0_; have BK135 := n1_; have BK136 := n2_; have BK143 := n3_; have BK150 := n4_; have HB := n5_; clear n0_ n1_ n2_ n3_ n4_ n5_; (try clear hb); (try clear hb2); (try clear hk); (try clear hi); (try clear ho0); obtain ⟨Ao98, co98, eo98⟩ := Kd.R_slice HO165.out; subst eo98; have hcz99_0 : w97.cell? ⟨gb136, 0, none⟩ = some (.slice none 0 0) := (blk_cell BK136.out 0).trans rfl; have hfz99_0 := blk_frozen BK136.out 0))
          refine bodyPost_ret (results_ct rfl _ _ gb136 29 #[.slice Ao98 t163.length co98] (0, 0) _ rfl u5_5 Try.underlying29 rfl (by kernel_rfl)) rfl ?_
          exact ⟨_, by first | rfl | (simp [errW_none, errW_some] <;> rfl) | (simp [*, errW_none, errW_some] <;> rfl), (by (with_reducible repeat (first | apply Kd.R_alloc | apply Kd.R_drewN | apply Kd.R_drew)); exact Kd.R_mono (Kd.R_far (p := ⟨gb136, 0, none⟩) (Kd.R_types HO165.out BK136.out (by decide)) (fun _ hk => hk.2) (.slice Ao98 t163.length co98)) (fun _ hk => trivial)), u5_0⟩
        rw [if_neg c86] at H
        have c86b0 : decide ((IntKind.u64.wrap (18446744073709551615 - t145)) < a3) = false := decide_eq_false c86
        clear c86
        replace H := Option.bind_eq_some_iff.mp H
        obtain ⟨t166, A1000, H⟩ := H
        have A100 := Aside0.mk A1000
        clear A1000
        replace H := Option.bind_eq_some_iff.mp H
        obtain ⟨t169, A1010, H⟩ := H
        replace H : (some (t169, 0)) = some (r1, r2) := H
        have A101 := Aside0.mk A1010
        clear A1010
        simp only [Option.some.injEq, Prod.mk.injEq] at H
        obtain ⟨rfl, rfl⟩ := H
        have hnb102 := NB143_135.out
        have hnc102 := NB135_143.out
        have hnb103 := NB143_136.out
        have hnc103 := NB136_143.out
        have hnb104 := NB143_150.out
        have hnc104 := NB150_143.out
        have hcz105_0 : wc.cell? ⟨gb143, 0, none⟩ = some (.int .u64 t137) := (blk_cell BK143.out 0).trans rfl
        have hcz105_1 : wc.cell? ⟨gb143, 1, none⟩ = some (.int .u64 t138) := (blk_cell BK143.out 1).trans rfl
        have hcz105_2 : wc.cell? ⟨gb143, 2, none⟩ = some (.int .u64 t139) := (blk_cell BK143.out 2).trans rfl
        have hcz105_3 : wc.cell? ⟨gb143, 3, none⟩ = some (.int .u64 t140) := (blk_cell BK143.out 3).trans rfl
        have hcz105_4 : wc.cell? ⟨gb143, 4, none⟩ = some (.int .i64 t141) := (blk_cell BK143.out 4).trans rfl
        have hfz105_0 := blk_frozen BK143.out 0
        have hfz105_1 := blk_frozen BK143.out 1
        have hfz105_2 := blk_frozen BK143.out 2
        have hfz105_3 := blk_frozen BK143.out 3
        have hfz105_4 := blk_frozen BK143.out 4
        have hnb106 := NB150_135.out
        have hnc106 := NB135_150.out
        have hnb107 := NB150_136.out
        have hnc107 := NB136_150.out
        have hcz108_0 : wc.cell? ⟨gb150, 0, none⟩ = some (.int .u64 t144) := (blk_cell BK150.out 0).trans rfl
        have hcz108_1 : wc.cell? ⟨gb150, 1, none⟩ = some (.int .u64 t145) := (blk_cell BK150.out 1).trans rfl
        have hcz108_2 : wc.cell? ⟨gb150, 2, none⟩ = some (.int .u64 t146) := (blk_cell BK150.out 2).trans rfl
        have hcz108_3 : wc.cell? ⟨gb150, 3, none⟩ = some (.int .u64 t147) := (blk_cell BK150.out 3).trans rfl
        have hcz108_4 : wc.cell? ⟨gb150, 4, none⟩ = some (.int .i64 t148) := (blk_cell BK150.out 4).trans rfl
        have hfz108_0 := blk_frozen BK150.out 0
        have hfz108_1 := blk_frozen BK150.out 1
        have hfz108_2 := blk_frozen BK150.out 2
        have hfz108_3 := blk_frozen BK150.out 3
        have hfz108_4 := blk_frozen BK150.out 4
        try go_wp2
        have n0_ : Aside0 (((wc.setCell ⟨gb143, 1, none⟩ (.int .u64 (IntKind.u64.wrap (t138 - a3)))).setCell ⟨gb150, 1, none⟩ (.int .u64 (IntKind.u64.wrap (t145 + a3)))).heap[gb135]? = some (.cells #[.slice A0_0 l0_0.length c0_0] 29 (0, 0))) := ⟨by (with_reducible repeat (first | refine blk_drewN ?_ _ | refine blk_drew ?_ | refine blk_alloc ?_ _)); refine blk_far ?_ NB135_150.out _; (with_reducible repeat (first | refine blk_drewN ?_ _ | refine blk_drew ?_ | refine blk_alloc ?_ _)); refine blk_far ?_ NB135_143.out _; (with_reducible repeat (first | refine blk_drewN ?_ _ | refine blk_drew ?_ | refine blk_alloc ?_ _)); exact BK135.out⟩
        have n1_ : Aside0 (((wc.setCell ⟨gb143, 1, none⟩ (.int .u64 (IntKind.u64.wrap (t138 - a3)))).setCell ⟨gb150, 1, none⟩ (.int .u64 (IntKind.u64.wrap (t145 + a3)))).heap[gb136]? = some (.cells #[.slice none 0 0] 29 (0, 0))) := ⟨by (with_reducible repeat (first | refine blk_drewN ?_ _ | refine blk_drew ?_ | refine blk_alloc ?_ _)); refine blk_far ?_ NB136_150.out _; (with_reducible repeat (first | refine blk_drewN ?_ _ | refine blk_drew ?_ | refine blk_alloc ?_ _)); refine blk_far ?_ NB136_143.out _; (with_reducible repeat (first | refine blk_drewN ?_ _ | refine blk_drew ?_ | refine blk_alloc ?_ _)); exact BK136.out⟩
        have n2_ : Aside0 (((wc.setCell ⟨gb143, 1, none⟩ (.int .u64 (IntKind.u64.wrap (t138 - a3)))).setCell ⟨gb150, 1, none⟩ (.int .u64 (IntKind.u64.wrap (t145 + a3)))).heap[gb143]? = some (.cells #[.int .u64 t137, .int .u64 (IntKind.u64.wrap (t138 - a3)), .int .u64 t139, .int .u64 t140, .int .i64 t141] 53 (0, 0))) := ⟨by (with_reducible repeat (first | refine blk_drewN ?_ _ | refine blk_drew ?_ | refine blk_alloc ?_ _)); refine blk_far ?_ NB143_150.out _; (with_reducible repeat (first | refine blk_drewN ?_ _ | refine blk_drew ?_ | refine blk_alloc ?_ _)); refine blk_put (cs := #[.int .u64 t137, .int .u64 t138, .int .u64 t139, .int .u64 t140, .int .i64 t141]) ?_ 1 _ rfl; (with_reducible repeat (first | refine blk_drewN ?_ _ | refine blk_drew ?_ | refine blk_alloc ?_ _)); exact BK143.out⟩
        have n3_ : Aside0 (((wc.setCell ⟨gb143, 1, none⟩ (.int .u64 (IntKind.u64.wrap (t138 - a3)))).setCell ⟨gb150, 1, none⟩ (.int .u64 (IntKind.u64.wrap (t145 + a3)))).heap[gb150]? = some (.cells #[.int .u64 t144, .int .u64 (IntKind.u64.wrap (t145 + a3)), .int .u64 t146, .int .u64 t147, .int .i64 t148] 53 (0, 0))) := ⟨by (with_reducible repeat (first | refine blk_drewN ?_ _ | refine blk_drew ?_ | refine blk_alloc ?_ _)); refine blk_put (cs := #[.int .u64 t144, .int .u64 t145, .int .u64 t146, .int .u64 t147, .int .i64 t148]) ?_ 1 _ rfl; (with_reducible repeat (first | refine blk_drewN ?_ _ | refine blk_drew ?_ | refine blk_alloc ?_ _)); refine blk_far ?_ NB150_143.out _; (with_reducible repeat (first | refine blk_drewN ?_ _ | refine blk_drew ?_ | refine blk_alloc ?_ _)); exact BK150.out⟩
        have n4_ : Aside0 (Below w.heap.size w ((wc.setCell ⟨gb143, 1, none⟩ (.int .u64 (IntKind.u64.wrap (t138 - a3)))).setCell ⟨gb150, 1, none⟩ (.int .u64 (IntKind.u64.wrap (t145 + a3))))) := ⟨by repeat (first | (with_reducible first | exact HB.out | apply below_alloc | apply pw_below_drewN | apply below_drew1 | refine below_set ?_ GE135.out | refine below_set ?_ GE136.out | refine below_set ?_ GE143.out | refine below_set ?_ GE150.out) | exact HB.out)⟩
        (try clear BK135)
        (try clear BK136)
        (try clear BK143)
        (try clear BK150)
        (try clear HB)
        generalize ((wc.setCell ⟨gb143, 1, none⟩ (.int .u64 (IntKind.u64.wrap (t138 - a3)))).setCell ⟨gb150, 1, none⟩ (.int .u64 (IntKind.u64.wrap (t145 + a3)))) = w109 at n0_ n1_ n2_ n3_ n4_ ⊢
        have BK135 := n0_
        have BK136 := n1_
        have BK143 := n2_
        have BK150 := n3_
        have HB := n4_
        clear n0_ n1_ n2_ n3_ n4_
        have n0_ := Aside0.mk (blk_drew BK135.out)
        have n1_ := Aside0.mk (blk_drew BK136.out)
        have n2_ := Aside0.mk (blk_drew BK143.out)
        have n3_ := Aside0.mk (blk_drew BK150.out)
        have n4_ := Aside0.mk (below_drew1 HB.out)
        clear BK135
        clear BK136
        clear BK143
        clear BK150
        clear HB
        have BK135 := n0_
        have BK136 := n1_
        have BK143 := n2_
        have BK150 := n3_
        have HB := n4_
        clear n0_ n1_ n2_ n3_ n4_
        refine start_ (n := 7) (S := fun w' => w'.cell? ⟨gb135, 0, none⟩ = some (.slice A0_0 l0_0.length c0_0) ∧ w'.cell? ⟨gb143, 0, none⟩ = some (.int .u64 t137) ∧ w'.cell? ⟨gb143, 1, none⟩ = some (.int .u64 (IntKind.u64.wrap (t138 - a3))) ∧ w'.cell? ⟨gb143, 2, none⟩ = some (.int .u64 t139) ∧ w'.cell? ⟨gb143, 3, none⟩ = some (.int .u64 t140) ∧ w'.cell? ⟨gb143, 4, none⟩ = some (.int .i64 t141) ∧ w'.cell? ⟨gb150, 0, none⟩ = some (.int .u64 t144) ∧ w'.cell? ⟨gb150, 1, none⟩ = some (.int .u64 (IntKind.u64.wrap (t145 + a3))) ∧ w'.cell? ⟨gb150, 2, none⟩ = some (.int .u64 t146) ∧ w'.cell? ⟨gb150, 3, none⟩ = some (.int .u64 t147) ∧ w'.cell? ⟨gb150, 4, none⟩ = some (.int .i64 t148)) (ds := []) #[false, false, false, false, false, false, false] (by kernel_rfl) rfl rfl ⟨(blk_cell BK135.out 0).trans rfl, (blk_cell BK143.out 0).trans rfl, (blk_cell BK143.out 1).trans rfl, (blk_cell BK143.out 2).trans rfl, (blk_cell BK143.out 3).trans rfl, (blk_cell BK143.out 4).trans rfl, (blk_cell BK150.out 0).trans rfl, (blk_cell BK150.out 1).trans rfl, (blk_cell BK150.out 2).trans rfl, (blk_cell BK150.out 3).trans rfl, (blk_cell BK150.out 4).trans rfl⟩ (fun hHeld => ?_)
        generalize w109.drew = w110 at BK135 BK136 BK143 BK150 HB hHeld ⊢
        refine take_ (i := 0) (N := some 81) (v := ?_) (a' := ?_) #[true, false, false, false, false, false, false] rfl rfl (by kernel_rfl) (fun _ _ _ h => h) (Or.inl ⟨by rfl, ?_⟩) hHeld ?_ ?_
        rotate_left
        · rintro w' ⟨s0, s1, s2, s3, s4, s5, s6, s7, s8, s9, s10⟩
          go_simp
          with_reducible rfl
        rotate_left
        · simp only [Act.put, List.setIfInBounds_toArray, List.set_cons_zero, List.set_cons_succ, i64_w, i32_w]
          rfl
        refine take_ (i := 1) (N := some 82) (v := ?_) (a' := ?_) #[true, true, false, false, false, false, false] rfl rfl (by kernel_rfl) (fun _ _ _ h => h) (Or.inl ⟨by rfl, ?_⟩) hHeld ?_ ?_
        rotate_left
        · rintro w' ⟨s0, s1, s2, s3, s4, s5, s6, s7, s8, s9, s10⟩
          go_simp
          with_reducible rfl
        rotate_left
        · simp only [Act.put, List.setIfInBounds_toArray, List.set_cons_zero, List.set_cons_succ, i64_w, i32_w]
          rfl
        refine take_ (i := 3) (N := some 84) (v := ?_) (a' := ?_) #[true, true, false, true, false, false, false] rfl rfl (by kernel_rfl) (fun _ _ _ h => h) (Or.inl ⟨by rfl, ?_⟩) hHeld ?_ ?_
        rotate_left
        · rintro w' ⟨s0, s1, s2, s3, s4, s5, s6, s7, s8, s9, s10⟩
          go_simp
          with_reducible rfl
        rotate_left
        · simp only [Act.put, List.setIfInBounds_toArray, List.set_cons_zero, List.set_cons_succ, i64_w, i32_w]
          rfl
        refine one_ (i := 2) (N := some 83) #[true, true, true, true, false, false, false] rfl rfl (by kernel_rfl) (by decide) (fun K hK => ?_)
        refine goes_ Try.func55 (by kernel_rfl) rfl #[.agg #[.slice A0_0 l0_0.length c0_0], .agg #[.int .u64 t137, .int .u64 (IntKind.u64.wrap (t138 - a3)), .int .u64 t139, .int .u64 t140, .int .i64 t141]] (by rfl) rfl rfl u5_7 ?_
        with_reducible refine (spec_l10With.calls kj48 _ _ l0_0 t137 (IntKind.u64.wrap (t138 - a3)) t139 t140 t141 t166 _ ?side1 ?side2 A100.out).mono ?_
        (case side1 => exact u5_8)
        (case side2 => exact HC0_0.out)
        rintro e w111 ⟨v167, rfl, ho0, hb⟩
        refine ⟨_, rfl, ?_⟩
        have n0_ := Aside0.mk (Kd.R_lower (Kd.R_newB (Kd.R_newB ho0 (g := gb143) (o := .cells #[.int .u64 t137, .int .u64 (IntKind.u64.wrap (t138 - a3)), .int .u64 t139, .int .u64 t140, .int .i64 t141] 53 (0, 0)) u5_2) (g := gb150) (o := .cells #[.int .u64 t144, .int .u64 (IntKind.u64.wrap (t145 + a3)), .int .u64 t146, .int .u64 t147, .int .i64 t148] 53 (0, 0)) u5_4) (below_size u5_0))
        have n1_ := Aside0.mk (blk_below (g := gb135) (o := .cells #[.slice A0_0 l0_0.length c0_0] 29 (0, 0)) u5_1 hb)
        have n2_ := Aside0.mk (blk_below (g := gb136) (o := .cells #[.slice none 0 0] 29 (0, 0)) u5_3 hb)
        have n3_ := Aside0.mk (blk_below (g := gb143) (o := .cells #[.int .u64 t137, .int .u64 (IntKind.u64.wrap (t138 - a3)), .int .u64 t139, .int .u64 t140, .int .i64 t141] 53 (0, 0)) u5_2 hb)
        have n4_ := Aside0.mk (blk_below (g := gb150) (o := .cells #[.int .u64 t144, .int .u64 (IntKind.u64.wrap (t145 + a3)), .int .u64 t146, .int .u64 t147, .int .i64 t148] 53 (0, 0)) u5_4 hb)
        have n5_ := Aside0.mk (below_step u5_0 hb)
        clear BK135
        clear BK136
        clear BK143
        clear BK150
        clear HB
        have HO168 := n0_
        have BK135 := n1_
        have BK136 := n2_
        have BK143 := n3_
        have BK150 := n4_
        have HB := n5_
        clear n0_ n1_ n2_ n3_ n4_ n5_
        (try clear hb)
        (try clear hb2)
        (try clear hk)
        (try clear hi)
        (try clear ho0)
        obtain ⟨Ao112, co112, eo112⟩ := Kd.R_slice HO168.out
        (first | subst eo112 | (injection eo112 with f1_ f2_ f3_; have f4_ := f1_.symm; have f5_ := f3_.symm; clear f1_ f2_ f3_; subst f4_; subst f5_))
        refine hK.out _ _ ⟨(blk_cell BK135.out 0).trans rfl, (blk_cell BK143.out 0).trans rfl, (blk_cell BK143.out 1).trans rfl, (blk_cell BK143.out 2).trans rfl, (blk_cell BK143.out 3).trans rfl, (blk_cell BK143.out 4).trans rfl, (blk_cell BK150.out 0).trans rfl, (blk_cell BK150.out 1).trans rfl, (blk_cell BK150.out 2).trans rfl, (blk_cell BK150.out 3).trans rfl, (blk_cell BK150.out 4).trans rfl⟩ (fun hHeld => ?_)
        clear hK K
        refine norm_ (a' := ?_) ?_ ?_
        rotate_left
        · show Act.put _ (some 83) _ = _
          simp only [Act.put, List.setIfInBounds_toArray, List.set_cons_zero, List.set_cons_succ, i64_w, i32_w]
          rfl
        refine one_ (i := 4) (N := some 85) #[true, true, true, true, true, false, false] rfl rfl (by kernel_rfl) (by decide) (fun K hK => ?_)
        refine goes_ Try.func55 (by kernel_rfl) rfl #[.agg #[.slice Ao112 t166.length co112], .agg #[.int .u64 t144, .int .u64 (IntKind.u64.wrap (t145 + a3)), .int .u64 t146, .int .u64 t147, .int .i64 t148]] (by rfl) rfl rfl u5_7 ?_
        with_reducible refine (spec_l10With.calls kj48 _ _ t166 t144 (IntKind.u64.wrap (t145 + a3)) t146 t147 t148 t169 _ ?side1 ?side2 A101.out).mono ?_
        (case side1 => exact (by repeat (first | exact (Kd.R_reads' HO168.out).2.2 | (with_reducible refine Kd.C_alloc ?_ _) | (with_reducible refine Kd.C_drewN ?_ _) | (with_reducible refine Kd.C_drew ?_))))
        (case side2 => exact (Kd.R_reads' HO168.out).2.1)
        rintro e w113 ⟨v170, rfl, ho0, hb⟩
        refine ⟨_, rfl, ?_⟩
        have n0_ := Aside0.mk (Kd.R_elder' u5_17 (Kd.R_base ho0) hb)
        have n1_ := Aside0.mk (Kd.R_lower (Kd.R_newB (Kd.R_newB (Kd.R_new' ho0 (Kd.R_lt u5_17)) (g := gb143) (o := .cells #[.int .u64 t137, .int .u64 (IntKind.u64.wrap (t138 - a3)), .int .u64 t139, .int .u64 t140, .int .i64 t141] 53 (0, 0)) u5_2) (g := gb150) (o := .cells #[.int .u64 t144, .int .u64 (IntKind.u64.wrap (t145 + a3)), .int .u64 t146, .int .u64 t147, .int .i64 t148] 53 (0, 0)) u5_4) (below_size u5_0))
        have n2_ := Aside0.mk (blk_below (g := gb135) (o := .cells #[.slice A0_0 l0_0.length c0_0] 29 (0, 0)) u5_1 hb)
        have n3_ := Aside0.mk (blk_below (g := gb136) (o := .cells #[.slice none 0 0] 29 (0, 0)) u5_3 hb)
        have n4_ := Aside0.mk (blk_below (g := gb143) (o := .cells #[.int .u64 t137, .int .u64 (IntKind.u64.wrap (t138 - a3)), .int .u64 t139, .int .u64 t140, .int .i64 t141] 53 (0, 0)) u5_2 hb)
        have n5_ := Aside0.mk (blk_below (g := gb150) (o := .cells #[.int .u64 t144, .int .u64 (IntKind.u64.wrap (t145 + a3)), .int .u64 t146, .int .u64 t147, .int .i64 t148] 53 (0, 0)) u5_4 hb)
        have n6_ := Aside0.mk (below_step u5_0 hb)
        clear HO168
        clear BK135
        clear BK136
        clear BK143
        clear BK150
        clear HB
        have HO168 := n0_
        have HO171 := n1_
        have BK135 := n2_
        have BK136 := n3_
        have BK143 := n4_
        have BK150 := n5_
        have HB := n6_
        clear n0_ n1_ n2_ n3_ n4_ n5_ n6_
        (try clear hb)
        (try clear hb2)
        (try clear hk)
        (try clear hi)
        (try clear ho0)
        obtain ⟨Ao114, co114, eo114⟩ := Kd.R_slice HO171.out
        (first | subst eo114 | (injection eo114 with f1_ f2_ f3_; have f4_ := f1_.symm; have f5_ := f3_.symm; clear f1_ f2_ f3_; subst f4_; subst f5_))
        refine hK.out _ _ ⟨(blk_cell BK135.out 0).trans rfl, (blk_cell BK143.out 0).trans rfl, (blk_cell BK143.out 1).trans rfl, (blk_cell BK143.out 2).trans rfl, (blk_cell BK143.out 3).trans rfl, (blk_cell BK143.out 4).trans rfl, (blk_cell BK150.out 0).trans rfl, (blk_cell BK150.out 1).trans rfl, (blk_cell BK150.out 2).trans rfl, (blk_cell BK150.out 3).trans rfl, (blk_cell BK150.out 4).trans rfl⟩ (fun hHeld => ?_)
        clear hK K
        refine norm_ (a' := ?_) ?_ ?_
        rotate_left
        · show Act.put _ (some 85) _ = _
          simp only [Act.put, List.setIfInBounds_toArray, List.set_cons_zero, List.set_cons_succ, i64_w, i32_w]
          rfl
        refine one_ (i := 5) (N := none) #[true, true, true, true, true, true, false] rfl rfl (by kernel_rfl) (by decide) (fun K hK => ?_)
        have hs115 : w113.cell? ⟨gb136, 0, none⟩ = some (.slice none 0 0) := (blk_cell BK136.out 0).trans rfl
        have hfs115 := blk_frozen BK136.out 0
        have hns115_0 := NB135_136.out
        have hns115_2 := NB143_136.out
        have hns115_3 := NB150_136.out
        have hms115_0 := NB136_135.out
        have hms115_2 := NB136_143.out
        have hms115_3 := NB136_150.out
        refine skip_ (w1 := ?_) (by rfl) rfl ?_ ?_
        rotate_left
        · go_simp
          rfl
        refine hK.out _ _ ⟨((cell_far (p := ⟨gb136, _, none⟩) NB135_136.out _).trans (hHeld.1)), ((cell_far (p := ⟨gb136, _, none⟩) NB143_136.out _).trans (hHeld.2.1)), ((cell_far (p := ⟨gb136, _, none⟩) NB143_136.out _).trans (hHeld.2.2.1)), ((cell_far (p := ⟨gb136, _, none⟩) NB143_136.out _).trans (hHeld.2.2.2.1)), ((cell_far (p := ⟨gb136, _, none⟩) NB143_136.out _).trans (hHeld.2.2.2.2.1)), ((cell_far (p := ⟨gb136, _, none⟩) NB143_136.out _).trans (hHeld.2.2.2.2.2.1)), ((cell_far (p := ⟨gb136, _, none⟩) NB150_136.out _).trans (hHeld.2.2.2.2.2.2.1)), ((cell_far (p := ⟨gb136, _, none⟩) NB150_136.out _).trans (hHeld.2.2.2.2.2.2.2.1)), ((cell_far (p := ⟨gb136, _, none⟩) NB150_136.out _).trans (hHeld.2.2.2.2.2.2.2.2.1)), ((cell_far (p := ⟨gb136, _, none⟩) NB150_136.out _).trans (hHeld.2.2.2.2.2.2.2.2.2.1)), ((cell_far (p := ⟨gb136, _, none⟩) NB150_136.out _).trans (hHeld.2.2.2.2.2.2.2.2.2.2))⟩ (fun hHeld => ?_)
        clear hK K
        refine pure_ (i := 6) (N := some 9) (v := ?_) (a' := ?_) #[true, true, true, true, true, true, true] rfl rfl (by kernel_rfl) (fun _ _ _ h => h) (Or.inl ⟨by rfl, ?_⟩) ?_ ?_
        rotate_left
        · intro w'
          go_simp
          with_reducible rfl
        rotate_left
        · simp only [Act.put, List.setIfInBounds_toArray, List.set_cons_zero, List.set_cons_succ, i64_w, i32_w]
          rfl
        refine done_ (by kernel_rfl) ?_
        try go_wp2
        refine bodyPost_ret (results_ct rfl _ _ gb136 29 #[.slice Ao114 t169.length co114] (0, 0) _ rfl u5_5 Try.underlying29 rfl (by kernel_rfl)) rfl ?_
        exact ⟨_, by first | rfl | (simp [errW_none, errW_some] <;> rfl) | (simp [*, errW_none, errW_some] <;> rfl), (by (with_reducible repeat (first | apply Kd.R_alloc | apply Kd.R_drewN | apply Kd.R_drew)); exact Kd.R_mono (Kd.R_far (p := ⟨gb136, 0, none⟩) (Kd.R_types HO171.out BK136.out (by decide)) (fun _ hk => hk.2) (.slice Ao114 t169.length co114)) (fun _ hk => trivial)), u5_0⟩

end Go.Proofs.Ytdbfjakhkclggaa.QFnHolds
