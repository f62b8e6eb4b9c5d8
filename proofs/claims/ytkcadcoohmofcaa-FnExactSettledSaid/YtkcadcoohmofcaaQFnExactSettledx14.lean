import Derived.Test.YtkcadcoohmofcaaSqFnExactSettled
import Derived.Test.YtkcadcoohmofcaaQFnExactSettledx0
import Derived.Test.YtkcadcoohmofcaaQFnExactSettledx12
import Derived.Test.YtkcadcoohmofcaaQFnExactSettledx13
namespace Go.Proofs.Ytkcadcoohmofcaa.QFnExactSettled
open Go.RowKit Go.Proofs.YtkcadcoohmofcaaW.PrintWords Go.Proofs.YtkcadcoohmofcaaW.PrintLast Go.Proofs.YtkcadcoohmofcaaW.PrintMore Go.Proofs.Ytkcadcoohmofcaa.SqFnExactSettled
attribute [local go_sem] max2_int min2_int max_two min_two max_three min_three max_four min_four Go.Proofs.Ytkcadcoohmofcaa.Set.isSome_setCell
set_option linter.unusedVariables false
set_option linter.unusedSimpArgs false
theorem u14_2 {P : Prop} (h : P := by (with_reducible repeat (first | apply b1_ | apply b2_ | apply b3_)); exact BK327.out) : P := h
def spec_Settled.l0 : Nat → Int → Int → Int → List (S37) → List (S29) → Option ((List (S85)))
 | 0, _, _, _, _, _ => none
 | k + 1, x3, x4, x328000, x328001, x328002 => if x4 < x328000 then (if 0 ≤ x4 then (if x4 < (x328001.length : Int) then (if 0 ≤ x3 then (if x3 < (x328001.length : Int) then (if ((rd_T37 x328001 x4).f4) > ((rd_T37 x328001 x3).f4) then (spec_Settled.l0 k x4 (wrap64 (x4 + 1)) x328000 x328001 x328002) else (spec_Settled.l0 k x3 (wrap64 (x4 + 1)) x328000 x328001 x328002)) else (none)) else (none)) else (none)) else (none)) else (if 0 ≤ x3 then (if x3 < (x328001.length : Int) then (if 0 ≤ ((rd_T37 x328001 x3).f4) then (if ((rd_T37 x328001 x3).f4) ≤ (((rd_T37 x328001 x3).f5.f2).length : Int) then ((spec_l05Copy.f k 0 0 (((rd_T37 x328001 x3).f5.f2).take (((rd_T37 x328001 x3).f4) : Int).toNat)).bind fun bt337 => (some bt337.2.2)) else (none)) else (none)) else (none)) else (none))
def spec_Settled.f (k : Nat) (a0_0 : Int) (l0_1 : List (S37)) (l0_2 : List (S29)) : Option ((List (S85))) := (spec_GroupOk.f k a0_0 l0_1 l0_2).bind fun t328 => (if t328 = true then (spec_Settled.l0 k 0 0 a0_0 l0_1 l0_2) else (some ([] : List (S85))))
theorem spec_Settled.mono_l : ∀ k, (∀ y0 y1 y2 y3 y4, LeO (spec_Settled.l0 k y0 y1 y2 y3 y4) (spec_Settled.l0 (k + 1) y0 y1 y2 y3 y4))
 | 0 => fun _ _ _ _ _ r h => by simp [spec_Settled.l0] at h
 | k + 1 => by
   have ih0 := spec_Settled.mono_l k
   · intro y0 y1 y2 y3 y4
     unfold spec_Settled.l0
     repeat' first
     | (with_reducible exact ih0 _ _ _ _ _)
     | (with_reducible exact spec_GroupOk.mono _ _ _ _)
     | (with_reducible exact spec_l05Copy.mono _ _ _ _)
     | (with_reducible exact LeO.refl _)
     | (with_reducible exact LeO.none _)
     | (with_reducible refine LeO.ite ?_ ?_)
     | (with_reducible refine LeO.bind ?_ (fun _ => ?_))
     | exact ih0 _ _ _ _ _
     | exact spec_GroupOk.mono _ _ _ _
     | exact spec_l05Copy.mono _ _ _ _
     | exact LeO.none _
     | refine LeO.ite ?_ ?_
     | refine LeO.bind ?_ (fun _ => ?_)
theorem spec_Settled.mono : ∀ a0 a1 a2 k, LeO (spec_Settled.f k a0 a1 a2) (spec_Settled.f (k + 1) a0 a1 a2) := by
 intro a0 a1 a2 k
 have ih0 := spec_Settled.mono_l k
 unfold spec_Settled.f
 repeat' first
     | (with_reducible exact ih0 _ _ _ _ _)
     | (with_reducible exact spec_GroupOk.mono _ _ _ _)
     | (with_reducible exact spec_l05Copy.mono _ _ _ _)
     | (with_reducible exact LeO.refl _)
     | (with_reducible exact LeO.none _)
     | (with_reducible refine LeO.ite ?_ ?_)
     | (with_reducible refine LeO.bind ?_ (fun _ => ?_))
     | exact ih0 _ _ _ _ _
     | exact spec_GroupOk.mono _ _ _ _
     | exact spec_l05Copy.mono _ _ _ _
     | exact LeO.none _
     | refine LeO.ite ?_ ?_
     | refine LeO.bind ?_ (fun _ => ?_)
def spec_Settled.T7 : Bool × List (List Nat × List Nat) := (true, [([], []), ([0], [0]), ([], []), ([1, 2], [1, 2]), ([3], [3]), ([4], [4]), ([], []), ([6], [6]), ([], []), ([7, 8], [7, 8]), ([9], [9]), ([10], [10]), ([5, 11], [5, 11])])
def spec_Settled.B7 : List Nat := [0, 1, 0, 7, 15, 31, 0, 64, 0, 448, 960, 1984, 4095]
theorem spec_Settled.tab7 : rtab .any (opsOf Try.f56 7) = spec_Settled.T7 := by kernel_rfl
theorem spec_Settled.bits7 : waitsOk spec_Settled.T7.2 spec_Settled.B7 = true := by kernel_rfl
def spec_Settled.T9 : Bool × List (List Nat × List Nat) := (true, [([], []), ([0], [0]), ([], []), ([1, 2], [1, 2]), ([3], [3]), ([4], [4]), ([5], [5]), ([], []), ([7], [7]), ([], []), ([8, 9], [8, 9]), ([10], [10]), ([11], [11]), ([6, 12], [6, 12]), ([13], [13]), ([14], [14]), ([15], [15]), ([16, 15, 0, 1, 2, 3, 4, 5, 6, 7, 8, 9, 10, 11, 12, 13, 14, 15, 16], [16])])
def spec_Settled.B9 : List Nat := [0, 1, 0, 7, 15, 31, 63, 0, 128, 0, 896, 1920, 3968, 8191, 16383, 32767, 65535, 131071]
theorem spec_Settled.tab9 : rtab .any (opsOf Try.f56 9) = spec_Settled.T9 := by kernel_rfl
theorem spec_Settled.bits9 : waitsOk spec_Settled.T9.2 spec_Settled.B9 = true := by kernel_rfl
set_option maxHeartbeats 8000000 in
set_option maxRecDepth 100000 in
theorem spec_Settled.calls (k : Nat) (a0_0 : Int) (A0_1 : Option Addr) (c0_1 : Nat) (l0_1 : List (S37)) (A0_2 : Option Addr) (c0_2 : Nat) (l0_2 : List (S29)) (r : List (S85)) (w : World) (hr0_1 : Kd.C k37 w A0_1 l0_1.length l0_1) (hc0_1 : l0_1.length ≤ c0_1) (hr0_2 : Kd.C k29 w A0_2 l0_2.length l0_2) (hc0_2 : l0_2.length ≤ c0_2) (h : spec_Settled.f k a0_0 l0_1 l0_2 = some r) :
   Calls Try.prog 56 #[.agg #[.int .i64 a0_0, .slice A0_1 l0_1.length c0_1, .slice A0_2 l0_2.length c0_2]] w fun e w' => ∃ v0_ : Value, e = .returned (v0_) ∧ Kd.R k85 85 w' w.heap.size (fun _ => True) v0_ r ∧ Below w.heap.size w w' := by
 have hu53 := Try.underlying53
 have hu34 := Try.underlying34
 have hfl34_2 : ∀ (q0_ q1_ q2_ : Value) (W : World), (Instr.field 34 (.agg #[q0_, q1_, q2_]) 2).run Try.prog W = .ok (q2_) W := fun q0_ q1_ q2_ W => by first | rfl | kernel_rfl
 have HR0_1 := am hr0_1
 have HC0_1 := am hc0_1
 clear hr0_1 hc0_1
 have HR0_2 := am hr0_2
 have HC0_2 := am hc0_2
 clear hr0_2 hc0_2
 have HB := am (Below.refl w.heap.size w)
 have H : ((spec_GroupOk.f k a0_0 l0_1 l0_2).bind fun t328 => (if t328 = true then (spec_Settled.l0 k 0 0 a0_0 l0_1 l0_2) else (some ([] : List (S85))))) = some r := h
 clear h
 replace H := Option.bind_eq_some_iff.mp H
 obtain ⟨t328, A20, H⟩ := H
 replace H : (if t328 = true then (spec_Settled.l0 k 0 0 a0_0 l0_1 l0_2) else (some ([] : List (S85)))) = some r := H
 have A2 := am A20
 clear A20
 have H9 := am H
 clear H
 go_enter Try.func56, Try.ntmps56
 go_upto_if 7 with (first | ((with_reducible refine gate_dst (N := 1) rfl ?_); refine box_event ?hg (N := 1) ?hd (cs := #[.int .i64 a0_0, .slice A0_1 l0_1.length c0_1, .slice A0_2 l0_2.length c0_2]) (t := 53) ?hr ?_; (case hd => rfl); (case hg => rfl); (case hr => first | (go_simp; done) | (go_simp; rfl)); intro gb327 hg w3 hbox hb; have BK327 := am (hbox); have GW327 := am ((by rw [hg]; exact (below_size Q2) : w.heap.size ≤ gb327)); have GE327 := am ((by rw [hg]; exact (below_size Q2) : w.heap.size ≤ gb327)); replace HB := am (below_step Q2 hb); clear hb hbox hg; obtain ⟨hcz4_0, hcz4_1, hcz4_2⟩ := bc3 w3 BK327.out) | ((with_reducible refine gate_callee (f := 44) rfl ?_); refine goesL_ (some 6) rfl rfl Try.func44 kr rfl #[.agg #[.int .i64 a0_0, .slice A0_1 l0_1.length c0_1, .slice A0_2 l0_2.length c0_2]] rfl Q0 ?_; (with_reducible refine (spec_GroupOk.calls k a0_0 _ _ l0_1 _ _ l0_2 t328 _ ?side1 ?side2 ?side3 ?side4 A2.out).mono ?_); (case side1 => exact (by repeat (first | exact (Kd.C_below HR0_1.out HB.out) | (with_reducible refine Kd.C_alloc ?_ _) | (with_reducible refine Kd.C_drewN ?_ _) | (with_reducible refine Kd.C_drew ?_)))); (case side2 => exact HC0_1.out); (case side3 => exact (by repeat (first | exact (Kd.C_below HR0_2.out HB.out) | (with_reducible refine Kd.C_alloc ?_ _) | (with_reducible refine Kd.C_drewN ?_ _) | (with_reducible refine Kd.C_drew ?_)))); (case side4 => exact HC0_2.out); rintro e w5 ⟨rfl, hb⟩; refine ⟨_, rfl, ?_⟩; replace BK327 := am (bb_ BK327.out u14_2 hb); replace HB := am (below_step Q2 hb); (try clear hb); (try clear hb2); (try clear hk); (try clear hi)))
 have H := H9.out
 clear H9
 by_cases c6 : t328 = true
 rotate_left
 · replace c6 := Bool.eq_false_iff.mpr c6
   subst c6
   rw [nf] at H
   obtain rfl := sj H
   go_wp2
   go_ret
   exact ⟨_, er, (by first | exact Kd.R_nil _ _ _ _ _ | exact Kd.N_nil _ _ _ _ _ | exact Kd.V_nil _ _ _ _ _ | exact Kd.Q_nil _ _ _ _ _ | exact Kd.S_nil _ _ _ _ _), Q2⟩
 subst c6
 rw [if_pos rfl] at H
 have H' := am H
 clear H
 go_wp2
 go_loopg [3, 4] k (fun kq v3 v4 w' => ∃ (x3_1 : Int) (x4_1 : Int), v3 = .int .i64 x3_1 ∧ v4 = .int .i64 x4_1 ∧ Aside0 (spec_Settled.l0 kq x3_1 x4_1 a0_0 l0_1 l0_2 = some r) ∧ Aside0 (kq ≤ k) ∧ Aside0 (w'.heap[gb327]? = some (.cells #[.int .i64 a0_0, (.slice A0_1 l0_1.length c0_1), (.slice A0_2 l0_2.length c0_2)] 53 (0, 0))) ∧ Aside0 (Below w.heap.size w w'))
 case atStart => exact ⟨(0), (0), Q3, Q3, H', ⟨Nat.le_refl _⟩, ⟨u14_2⟩, ⟨Q2⟩⟩
 clear H'
 try clear c6
 try clear hcz4_0
 try clear hcz4_1
 try clear hcz4_2
 obtain ⟨x3_1, x4_1, rfl, rfl, HA, HK1, BK327, HB⟩ := hrel
 cases gk with
 | zero => exact absurd HA.out (by simp [spec_Settled.l0])
 | succ k1 =>
   have H := HA.out
   clear HA
   simp only [spec_Settled.l0] at H
   by_cases c7 : x4_1 < a0_0
   · rw [if_pos c7] at H
     have c7b0 : decide (x4_1 < a0_0) = true := decide_eq_true c7
     clear c7
     (first | rw [c7b0] | (simp only [i64_w, i32_w]; rw [c7b0]) | skip)
     by_cases c8 : 0 ≤ x4_1
     rotate_left
     · rw [if_neg c8] at H
       exact absurd H (by simp)
     rw [if_pos c8] at H
     have c8b0 : decide (0 ≤ x4_1) = true := decide_eq_true c8
     clear c8
     by_cases c9 : x4_1 < (l0_1.length : Int)
     rotate_left
     · rw [if_neg c9] at H
       exact absurd H (by simp)
     rw [if_pos c9] at H
     have c9b0 : decide (x4_1 < (l0_1.length : Int)) = true := decide_eq_true c9
     clear c9
     by_cases c10 : 0 ≤ x3_1
     rotate_left
     · rw [if_neg c10] at H
       exact absurd H (by simp)
     rw [if_pos c10] at H
     have c10b0 : decide (0 ≤ x3_1) = true := decide_eq_true c10
     clear c10
     by_cases c11 : x3_1 < (l0_1.length : Int)
     rotate_left
     · rw [if_neg c11] at H
       exact absurd H (by simp)
     rw [if_pos c11] at H
     have c11b0 : decide (x3_1 < (l0_1.length : Int)) = true := decide_eq_true c11
     clear c11
     have H9 := am H
     clear H
     obtain ⟨hcz12_0, hcz12_1, hcz12_2⟩ := bc3 wr BK327.out
     try go_wp2
     replace BK327 := am (blk_drew BK327.out)
     replace HB := am (below_drew1 HB.out)
     have p329 : 0 ≤ (x4_1 : Int) := of_decide_eq_true Q1
     have q329 : x4_1 < (l0_1.length : Int) := of_decide_eq_true Q1
     obtain ⟨ad329, A329_7, c329_7, A329_8, c329_8, A329_9, c329_9, e329, hx329_0, hx329_1, hx329_2, hx329_3, hx329_4, hx329_5, hx329_6, hx329_7, hx329_8, hx329_9, hl329_7, hi329_7, hl329_8, hi329_8, hl329_9, hi329_9⟩ := at_T37 HR0_1.out x4_1 p329 q329
     have hw329_9 := hx329_9
     have hw329_8 := hx329_8
     have hw329_7 := hx329_7
     have hw329_6 := hx329_6
     have hw329_5 := hx329_5
     have hw329_4 := hx329_4
     have hw329_3 := hx329_3
     have hw329_2 := hx329_2
     have hw329_1 := hx329_1
     have hw329_0 := hx329_0
     cases e329
     replace hx329_0 := cm HB.out hx329_0
     replace hx329_1 := cm HB.out hx329_1
     replace hx329_2 := cm HB.out hx329_2
     replace hx329_3 := cm HB.out hx329_3
     replace hx329_4 := cm HB.out hx329_4
     replace hx329_5 := cm HB.out hx329_5
     replace hx329_6 := cm HB.out hx329_6
     replace hx329_7 := cm HB.out hx329_7
     replace hx329_8 := cm HB.out hx329_8
     replace hx329_9 := cm HB.out hx329_9
     have HR329_7 := am hi329_7
     have HC329_7 := am hl329_7
     clear hi329_7 hl329_7
     have HR329_8 := am hi329_8
     have HC329_8 := am hl329_8
     clear hi329_8 hl329_8
     have HR329_9 := am hi329_9
     have HC329_9 := am hl329_9
     clear hi329_9 hl329_9
     replace p329 := eq_true p329
     replace q329 := eq_true q329
     have p330 : 0 ≤ (x3_1 : Int) := of_decide_eq_true Q1
     have q330 : x3_1 < (l0_1.length : Int) := of_decide_eq_true Q1
     obtain ⟨ad330, A330_7, c330_7, A330_8, c330_8, A330_9, c330_9, e330, hx330_0, hx330_1, hx330_2, hx330_3, hx330_4, hx330_5, hx330_6, hx330_7, hx330_8, hx330_9, hl330_7, hi330_7, hl330_8, hi330_8, hl330_9, hi330_9⟩ := at_T37 HR0_1.out x3_1 p330 q330
     have hw330_9 := hx330_9
     have hw330_8 := hx330_8
     have hw330_7 := hx330_7
     have hw330_6 := hx330_6
     have hw330_5 := hx330_5
     have hw330_4 := hx330_4
     have hw330_3 := hx330_3
     have hw330_2 := hx330_2
     have hw330_1 := hx330_1
     have hw330_0 := hx330_0
     obtain rfl : ad329 = ad330 := (by injection e330)
     replace hx330_0 := cm HB.out hx330_0
     replace hx330_1 := cm HB.out hx330_1
     replace hx330_2 := cm HB.out hx330_2
     replace hx330_3 := cm HB.out hx330_3
     replace hx330_4 := cm HB.out hx330_4
     replace hx330_5 := cm HB.out hx330_5
     replace hx330_6 := cm HB.out hx330_6
     replace hx330_7 := cm HB.out hx330_7
     replace hx330_8 := cm HB.out hx330_8
     replace hx330_9 := cm HB.out hx330_9
     have HR330_7 := am hi330_7
     have HC330_7 := am hl330_7
     clear hi330_7 hl330_7
     have HR330_8 := am hi330_8
     have HC330_8 := am hl330_8
     clear hi330_8 hl330_8
     have HR330_9 := am hi330_9
     have HC330_9 := am hl330_9
     clear hi330_9 hl330_9
     replace p330 := eq_true p330
     replace q330 := eq_true q330
     refine start_ (n := 13) (S := fun w' => w'.cell? ⟨gb327, 0, none⟩ = some (.int .i64 a0_0) ∧ w'.cell? ⟨gb327, 1, none⟩ = some (.slice (some ad329) l0_1.length c0_1) ∧ w'.cell? ⟨gb327, 2, none⟩ = some (.slice A0_2 l0_2.length c0_2) ∧ w'.cell? (ad329.add ((x4_1).toNat * 10)) = some (.int .i64 ((rd_T37 l0_1 x4_1).f0)) ∧ w'.cell? ⟨(ad329.add ((x4_1).toNat * 10)).block, (ad329.add ((x4_1).toNat * 10)).off + 1, none⟩ = some (.int .i64 ((rd_T37 l0_1 x4_1).f1)) ∧ w'.cell? ⟨(ad329.add ((x4_1).toNat * 10)).block, (ad329.add ((x4_1).toNat * 10)).off + 2, none⟩ = some (.int .i64 ((rd_T37 l0_1 x4_1).f2)) ∧ w'.cell? ⟨(ad329.add ((x4_1).toNat * 10)).block, (ad329.add ((x4_1).toNat * 10)).off + 3, none⟩ = some (.int .i64 ((rd_T37 l0_1 x4_1).f3)) ∧ w'.cell? ⟨(ad329.add ((x4_1).toNat * 10)).block, (ad329.add ((x4_1).toNat * 10)).off + 4, none⟩ = some (.int .i64 ((rd_T37 l0_1 x4_1).f4)) ∧ w'.cell? ⟨(ad329.add ((x4_1).toNat * 10)).block, (ad329.add ((x4_1).toNat * 10)).off + 5, none⟩ = some (.int .i64 ((rd_T37 l0_1 x4_1).f5.f0)) ∧ w'.cell? ⟨(ad329.add ((x4_1).toNat * 10)).block, (ad329.add ((x4_1).toNat * 10)).off + 6, none⟩ = some (.int .i64 ((rd_T37 l0_1 x4_1).f5.f1)) ∧ w'.cell? ⟨(ad329.add ((x4_1).toNat * 10)).block, (ad329.add ((x4_1).toNat * 10)).off + 7, none⟩ = some (.slice A329_7 ((rd_T37 l0_1 x4_1).f5.f2).length c329_7) ∧ w'.cell? ⟨(ad329.add ((x4_1).toNat * 10)).block, (ad329.add ((x4_1).toNat * 10)).off + 8, none⟩ = some (.slice A329_8 ((rd_T37 l0_1 x4_1).f6).length c329_8) ∧ w'.cell? ⟨(ad329.add ((x4_1).toNat * 10)).block, (ad329.add ((x4_1).toNat * 10)).off + 9, none⟩ = some (.slice A329_9 ((rd_T37 l0_1 x4_1).f7).length c329_9) ∧ w'.cell? (ad329.add ((x3_1).toNat * 10)) = some (.int .i64 ((rd_T37 l0_1 x3_1).f0)) ∧ w'.cell? ⟨(ad329.add ((x3_1).toNat * 10)).block, (ad329.add ((x3_1).toNat * 10)).off + 1, none⟩ = some (.int .i64 ((rd_T37 l0_1 x3_1).f1)) ∧ w'.cell? ⟨(ad329.add ((x3_1).toNat * 10)).block, (ad329.add ((x3_1).toNat * 10)).off + 2, none⟩ = some (.int .i64 ((rd_T37 l0_1 x3_1).f2)) ∧ w'.cell? ⟨(ad329.add ((x3_1).toNat * 10)).block, (ad329.add ((x3_1).toNat * 10)).off + 3, none⟩ = some (.int .i64 ((rd_T37 l0_1 x3_1).f3)) ∧ w'.cell? ⟨(ad329.add ((x3_1).toNat * 10)).block, (ad329.add ((x3_1).toNat * 10)).off + 4, none⟩ = some (.int .i64 ((rd_T37 l0_1 x3_1).f4)) ∧ w'.cell? ⟨(ad329.add ((x3_1).toNat * 10)).block, (ad329.add ((x3_1).toNat * 10)).off + 5, none⟩ = some (.int .i64 ((rd_T37 l0_1 x3_1).f5.f0)) ∧ w'.cell? ⟨(ad329.add ((x3_1).toNat * 10)).block, (ad329.add ((x3_1).toNat * 10)).off + 6, none⟩ = some (.int .i64 ((rd_T37 l0_1 x3_1).f5.f1)) ∧ w'.cell? ⟨(ad329.add ((x3_1).toNat * 10)).block, (ad329.add ((x3_1).toNat * 10)).off + 7, none⟩ = some (.slice A330_7 ((rd_T37 l0_1 x3_1).f5.f2).length c330_7) ∧ w'.cell? ⟨(ad329.add ((x3_1).toNat * 10)).block, (ad329.add ((x3_1).toNat * 10)).off + 8, none⟩ = some (.slice A330_8 ((rd_T37 l0_1 x3_1).f6).length c330_8) ∧ w'.cell? ⟨(ad329.add ((x3_1).toNat * 10)).block, (ad329.add ((x3_1).toNat * 10)).off + 9, none⟩ = some (.slice A330_9 ((rd_T37 l0_1 x3_1).f7).length c330_9)) (ds := []) #[false, false, false, false, false, false, false, false, false, false, false, false, false] kr rfl rfl ⟨(blk_cell BK327.out 0).trans rfl, (blk_cell BK327.out 1).trans rfl, (blk_cell BK327.out 2).trans rfl, (cm HB.out hw329_0), (cm HB.out hw329_1), (cm HB.out hw329_2), (cm HB.out hw329_3), (cm HB.out hw329_4), (cm HB.out hw329_5), (cm HB.out hw329_6), (cm HB.out hw329_7), (cm HB.out hw329_8), (cm HB.out hw329_9), (cm HB.out hw330_0), (cm HB.out hw330_1), (cm HB.out hw330_2), (cm HB.out hw330_3), (cm HB.out hw330_4), (cm HB.out hw330_5), (cm HB.out hw330_6), (cm HB.out hw330_7), (cm HB.out hw330_8), (cm HB.out hw330_9)⟩ (fun hHeld => ?_); refine with_tabW spec_Settled.tab7 spec_Settled.bits7 (fun HT_ HW_ => ?_)
     generalize wr.drew = w13 at BK327 HB HR329_7 HR329_8 HR329_9 HR330_7 HR330_8 HR330_9 hx329_0 hx329_1 hx329_2 hx329_3 hx329_4 hx329_5 hx329_6 hx329_7 hx329_8 hx329_9 hx330_0 hx330_1 hx330_2 hx330_3 hx330_4 hx330_5 hx330_6 hx330_7 hx330_8 hx330_9 hHeld ⊢
     refine pV 0 14 (bt 1 13) ?_
     refine pV 2 16 #[true, false, true, false, false, false, false, false, false, false, false, false, false] ?_
     refine pV 6 20 #[true, false, true, false, false, false, true, false, false, false, false, false, false] ?_
     refine pV 8 22 #[true, false, true, false, false, false, true, false, true, false, false, false, false] ?_
     refine tV 1 15 #[true, true, true, false, false, false, true, false, true, false, false, false, false] ?_
     refine pV 3 17 #[true, true, true, true, false, false, true, false, true, false, false, false, false] ?_
     refine pV 4 18 #[true, true, true, true, true, false, true, false, true, false, false, false, false] ?_
     refine tV 5 19 #[true, true, true, true, true, true, true, false, true, false, false, false, false] ?_
     refine tV 7 21 (bt 9 13) ?_
     refine pV 9 23 (bt 10 13) ?_
     refine pV 10 24 (bt 11 13) ?_
     refine tV 11 25 (bt 12 13) ?_
     refine pV 12 26 (bt 13 13) ?_
     refine done_ (done_of HT_.out kr) ?_
     go_upto_if 26 with (fail)
     have H := H9.out
     clear H9
     by_cases c14 : ((rd_T37 l0_1 x4_1).f4) > ((rd_T37 l0_1 x3_1).f4)
     · rw [if_pos c14] at H
       have c14b0 : decide (((rd_T37 l0_1 x3_1).f4) < ((rd_T37 l0_1 x4_1).f4)) = true := decide_eq_true c14
       clear c14
       (first | rw [c14b0] | (simp only [i64_w, i32_w]; rw [c14b0]) | skip)
       have H' := am H
       clear H
       go_wp2
       go_roundg k1
       case measure => have := HK1.out; omega
       case rel => exact ⟨(x4_1), (wrap64 (x4_1 + 1)), Q3, Q3, H', ⟨by have := HK1.out; omega⟩, ⟨u14_2⟩, ⟨Q2⟩⟩
     rw [if_neg c14] at H
     have c14b0 : decide (((rd_T37 l0_1 x3_1).f4) < ((rd_T37 l0_1 x4_1).f4)) = false := decide_eq_false c14
     clear c14
     (first | rw [c14b0] | (simp only [i64_w, i32_w]; rw [c14b0]) | skip)
     have H' := am H
     clear H
     go_wp2
     go_roundg k1
     case measure => have := HK1.out; omega
     case rel => exact ⟨(x3_1), (wrap64 (x4_1 + 1)), Q3, Q3, H', ⟨by have := HK1.out; omega⟩, ⟨u14_2⟩, ⟨Q2⟩⟩
   rw [if_neg c7] at H
   have c7b0 : decide (x4_1 < a0_0) = false := decide_eq_false c7
   clear c7
   (first | rw [c7b0] | (simp only [i64_w, i32_w]; rw [c7b0]) | skip)
   by_cases c15 : 0 ≤ x3_1
   rotate_left
   · rw [if_neg c15] at H
     exact absurd H (by simp)
   rw [if_pos c15] at H
   have c15b0 : decide (0 ≤ x3_1) = true := decide_eq_true c15
   clear c15
   by_cases c16 : x3_1 < (l0_1.length : Int)
   rotate_left
   · rw [if_neg c16] at H
     exact absurd H (by simp)
   rw [if_pos c16] at H
   have c16b0 : decide (x3_1 < (l0_1.length : Int)) = true := decide_eq_true c16
   clear c16
   by_cases c17 : 0 ≤ ((rd_T37 l0_1 x3_1).f4)
   rotate_left
   · rw [if_neg c17] at H
     exact absurd H (by simp)
   rw [if_pos c17] at H
   have c17b0 := eq_true c17
   have c17b1 : decide (0 ≤ ((rd_T37 l0_1 x3_1).f4)) = true := decide_eq_true c17
   clear c17
   by_cases c18 : ((rd_T37 l0_1 x3_1).f4) ≤ (((rd_T37 l0_1 x3_1).f5.f2).length : Int)
   rotate_left
   · rw [if_neg c18] at H
     exact absurd H (by simp)
   rw [if_pos c18] at H
   have c18b0 := eq_true c18
   have c18b1 : decide (((rd_T37 l0_1 x3_1).f4) ≤ (((rd_T37 l0_1 x3_1).f5.f2).length : Int)) = true := decide_eq_true c18
   clear c18
   obtain ⟨y333, hy333⟩ : ∃ y_ : List (S85), y_ = (((rd_T37 l0_1 x3_1).f5.f2).take (((rd_T37 l0_1 x3_1).f4) : Int).toNat) := ⟨_, rfl⟩
   replace H : ((spec_l05Copy.f k1 0 0 y333).bind fun bt337 => (some bt337.2.2)) = some r := by first | (rw [hy333]; with_reducible exact H) | (have H2_ := (Option.bind_some _ _).symm.trans H; rw [hy333]; with_reducible exact H2_) | (have H2_ := (Option.bind_some _ _).symm.trans H; with_reducible exact H2_) | with_reducible exact H | (rw [hy333]; exact H) | exact H
   have Ny333 := am hy333
   clear hy333
   replace H := Option.bind_eq_some_iff.mp H
   obtain ⟨⟨t337, t338, t339⟩, A190, H⟩ := H
   replace H : (some t339) = some r := H
   have A19 := am A190
   clear A190
   obtain rfl := sj H
   obtain ⟨hcz20_0, hcz20_1, hcz20_2⟩ := bc3 wr BK327.out
   try go_wp2
   replace BK327 := am (blk_drew BK327.out)
   replace HB := am (below_drew1 HB.out)
   have p331 : 0 ≤ (x3_1 : Int) := of_decide_eq_true Q1
   have q331 : x3_1 < (l0_1.length : Int) := of_decide_eq_true Q1
   obtain ⟨ad331, A331_7, c331_7, A331_8, c331_8, A331_9, c331_9, e331, hx331_0, hx331_1, hx331_2, hx331_3, hx331_4, hx331_5, hx331_6, hx331_7, hx331_8, hx331_9, hl331_7, hi331_7, hl331_8, hi331_8, hl331_9, hi331_9⟩ := at_T37 HR0_1.out x3_1 p331 q331
   (try clear hx330_7 hx330_8 hx330_9)
   have hw331_9 := hx331_9
   have hw331_8 := hx331_8
   have hw331_7 := hx331_7
   have hw331_6 := hx331_6
   have hw331_5 := hx331_5
   have hw331_4 := hx331_4
   have hw331_3 := hx331_3
   have hw331_2 := hx331_2
   have hw331_1 := hx331_1
   have hw331_0 := hx331_0
   cases e331
   replace hx331_0 := cm HB.out hx331_0
   replace hx331_1 := cm HB.out hx331_1
   replace hx331_2 := cm HB.out hx331_2
   replace hx331_3 := cm HB.out hx331_3
   replace hx331_4 := cm HB.out hx331_4
   replace hx331_5 := cm HB.out hx331_5
   replace hx331_6 := cm HB.out hx331_6
   replace hx331_7 := cm HB.out hx331_7
   replace hx331_8 := cm HB.out hx331_8
   replace hx331_9 := cm HB.out hx331_9
   have HR331_7 := am hi331_7
   have HC331_7 := am hl331_7
   clear hi331_7 hl331_7
   have HR331_8 := am hi331_8
   have HC331_8 := am hl331_8
   clear hi331_8 hl331_8
   have HR331_9 := am hi331_9
   have HC331_9 := am hl331_9
   clear hi331_9 hl331_9
   replace p331 := eq_true p331
   replace q331 := eq_true q331
   have p332 : 0 ≤ (x3_1 : Int) := of_decide_eq_true Q1
   have q332 : x3_1 < (l0_1.length : Int) := of_decide_eq_true Q1
   obtain ⟨ad332, A332_7, c332_7, A332_8, c332_8, A332_9, c332_9, e332, hx332_0, hx332_1, hx332_2, hx332_3, hx332_4, hx332_5, hx332_6, hx332_7, hx332_8, hx332_9, hl332_7, hi332_7, hl332_8, hi332_8, hl332_9, hi332_9⟩ := at_T37 HR0_1.out x3_1 p332 q332
   have hw332_9 := hx332_9
   have hw332_8 := hx332_8
   have hw332_7 := hx332_7
   have hw332_6 := hx332_6
   have hw332_5 := hx332_5
   have hw332_4 := hx332_4
   have hw332_3 := hx332_3
   have hw332_2 := hx332_2
   have hw332_1 := hx332_1
   have hw332_0 := hx332_0
   obtain rfl : ad331 = ad332 := (by injection e332)
   replace hx332_0 := cm HB.out hx332_0
   replace hx332_1 := cm HB.out hx332_1
   replace hx332_2 := cm HB.out hx332_2
   replace hx332_3 := cm HB.out hx332_3
   replace hx332_4 := cm HB.out hx332_4
   replace hx332_5 := cm HB.out hx332_5
   replace hx332_6 := cm HB.out hx332_6
   replace hx332_7 := cm HB.out hx332_7
   replace hx332_8 := cm HB.out hx332_8
   replace hx332_9 := cm HB.out hx332_9
   have HR332_7 := am hi332_7
   have HC332_7 := am hl332_7
   clear hi332_7 hl332_7
   have HR332_8 := am hi332_8
   have HC332_8 := am hl332_8
   clear hi332_8 hl332_8
   have HR332_9 := am hi332_9
   have HC332_9 := am hl332_9
   clear hi332_9 hl332_9
   replace p332 := eq_true p332
   replace q332 := eq_true q332
   have ea_ := Option.some.inj (hx331_7.symm.trans hx332_7)
   injection ea_ with ea_ en_ ec_
   subst ea_
   subst ec_
   clear en_
   have ea_ := Option.some.inj (hx331_8.symm.trans hx332_8)
   injection ea_ with ea_ en_ ec_
   subst ea_
   subst ec_
   clear en_
   have ea_ := Option.some.inj (hx331_9.symm.trans hx332_9)
   injection ea_ with ea_ en_ ec_
   subst ea_
   subst ec_
   clear en_
   have q22 : (((rd_T37 l0_1 x3_1).f4) : Int) ≤ ((((rd_T37 l0_1 x3_1).f5.f2).length : Int) : Int) := of_decide_eq_true Q1
   obtain ⟨i022, hi022, _, hsz22, _⟩ := info_parts info85
   have hroom22 : ((rd_T37 l0_1 x3_1).f5.f2).length ≤ c331_7 := HC331_7.out
   have hC22 : Kd.C k85 _ A331_7 ((rd_T37 l0_1 x3_1).f5.f2).length ((rd_T37 l0_1 x3_1).f5.f2) := HR331_7.out
   have hcut22 := cut_to (P := Try.prog) 27 85 .i64 Try.underlying27 hi022 A331_7 ((rd_T37 l0_1 x3_1).f5.f2).length c331_7 ((rd_T37 l0_1 x3_1).f4) (of_decide_eq_true Q1) q22 hroom22
   have hr22 := Kd.C_take (m := (((rd_T37 l0_1 x3_1).f4) : Int).toNat) hC22 (by omega)
   have hy22 : y333.length = (((rd_T37 l0_1 x3_1).f4) : Int).toNat := (by rw [Ny333.out, List.length_take]; omega)
   rw [← Ny333.out] at hr22
   rw [← hy22] at hcut22
   have HR336 := am hr22
   have HC336 := am (show y333.length ≤ c331_7 from by omega)
   clear hr22 hC22 hroom22 hi022 hsz22
   have KY22 := am hy22
   clear hy22
   replace q22 := eq_true q22
   refine start_ (n := 18) (S := fun w' => w'.cell? ⟨gb327, 0, none⟩ = some (.int .i64 a0_0) ∧ w'.cell? ⟨gb327, 1, none⟩ = some (.slice (some ad331) l0_1.length c0_1) ∧ w'.cell? ⟨gb327, 2, none⟩ = some (.slice A0_2 l0_2.length c0_2) ∧ w'.cell? (ad331.add ((x3_1).toNat * 10)) = some (.int .i64 ((rd_T37 l0_1 x3_1).f0)) ∧ w'.cell? ⟨(ad331.add ((x3_1).toNat * 10)).block, (ad331.add ((x3_1).toNat * 10)).off + 1, none⟩ = some (.int .i64 ((rd_T37 l0_1 x3_1).f1)) ∧ w'.cell? ⟨(ad331.add ((x3_1).toNat * 10)).block, (ad331.add ((x3_1).toNat * 10)).off + 2, none⟩ = some (.int .i64 ((rd_T37 l0_1 x3_1).f2)) ∧ w'.cell? ⟨(ad331.add ((x3_1).toNat * 10)).block, (ad331.add ((x3_1).toNat * 10)).off + 3, none⟩ = some (.int .i64 ((rd_T37 l0_1 x3_1).f3)) ∧ w'.cell? ⟨(ad331.add ((x3_1).toNat * 10)).block, (ad331.add ((x3_1).toNat * 10)).off + 4, none⟩ = some (.int .i64 ((rd_T37 l0_1 x3_1).f4)) ∧ w'.cell? ⟨(ad331.add ((x3_1).toNat * 10)).block, (ad331.add ((x3_1).toNat * 10)).off + 5, none⟩ = some (.int .i64 ((rd_T37 l0_1 x3_1).f5.f0)) ∧ w'.cell? ⟨(ad331.add ((x3_1).toNat * 10)).block, (ad331.add ((x3_1).toNat * 10)).off + 6, none⟩ = some (.int .i64 ((rd_T37 l0_1 x3_1).f5.f1)) ∧ w'.cell? ⟨(ad331.add ((x3_1).toNat * 10)).block, (ad331.add ((x3_1).toNat * 10)).off + 7, none⟩ = some (.slice A331_7 ((rd_T37 l0_1 x3_1).f5.f2).length c331_7) ∧ w'.cell? ⟨(ad331.add ((x3_1).toNat * 10)).block, (ad331.add ((x3_1).toNat * 10)).off + 8, none⟩ = some (.slice A331_8 ((rd_T37 l0_1 x3_1).f6).length c331_8) ∧ w'.cell? ⟨(ad331.add ((x3_1).toNat * 10)).block, (ad331.add ((x3_1).toNat * 10)).off + 9, none⟩ = some (.slice A331_9 ((rd_T37 l0_1 x3_1).f7).length c331_9) ∧ w'.cell? (ad331.add ((x3_1).toNat * 10)) = some (.int .i64 ((rd_T37 l0_1 x3_1).f0)) ∧ w'.cell? ⟨(ad331.add ((x3_1).toNat * 10)).block, (ad331.add ((x3_1).toNat * 10)).off + 1, none⟩ = some (.int .i64 ((rd_T37 l0_1 x3_1).f1)) ∧ w'.cell? ⟨(ad331.add ((x3_1).toNat * 10)).block, (ad331.add ((x3_1).toNat * 10)).off + 2, none⟩ = some (.int .i64 ((rd_T37 l0_1 x3_1).f2)) ∧ w'.cell? ⟨(ad331.add ((x3_1).toNat * 10)).block, (ad331.add ((x3_1).toNat * 10)).off + 3, none⟩ = some (.int .i64 ((rd_T37 l0_1 x3_1).f3)) ∧ w'.cell? ⟨(ad331.add ((x3_1).toNat * 10)).block, (ad331.add ((x3_1).toNat * 10)).off + 4, none⟩ = some (.int .i64 ((rd_T37 l0_1 x3_1).f4)) ∧ w'.cell? ⟨(ad331.add ((x3_1).toNat * 10)).block, (ad331.add ((x3_1).toNat * 10)).off + 5, none⟩ = some (.int .i64 ((rd_T37 l0_1 x3_1).f5.f0)) ∧ w'.cell? ⟨(ad331.add ((x3_1).toNat * 10)).block, (ad331.add ((x3_1).toNat * 10)).off + 6, none⟩ = some (.int .i64 ((rd_T37 l0_1 x3_1).f5.f1)) ∧ w'.cell? ⟨(ad331.add ((x3_1).toNat * 10)).block, (ad331.add ((x3_1).toNat * 10)).off + 7, none⟩ = some (.slice A331_7 ((rd_T37 l0_1 x3_1).f5.f2).length c331_7) ∧ w'.cell? ⟨(ad331.add ((x3_1).toNat * 10)).block, (ad331.add ((x3_1).toNat * 10)).off + 8, none⟩ = some (.slice A331_8 ((rd_T37 l0_1 x3_1).f6).length c331_8) ∧ w'.cell? ⟨(ad331.add ((x3_1).toNat * 10)).block, (ad331.add ((x3_1).toNat * 10)).off + 9, none⟩ = some (.slice A331_9 ((rd_T37 l0_1 x3_1).f7).length c331_9)) (ds := []) b0_18 kr rfl rfl ⟨(blk_cell BK327.out 0).trans rfl, (blk_cell BK327.out 1).trans rfl, (blk_cell BK327.out 2).trans rfl, (cm HB.out hw331_0), (cm HB.out hw331_1), (cm HB.out hw331_2), (cm HB.out hw331_3), (cm HB.out hw331_4), (cm HB.out hw331_5), (cm HB.out hw331_6), (cm HB.out hw331_7), (cm HB.out hw331_8), (cm HB.out hw331_9), (cm HB.out hw332_0), (cm HB.out hw332_1), (cm HB.out hw332_2), (cm HB.out hw332_3), (cm HB.out hw332_4), (cm HB.out hw332_5), (cm HB.out hw332_6), (cm HB.out hw332_7), (cm HB.out hw332_8), (cm HB.out hw332_9)⟩ (fun hHeld => ?_); refine with_tabW spec_Settled.tab9 spec_Settled.bits9 (fun HT_ HW_ => ?_)
   generalize wr.drew = w21 at BK327 HB HR331_7 HR331_8 HR331_9 HR332_7 HR332_8 HR332_9 HR336 hx331_0 hx331_1 hx331_2 hx331_3 hx331_4 hx331_5 hx331_6 hx331_7 hx331_8 hx331_9 hx332_0 hx332_1 hx332_2 hx332_3 hx332_4 hx332_5 hx332_6 hx332_7 hx332_8 hx332_9 hHeld ⊢
   refine pV 0 28 (bt 1 18) ?_
   refine pV 2 30 bx34 ?_
   refine pV 7 35 #[true, false, true, false, false, false, false, true, false, false, false, false, false, false, false, false, false, false] ?_
   refine pV 9 37 #[true, false, true, false, false, false, false, true, false, true, false, false, false, false, false, false, false, false] ?_
   refine tV 1 29 #[true, true, true, false, false, false, false, true, false, true, false, false, false, false, false, false, false, false] ?_
   refine pV 3 31 #[true, true, true, true, false, false, false, true, false, true, false, false, false, false, false, false, false, false] ?_
   refine pV 4 32 #[true, true, true, true, true, false, false, true, false, true, false, false, false, false, false, false, false, false] ?_
   refine pV 5 33 #[true, true, true, true, true, true, false, true, false, true, false, false, false, false, false, false, false, false] ?_
   refine tV 6 34 #[true, true, true, true, true, true, true, true, false, true, false, false, false, false, false, false, false, false] ?_
   refine tV 8 36 (bt 10 18) ?_
   refine pV 10 38 (bt 11 18) ?_
   refine pV 11 39 (bt 12 18) ?_
   refine tV 12 40 (bt 13 18) ?_
   refine pV 13 41 (bt 14 18) ?_
   refine pV 14 42 (bt 15 18) ?_
   refine one_ (i := 15) (N := some 43) b16_18 rfl rfl (one_of HT_.out kr) (by decide) (fun K hK => ?_)
   refine goes_ Try.func84 kr rfl #[.agg #[.int .i64 0, .int .i64 0, .slice A331_7 y333.length c331_7]] (by rfl) rfl rfl Q0 ?_
   with_reducible refine (spec_l05Copy.calls k1 0 0 _ _ y333 t337 t338 t339 _ ?side1 ?side2 A19.out).mono ?_
   (case side1 => exact (by repeat (first | exact (Kd.C_below HR336.out HB.out) | (with_reducible refine Kd.C_alloc ?_ _) | (with_reducible refine Kd.C_drewN ?_ _) | (with_reducible refine Kd.C_drew ?_))))
   (case side2 => exact HC336.out)
   rintro e w23 ⟨v340, rfl, ho0, hb⟩
   refine ⟨_, rfl, ?_⟩
   have HO341 := am (Kd.R_lower ho0 (below_size Q2))
   replace BK327 := am (bb_ BK327.out u14_2 hb)
   replace HB := am (below_step Q2 hb)
   (try clear hb)
   (try clear hb2)
   (try clear hk)
   (try clear hi)
   (try clear ho0)
   refine hK.out _ _ ⟨(blk_cell BK327.out 0).trans rfl, (blk_cell BK327.out 1).trans rfl, (blk_cell BK327.out 2).trans rfl, (cm HB.out hw331_0), (cm HB.out hw331_1), (cm HB.out hw331_2), (cm HB.out hw331_3), (cm HB.out hw331_4), (cm HB.out hw331_5), (cm HB.out hw331_6), (cm HB.out hw331_7), (cm HB.out hw331_8), (cm HB.out hw331_9), (cm HB.out hw332_0), (cm HB.out hw332_1), (cm HB.out hw332_2), (cm HB.out hw332_3), (cm HB.out hw332_4), (cm HB.out hw332_5), (cm HB.out hw332_6), (cm HB.out hw332_7), (cm HB.out hw332_8), (cm HB.out hw332_9)⟩ (fun hHeld => ?_)
   clear hK K
   refine norm_ (a' := ?_) ?_ ?_
   rotate_left
   · show Act.put _ (some 43) _ = _
     simp only [Act.put, la, lb, lc, i64_w, i32_w]
     rfl
   refine pV 16 44 (bt 17 18) ?_
   refine pV 17 2 (bt 18 18) ?_
   refine done_ (done_of HT_.out kr) ?_
   try go_wp2
   go_ret
   exact ⟨_, er, (by (with_reducible repeat (first | apply r1_ | apply r2_ | apply r3_)); exact HO341.out), Q2⟩
def impl_isEntry.f (a0_0 : Int) (a0_1 : ByteArray) : Option (Bool) := if a0_0 > 0 then (if a0_0 ≤ 1000000 then (some (decide ((a0_1.size : Int) ≤ 40))) else (some false)) else (some false)
set_option maxHeartbeats 8000000 in
set_option maxRecDepth 100000 in
theorem impl_isEntry.calls (a0_0 : Int) (a0_1 : ByteArray) (r : Bool) (w : World) (h : impl_isEntry.f a0_0 a0_1 = some r) :
   Calls Try.prog 111 #[.agg #[.int .i64 a0_0, .string a0_1]] w fun e w' => e = .returned (.bool r) ∧ Below w.heap.size w w' := by
 have hu85 := Try.underlying85
 have HB := am (Below.refl w.heap.size w)
 have H : (if a0_0 > 0 then (if a0_0 ≤ 1000000 then (some (decide ((a0_1.size : Int) ≤ 40))) else (some false)) else (some false)) = some r := h
 clear h
 by_cases c2 : a0_0 > 0
 rotate_left
 · rw [if_neg c2] at H
   have c2b0 : decide (0 < a0_0) = false := decide_eq_false c2
   clear c2
   obtain rfl := sj H
   go_enter Try.func111, Try.ntmps111
   go_wp2_with (first | ((with_reducible refine gate_dst (N := 1) rfl ?_); (try (refine gate_guard (by rfl) ?_; dsimp only)); refine box_event ?hg (N := 1) ?hd (cs := #[.int .i64 a0_0, .string a0_1]) (t := 85) ?hr ?_; (case hd => rfl); (case hg => rfl); (case hr => first | (go_simp; done) | (go_simp; rfl)); intro gb342 hg w8 hbox hb; have BK342 := am (hbox); have GW342 := am ((by rw [hg]; exact (below_size Q2) : w.heap.size ≤ gb342)); have GE342 := am ((by rw [hg]; exact (below_size Q2) : w.heap.size ≤ gb342)); replace HB := am (below_step Q2 hb); clear hb hbox hg; obtain ⟨hcz9_0, hcz9_1, hfz9_0, hfz9_1⟩ := bc2f w8 BK342.out))
   go_ret
   exact ⟨er, Q2⟩
 rw [if_pos c2] at H
 have c2b0 : decide (0 < a0_0) = true := decide_eq_true c2
 clear c2
 by_cases c3 : a0_0 ≤ 1000000
 · rw [if_pos c3] at H
   have c3b0 : decide (a0_0 ≤ 1000000) = true := decide_eq_true c3
   clear c3
   obtain rfl := sj H
   go_enter Try.func111, Try.ntmps111
   go_wp2_with (first | ((with_reducible refine gate_dst (N := 1) rfl ?_); (try (refine gate_guard (by rfl) ?_; dsimp only)); refine box_event ?hg (N := 1) ?hd (cs := #[.int .i64 a0_0, .string a0_1]) (t := 85) ?hr ?_; (case hd => rfl); (case hg => rfl); (case hr => first | (go_simp; done) | (go_simp; rfl)); intro gb342 hg w4 hbox hb; have BK342 := am (hbox); have GW342 := am ((by rw [hg]; exact (below_size Q2) : w.heap.size ≤ gb342)); have GE342 := am ((by rw [hg]; exact (below_size Q2) : w.heap.size ≤ gb342)); replace HB := am (below_step Q2 hb); clear hb hbox hg; obtain ⟨hcz5_0, hcz5_1, hfz5_0, hfz5_1⟩ := bc2f w4 BK342.out))
   go_ret
   exact ⟨er, Q2⟩
 rw [if_neg c3] at H
 have c3b0 : decide (a0_0 ≤ 1000000) = false := decide_eq_false c3
 clear c3
 obtain rfl := sj H
 go_enter Try.func111, Try.ntmps111
 go_wp2_with (first | ((with_reducible refine gate_dst (N := 1) rfl ?_); (try (refine gate_guard (by rfl) ?_; dsimp only)); refine box_event ?hg (N := 1) ?hd (cs := #[.int .i64 a0_0, .string a0_1]) (t := 85) ?hr ?_; (case hd => rfl); (case hg => rfl); (case hr => first | (go_simp; done) | (go_simp; rfl)); intro gb342 hg w6 hbox hb; have BK342 := am (hbox); have GW342 := am ((by rw [hg]; exact (below_size Q2) : w.heap.size ≤ gb342)); have GE342 := am ((by rw [hg]; exact (below_size Q2) : w.heap.size ≤ gb342)); replace HB := am (below_step Q2 hb); clear hb hbox hg; obtain ⟨hcz7_0, hcz7_1, hfz7_0, hfz7_1⟩ := bc2f w6 BK342.out))
 go_ret
 exact ⟨er, Q2⟩
end Go.Proofs.Ytkcadcoohmofcaa.QFnExactSettled
