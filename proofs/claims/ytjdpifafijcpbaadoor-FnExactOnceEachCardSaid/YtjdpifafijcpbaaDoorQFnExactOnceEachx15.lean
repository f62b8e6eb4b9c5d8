-- Printed by the session's own program wip/prx.py.
import Derived.Test.YtjdpifafijcpbaaDoorSqFnExactOnceEach
import Derived.Test.YtjdpifafijcpbaaDoorQFnExactOnceEachx0
import Derived.Test.YtjdpifafijcpbaaDoorQFnExactOnceEachx14
namespace Go.Proofs.YtjdpifafijcpbaaDoor.QFnExactOnceEach
open Go.RowKit Go.Proofs.YtjdpifafijcpbaaDoorW.PrintWords Go.Proofs.YtjdpifafijcpbaaDoorW.PrintLast Go.Proofs.YtjdpifafijcpbaaDoorW.PrintMore Go.Proofs.YtjdpifafijcpbaaDoor.SqFnExactOnceEach
attribute [local go_sem] max2_int min2_int max_two min_two max_three min_three max_four min_four Go.Proofs.YtjdpifafijcpbaaDoor.Set.isSome_setCell
set_option linter.unusedVariables false
set_option linter.unusedSimpArgs false

-- squeezed
/-! ### laws_heldSessionS: function 43 -/
def laws_heldSessionS.l0 : Nat → List (S54) → Int → Int → Option (Int)
 | 0, _, _, _ => none
 | k + 1, x0, x1, x5 => if x5 < (x0.length : Int) then (if 0 ≤ x5 then (if ((rd_T54 x0 x5).f0) = x1 then (if ((rd_T54 x0 x5).f1) = (wrap64 (x1 + 1)) then (if ((rd_T54 x0 x5).f2) = (wrap64 ((wrap64 (x1 + 1)) + 1)) then ((laws_markText.f k (wrap64 ((wrap64 ((wrap64 (x1 + 1)) + 1)) + 1))).bind fun t399 => (if ((rd_T54 x0 x5).f3).toList = t399.toList then (laws_heldSessionS.l0 k x0 (wrap64 ((wrap64 ((wrap64 ((wrap64 (x1 + 1)) + 1)) + 1)) + 1)) (wrap64 (x5 + 1))) else (some (-1)))) else (some (-1))) else (some (-1))) else (some (-1))) else (none)) else (some x1)
def laws_heldSessionS.f (k : Nat) (l0 : List (S54)) (a1 : Int) : Option (Int) := laws_heldSessionS.l0 k l0 a1 0
theorem laws_heldSessionS.mono_l : ∀ k, (∀ y0 y1 y2, LeO (laws_heldSessionS.l0 k y0 y1 y2) (laws_heldSessionS.l0 (k + 1) y0 y1 y2))
 | 0 => fun _ _ _ r h => by simp [laws_heldSessionS.l0] at h
 | k + 1 => by
   have ih0 := laws_heldSessionS.mono_l k
   · intro y0 y1 y2
     unfold laws_heldSessionS.l0
     repeat' first
     | (with_reducible exact ih0 _ _ _)
     | (with_reducible exact laws_markText.mono _ _)
     | (with_reducible exact LeO.refl _)
     | (with_reducible exact LeO.none _)
     | (with_reducible refine LeO.ite ?_ ?_)
     | (with_reducible refine LeO.bind ?_ (fun _ => ?_))
     | exact ih0 _ _ _
     | exact laws_markText.mono _ _
     | exact LeO.none _
     | refine LeO.ite ?_ ?_
     | refine LeO.bind ?_ (fun _ => ?_)
theorem laws_heldSessionS.mono : ∀ a0 a1 k, LeO (laws_heldSessionS.f k a0 a1) (laws_heldSessionS.f (k + 1) a0 a1) := by
 intro a0 a1 k
 have ih0 := laws_heldSessionS.mono_l k
 unfold laws_heldSessionS.f
 repeat' first
     | (with_reducible exact ih0 _ _ _)
     | (with_reducible exact laws_markText.mono _ _)
     | (with_reducible exact LeO.refl _)
     | (with_reducible exact LeO.none _)
     | (with_reducible refine LeO.ite ?_ ?_)
     | (with_reducible refine LeO.bind ?_ (fun _ => ?_))
     | exact ih0 _ _ _
     | exact laws_markText.mono _ _
     | exact LeO.none _
     | refine LeO.ite ?_ ?_
     | refine LeO.bind ?_ (fun _ => ?_)
def laws_heldSessionS.T13 : Bool × List (List Nat × List Nat) := (true, [([], []), ([], []), ([0, 1], [0, 1]), ([2], [2]), ([3], [3]), ([], []), ([5], [5]), ([4, 6], [4, 6])])
def laws_heldSessionS.B13 : List Nat := [0, 0, 3, 7, 15, 0, 32, 127]
theorem laws_heldSessionS.tab13 : rtab .any (opsOf Tryd.f43 13) = laws_heldSessionS.T13 := by kernel_rfl
theorem laws_heldSessionS.bits13 : waitsOk laws_heldSessionS.T13.2 laws_heldSessionS.B13 = true := by kernel_rfl
set_option maxHeartbeats 8000000 in
set_option maxRecDepth 100000 in
theorem laws_heldSessionS.calls (k : Nat) (A0 : Option Addr) (c0 : Nat) (l0 : List (S54)) (a1 : Int) (r : Int) (w : World) (hr0 : Kd.C k54 w A0 l0.length l0) (hc0 : l0.length ≤ c0) (h : laws_heldSessionS.f k l0 a1 = some r) :
   Calls Tryd.prog 43 #[.slice A0 l0.length c0, .int .i64 a1] w fun e w' => e = .returned (.int .i64 r) ∧ Below w.heap.size w w' := by
 have HR0 := am hr0
 have HC0 := am hc0
 clear hr0 hc0
 have HB := am (Below.refl w.heap.size w)
 have H : (laws_heldSessionS.l0 k l0 a1 0) = some r := h
 clear h
 have H' := am H
 clear H
 go_enter Tryd.func43, Tryd.ntmps43
 go_wp2
 go_loopg [1, 5] k (fun kq v1 v5 w' => ∃ (x1_1 : Int) (x5_1 : Int), v1 = .int .i64 x1_1 ∧ v5 = .int .i64 x5_1 ∧ Aside0 (laws_heldSessionS.l0 kq l0 x1_1 x5_1 = some r) ∧ Aside0 (kq ≤ k) ∧ Aside0 (Below w.heap.size w w'))
 case atStart => exact ⟨(a1), (0), q2, q2, H', ⟨Nat.le_refl _⟩, ⟨q1⟩⟩
 clear H'
 obtain ⟨x1_1, x5_1, rfl, rfl, HA, HK1, HB⟩ := hrel
 cases gk with
 | zero => exact absurd HA.out (by simp [laws_heldSessionS.l0])
 | succ k1 =>
   have H := HA.out
   clear HA
   simp only [laws_heldSessionS.l0] at H
   by_cases c3 : x5_1 < (l0.length : Int)
   rotate_left
   · rw [if_neg c3] at H
     have c3b0 : decide (x5_1 < (l0.length : Int)) = false := decide_eq_false c3
     clear c3
     obtain rfl := sj H
     go_wp2
     go_ret
     exact ⟨er, q1⟩
   rw [if_pos c3] at H
   have c3b0 : decide (x5_1 < (l0.length : Int)) = true := decide_eq_true c3
   clear c3
   by_cases c4 : 0 ≤ x5_1
   rotate_left
   · rw [if_neg c4] at H
     exact absurd H (by simp)
   rw [if_pos c4] at H
   have c4b0 : decide (0 ≤ x5_1) = true := decide_eq_true c4
   clear c4
   have H9 := am H
   clear H
   have p395 : 0 ≤ (x5_1 : Int) := of_decide_eq_true q0
   have q395 : x5_1 < (l0.length : Int) := of_decide_eq_true q0
   obtain ⟨ad395, e395, hx395_0, hx395_1, hx395_2, hx395_3⟩ := at_T54 HR0.out x5_1 p395 q395
   cases e395
   replace hx395_0 := cm HB.out hx395_0
   replace hx395_1 := cm HB.out hx395_1
   replace hx395_2 := cm HB.out hx395_2
   replace hx395_3 := cm HB.out hx395_3
   replace p395 := eq_true p395
   replace q395 := eq_true q395
   go_upto_if 18 with (fail)
   have H := H9.out
   clear H9
   by_cases c5 : ((rd_T54 l0 x5_1).f0) = x1_1
   rotate_left
   · rw [if_neg c5] at H
     have c5b0 : (((rd_T54 l0 x5_1).f0) == x1_1) = false := beq_eq_false_iff_ne.mpr c5
     have c5b1 : (((rd_T54 l0 x5_1).f0) != x1_1) = true := bne_iff_ne.mpr c5
     (first | rw [c5b0] | (simp only [i64_w, i32_w]; rw [c5b0]) | skip)
     obtain rfl := sj H
     go_wp2
     go_ret
     exact ⟨er, q1⟩
   rw [if_pos c5] at H
   have c5b0 : (((rd_T54 l0 x5_1).f0) == x1_1) = true := beq_iff_eq.mpr c5
   have c5b1 : (((rd_T54 l0 x5_1).f0) != x1_1) = false := bne_eq_false_iff_eq.mpr c5
   clear c5
   (first | rw [c5b0] | (simp only [i64_w, i32_w]; rw [c5b0]) | skip)
   have H9 := am H
   clear H
   have p396 : 0 ≤ (x5_1 : Int) := of_decide_eq_true q0
   have q396 : x5_1 < (l0.length : Int) := of_decide_eq_true q0
   obtain ⟨ad396, e396, hx396_0, hx396_1, hx396_2, hx396_3⟩ := at_T54 HR0.out x5_1 p396 q396
   obtain rfl : ad395 = ad396 := (by injection e396)
   replace hx396_0 := cm HB.out hx396_0
   replace hx396_1 := cm HB.out hx396_1
   replace hx396_2 := cm HB.out hx396_2
   replace hx396_3 := cm HB.out hx396_3
   replace p396 := eq_true p396
   replace q396 := eq_true q396
   go_upto_if 27 with (fail)
   have H := H9.out
   clear H9
   by_cases c6 : ((rd_T54 l0 x5_1).f1) = (wrap64 (x1_1 + 1))
   rotate_left
   · rw [if_neg c6] at H
     have c6b0 : (((rd_T54 l0 x5_1).f1) == (wrap64 (x1_1 + 1))) = false := beq_eq_false_iff_ne.mpr c6
     have c6b1 : (((rd_T54 l0 x5_1).f1) != (wrap64 (x1_1 + 1))) = true := bne_iff_ne.mpr c6
     (first | rw [c6b0] | (simp only [i64_w, i32_w]; rw [c6b0]) | skip)
     obtain rfl := sj H
     go_wp2
     go_ret
     exact ⟨er, q1⟩
   rw [if_pos c6] at H
   have c6b0 : (((rd_T54 l0 x5_1).f1) == (wrap64 (x1_1 + 1))) = true := beq_iff_eq.mpr c6
   have c6b1 : (((rd_T54 l0 x5_1).f1) != (wrap64 (x1_1 + 1))) = false := bne_eq_false_iff_eq.mpr c6
   clear c6
   (first | rw [c6b0] | (simp only [i64_w, i32_w]; rw [c6b0]) | skip)
   have H9 := am H
   clear H
   have p397 : 0 ≤ (x5_1 : Int) := of_decide_eq_true q0
   have q397 : x5_1 < (l0.length : Int) := of_decide_eq_true q0
   obtain ⟨ad397, e397, hx397_0, hx397_1, hx397_2, hx397_3⟩ := at_T54 HR0.out x5_1 p397 q397
   obtain rfl : ad395 = ad397 := (by injection e397)
   replace hx397_0 := cm HB.out hx397_0
   replace hx397_1 := cm HB.out hx397_1
   replace hx397_2 := cm HB.out hx397_2
   replace hx397_3 := cm HB.out hx397_3
   replace p397 := eq_true p397
   replace q397 := eq_true q397
   go_upto_if 36 with (fail)
   have H := H9.out
   clear H9
   by_cases c7 : ((rd_T54 l0 x5_1).f2) = (wrap64 ((wrap64 (x1_1 + 1)) + 1))
   rotate_left
   · rw [if_neg c7] at H
     have c7b0 : (((rd_T54 l0 x5_1).f2) == (wrap64 ((wrap64 (x1_1 + 1)) + 1))) = false := beq_eq_false_iff_ne.mpr c7
     have c7b1 : (((rd_T54 l0 x5_1).f2) != (wrap64 ((wrap64 (x1_1 + 1)) + 1))) = true := bne_iff_ne.mpr c7
     (first | rw [c7b0] | (simp only [i64_w, i32_w]; rw [c7b0]) | skip)
     obtain rfl := sj H
     go_wp2
     go_ret
     exact ⟨er, q1⟩
   rw [if_pos c7] at H
   have c7b0 : (((rd_T54 l0 x5_1).f2) == (wrap64 ((wrap64 (x1_1 + 1)) + 1))) = true := beq_iff_eq.mpr c7
   have c7b1 : (((rd_T54 l0 x5_1).f2) != (wrap64 ((wrap64 (x1_1 + 1)) + 1))) = false := bne_eq_false_iff_eq.mpr c7
   clear c7
   (first | rw [c7b0] | (simp only [i64_w, i32_w]; rw [c7b0]) | skip)
   replace H := Option.bind_eq_some_iff.mp H
   obtain ⟨t399, A80, H⟩ := H
   have A8 := am A80
   clear A80
   have H9 := am H
   clear H
   try go_wp2
   replace HB := am (below_drew1 HB.out)
   have p398 : 0 ≤ (x5_1 : Int) := of_decide_eq_true q0
   have q398 : x5_1 < (l0.length : Int) := of_decide_eq_true q0
   obtain ⟨ad398, e398, hx398_0, hx398_1, hx398_2, hx398_3⟩ := at_T54 HR0.out x5_1 p398 q398
   have hw398_3 := hx398_3
   have hw398_2 := hx398_2
   have hw398_1 := hx398_1
   have hw398_0 := hx398_0
   obtain rfl : ad395 = ad398 := (by injection e398)
   replace hx398_0 := cm HB.out hx398_0
   replace hx398_1 := cm HB.out hx398_1
   replace hx398_2 := cm HB.out hx398_2
   replace hx398_3 := cm HB.out hx398_3
   replace p398 := eq_true p398
   replace q398 := eq_true q398
   refine start_ (n := 8) (S := fun w' => w'.cell? (ad395.add ((x5_1).toNat * 4)) = some (.int .i64 ((rd_T54 l0 x5_1).f0)) ∧ w'.cell? ⟨(ad395.add ((x5_1).toNat * 4)).block, (ad395.add ((x5_1).toNat * 4)).off + 1, none⟩ = some (.int .i64 ((rd_T54 l0 x5_1).f1)) ∧ w'.cell? ⟨(ad395.add ((x5_1).toNat * 4)).block, (ad395.add ((x5_1).toNat * 4)).off + 2, none⟩ = some (.int .i64 ((rd_T54 l0 x5_1).f2)) ∧ w'.cell? ⟨(ad395.add ((x5_1).toNat * 4)).block, (ad395.add ((x5_1).toNat * 4)).off + 3, none⟩ = some (.string ((rd_T54 l0 x5_1).f3))) (ds := []) #[false, false, false, false, false, false, false, false] kr rfl rfl ⟨(cm HB.out hw398_0), (cm HB.out hw398_1), (cm HB.out hw398_2), (cm HB.out hw398_3)⟩ (fun hHeld => ?_); refine with_tabW laws_heldSessionS.tab13 laws_heldSessionS.bits13 (fun HT_ HW_ => ?_)
   generalize wr.drew = w9 at HB hx398_0 hx398_1 hx398_2 hx398_3 hHeld ⊢
   refine pV 0 39 (bt 1 8) ?_
   refine pV 1 40 (bt 2 8) ?_
   refine pV 2 41 (bt 3 8) ?_
   refine pV 3 42 (bt 4 8) ?_
   refine pV 5 44 #[true, true, true, true, false, true, false, false] ?_
   refine tV 4 43 (bt 6 8) ?_
   refine one_ (i := 6) (N := some 45) #[true, true, true, true, true, true, true, false] rfl rfl (one_of HT_.out kr) (by decide) (fun K hK => ?_)
   refine goes_ Tryd.func42 kr rfl #[.int .i64 (wrap64 ((wrap64 ((wrap64 (x1_1 + 1)) + 1)) + 1))] (by rfl) rfl rfl q3 ?_
   with_reducible refine (laws_markText.calls k1 (wrap64 ((wrap64 ((wrap64 (x1_1 + 1)) + 1)) + 1)) t399 _ A8.out).mono ?_
   rintro e w10 ⟨rfl, hb⟩
   refine ⟨_, rfl, ?_⟩
   replace HB := am (below_step q1 hb)
   (try clear hb)
   (try clear hb2)
   (try clear hk)
   (try clear hi)
   refine hK.out _ _ ⟨(cm HB.out hw398_0), (cm HB.out hw398_1), (cm HB.out hw398_2), (cm HB.out hw398_3)⟩ (fun hHeld => ?_)
   clear hK K
   refine norm_ (a' := ?_) ?_ ?_
   rotate_left
   · show Act.put _ (some 45) _ = _
     simp only [Act.put, la, lb, lc, i64_w, i32_w]
     rfl
   refine pV 7 46 (bt 8 8) ?_
   refine done_ (done_of HT_.out kr) ?_
   go_upto_if 46 with (fail)
   have H := H9.out
   clear H9
   by_cases c11 : ((rd_T54 l0 x5_1).f3).toList = t399.toList
   rotate_left
   · rw [if_neg c11] at H
     have c11b0 : (((rd_T54 l0 x5_1).f3).toList == t399.toList) = false := beq_eq_false_iff_ne.mpr c11
     have c11b1 : (((rd_T54 l0 x5_1).f3).toList != t399.toList) = true := bne_iff_ne.mpr c11
     (first | rw [c11b0] | (simp only [i64_w, i32_w]; rw [c11b0]) | skip)
     obtain rfl := sj H
     go_wp2
     go_ret
     exact ⟨er, q1⟩
   rw [if_pos c11] at H
   have c11b0 : (((rd_T54 l0 x5_1).f3).toList == t399.toList) = true := beq_iff_eq.mpr c11
   have c11b1 : (((rd_T54 l0 x5_1).f3).toList != t399.toList) = false := bne_eq_false_iff_eq.mpr c11
   clear c11
   (first | rw [c11b0] | (simp only [i64_w, i32_w]; rw [c11b0]) | skip)
   have H' := am H
   clear H
   go_wp2
   go_roundg k1
   case measure => have := HK1.out; omega
   case rel => exact ⟨(wrap64 ((wrap64 ((wrap64 ((wrap64 (x1_1 + 1)) + 1)) + 1)) + 1)), (wrap64 (x5_1 + 1)), q2, q2, H', ⟨by have := HK1.out; omega⟩, ⟨q1⟩⟩

/-! ### laws_heldSessions: function 18 -/
def laws_heldSessions.f (k : Nat) (a0_0 : Int) (a0_1 : Int) (l0_2 : List (S54)) (a1 : Int) : Option (Int) := (laws_heldSessionS.f k l0_2 a1).bind fun t401 => (if t401 < 0 then (some (-1)) else (some t401))
theorem laws_heldSessions.mono : ∀ a0 a1 a2 a3 k, LeO (laws_heldSessions.f k a0 a1 a2 a3) (laws_heldSessions.f (k + 1) a0 a1 a2 a3) := by
 intro a0 a1 a2 a3 k
 unfold laws_heldSessions.f
 repeat' first
     | (with_reducible exact laws_heldSessionS.mono _ _ _)
     | (with_reducible exact LeO.refl _)
     | (with_reducible exact LeO.none _)
     | (with_reducible refine LeO.ite ?_ ?_)
     | (with_reducible refine LeO.bind ?_ (fun _ => ?_))
     | exact laws_heldSessionS.mono _ _ _
     | exact LeO.none _
     | refine LeO.ite ?_ ?_
     | refine LeO.bind ?_ (fun _ => ?_)
set_option maxHeartbeats 8000000 in
set_option maxRecDepth 100000 in
theorem laws_heldSessions.calls (k : Nat) (a0_0 : Int) (a0_1 : Int) (A0_2 : Option Addr) (c0_2 : Nat) (l0_2 : List (S54)) (a1 : Int) (r : Int) (w : World) (hr0_2 : Kd.C k54 w A0_2 l0_2.length l0_2) (hc0_2 : l0_2.length ≤ c0_2) (h : laws_heldSessions.f k a0_0 a0_1 l0_2 a1 = some r) :
   Calls Tryd.prog 18 #[.agg #[.int .i64 a0_0, .int .i64 a0_1, .slice A0_2 l0_2.length c0_2], .int .i64 a1] w fun e w' => e = .returned (.int .i64 r) ∧ Below w.heap.size w w' := by
 have hu30 := Tryd.underlying30
 have HR0_2 := am hr0_2
 have HC0_2 := am hc0_2
 clear hr0_2 hc0_2
 have HB := am (Below.refl w.heap.size w)
 have H : ((laws_heldSessionS.f k l0_2 a1).bind fun t401 => (if t401 < 0 then (some (-1)) else (some t401))) = some r := h
 clear h
 replace H := Option.bind_eq_some_iff.mp H
 obtain ⟨t401, A30, H⟩ := H
 replace H : (if t401 < 0 then (some (-1)) else (some t401)) = some r := H
 have A3 := am A30
 clear A30
 have H9 := am H
 clear H
 go_enter Tryd.func18, Tryd.ntmps18
 go_upto_if 10 with (first | ((with_reducible refine gate_dst (N := 2) rfl ?_); refine box_event ?hg (N := 2) ?hd (cs := #[.int .i64 a0_0, .int .i64 a0_1, .slice A0_2 l0_2.length c0_2]) (t := 30) ?hr ?_; (case hd => rfl); (case hg => rfl); (case hr => first | (go_simp; done) | (go_simp; rfl)); intro gb400 hg w4 hbox hb; have BK400 := am (hbox); have GW400 := am ((by rw [hg]; exact (below_size q1) : w.heap.size ≤ gb400)); have GE400 := am ((by rw [hg]; exact (below_size q1) : w.heap.size ≤ gb400)); replace HB := am (below_step q1 hb); clear hb hbox hg; obtain ⟨hcz5_0, hcz5_1, hcz5_2⟩ := bc3 w4 BK400.out) | ((with_reducible refine gate_callee (f := 43) rfl ?_); refine goesL_ (some 8) rfl rfl Tryd.func43 kr rfl #[.slice A0_2 l0_2.length c0_2, .int .i64 a1] rfl q3 ?_; (with_reducible refine (laws_heldSessionS.calls k _ _ l0_2 a1 t401 _ ?side1 ?side2 A3.out).mono ?_); (case side1 => exact (by repeat (first | exact (Kd.C_below HR0_2.out HB.out) | (with_reducible refine Kd.C_alloc ?_ _) | (with_reducible refine Kd.C_drewN ?_ _) | (with_reducible refine Kd.C_drew ?_)))); (case side2 => exact HC0_2.out); rintro e w6 ⟨rfl, hb⟩; refine ⟨_, rfl, ?_⟩; replace BK400 := am (blk_below (g := gb400) (o := .cells #[.int .i64 a0_0, .int .i64 a0_1, .slice A0_2 l0_2.length c0_2] 30 (0, 0)) (by (with_reducible repeat (first | refine blk_drewN ?_ _ | refine blk_drew ?_ | refine blk_alloc ?_ _)); exact BK400.out) hb); replace HB := am (below_step q1 hb); (try clear hb); (try clear hb2); (try clear hk); (try clear hi)))
 have H := H9.out
 clear H9
 by_cases c7 : t401 < 0
 · rw [if_pos c7] at H
   have c7b0 : decide (t401 < 0) = true := decide_eq_true c7
   clear c7
   (first | rw [c7b0] | (simp only [i64_w, i32_w]; rw [c7b0]) | skip)
   obtain rfl := sj H
   go_wp2
   go_ret
   exact ⟨er, q1⟩
 rw [if_neg c7] at H
 have c7b0 : decide (t401 < 0) = false := decide_eq_false c7
 clear c7
 (first | rw [c7b0] | (simp only [i64_w, i32_w]; rw [c7b0]) | skip)
 obtain rfl := sj H
 go_wp2
 go_ret
 exact ⟨er, q1⟩

/-! ### laws_heldStringS: function 19 -/
def laws_heldStringS.l0 : Nat → List ByteArray → Int → Int → Option (Int)
 | 0, _, _, _ => none
 | k + 1, x0, x1, x5 => if x5 < (x0.length : Int) then (if 0 ≤ x5 then ((laws_markText.f k x1).bind fun t403 => (if (rdOf ByteArray.empty x0 x5).toList = t403.toList then (laws_heldStringS.l0 k x0 (wrap64 (x1 + 1)) (wrap64 (x5 + 1))) else (some (-1)))) else (none)) else (some x1)
def laws_heldStringS.f (k : Nat) (l0 : List ByteArray) (a1 : Int) : Option (Int) := laws_heldStringS.l0 k l0 a1 0
theorem laws_heldStringS.mono_l : ∀ k, (∀ y0 y1 y2, LeO (laws_heldStringS.l0 k y0 y1 y2) (laws_heldStringS.l0 (k + 1) y0 y1 y2))
 | 0 => fun _ _ _ r h => by simp [laws_heldStringS.l0] at h
 | k + 1 => by
   have ih0 := laws_heldStringS.mono_l k
   · intro y0 y1 y2
     unfold laws_heldStringS.l0
     repeat' first
     | (with_reducible exact ih0 _ _ _)
     | (with_reducible exact laws_markText.mono _ _)
     | (with_reducible exact LeO.refl _)
     | (with_reducible exact LeO.none _)
     | (with_reducible refine LeO.ite ?_ ?_)
     | (with_reducible refine LeO.bind ?_ (fun _ => ?_))
     | exact ih0 _ _ _
     | exact laws_markText.mono _ _
     | exact LeO.none _
     | refine LeO.ite ?_ ?_
     | refine LeO.bind ?_ (fun _ => ?_)
theorem laws_heldStringS.mono : ∀ a0 a1 k, LeO (laws_heldStringS.f k a0 a1) (laws_heldStringS.f (k + 1) a0 a1) := by
 intro a0 a1 k
 have ih0 := laws_heldStringS.mono_l k
 unfold laws_heldStringS.f
 repeat' first
     | (with_reducible exact ih0 _ _ _)
     | (with_reducible exact laws_markText.mono _ _)
     | (with_reducible exact LeO.refl _)
     | (with_reducible exact LeO.none _)
     | (with_reducible refine LeO.ite ?_ ?_)
     | (with_reducible refine LeO.bind ?_ (fun _ => ?_))
     | exact ih0 _ _ _
     | exact laws_markText.mono _ _
     | exact LeO.none _
     | refine LeO.ite ?_ ?_
     | refine LeO.bind ?_ (fun _ => ?_)
set_option maxHeartbeats 8000000 in
set_option maxRecDepth 100000 in
theorem laws_heldStringS.calls (k : Nat) (A0 : Option Addr) (c0 : Nat) (l0 : List ByteArray) (a1 : Int) (r : Int) (w : World) (hr0 : Kd.C Kd.string w A0 l0.length l0) (hc0 : l0.length ≤ c0) (h : laws_heldStringS.f k l0 a1 = some r) :
   Calls Tryd.prog 19 #[.slice A0 l0.length c0, .int .i64 a1] w fun e w' => e = .returned (.int .i64 r) ∧ Below w.heap.size w w' := by
 have HR0 := am hr0
 have HC0 := am hc0
 clear hr0 hc0
 have HB := am (Below.refl w.heap.size w)
 have H : (laws_heldStringS.l0 k l0 a1 0) = some r := h
 clear h
 have H' := am H
 clear H
 go_enter Tryd.func19, Tryd.ntmps19
 go_wp2
 go_loopg [1, 5] k (fun kq v1 v5 w' => ∃ (x1_1 : Int) (x5_1 : Int), v1 = .int .i64 x1_1 ∧ v5 = .int .i64 x5_1 ∧ Aside0 (laws_heldStringS.l0 kq l0 x1_1 x5_1 = some r) ∧ Aside0 (kq ≤ k) ∧ Aside0 (Below w.heap.size w w'))
 case atStart => exact ⟨(a1), (0), q2, q2, H', ⟨Nat.le_refl _⟩, ⟨q1⟩⟩
 clear H'
 obtain ⟨x1_1, x5_1, rfl, rfl, HA, HK1, HB⟩ := hrel
 cases gk with
 | zero => exact absurd HA.out (by simp [laws_heldStringS.l0])
 | succ k1 =>
   have H := HA.out
   clear HA
   simp only [laws_heldStringS.l0] at H
   by_cases c3 : x5_1 < (l0.length : Int)
   rotate_left
   · rw [if_neg c3] at H
     have c3b0 : decide (x5_1 < (l0.length : Int)) = false := decide_eq_false c3
     clear c3
     obtain rfl := sj H
     go_wp2
     go_ret
     exact ⟨er, q1⟩
   rw [if_pos c3] at H
   have c3b0 : decide (x5_1 < (l0.length : Int)) = true := decide_eq_true c3
   clear c3
   by_cases c4 : 0 ≤ x5_1
   rotate_left
   · rw [if_neg c4] at H
     exact absurd H (by simp)
   rw [if_pos c4] at H
   have c4b0 : decide (0 ≤ x5_1) = true := decide_eq_true c4
   clear c4
   replace H := Option.bind_eq_some_iff.mp H
   obtain ⟨t403, A50, H⟩ := H
   have A5 := am A50
   clear A50
   have H9 := am H
   clear H
   try go_wp2
   replace HB := am (below_drew1 HB.out)
   have p402 : 0 ≤ (x5_1 : Int) := of_decide_eq_true q0
   have q402 : x5_1 < (l0.length : Int) := of_decide_eq_true q0
   obtain ⟨ad402, e402, hx402_0⟩ := Kd.at_string HR0.out x5_1 p402 q402
   have hw402_0 := hx402_0
   cases e402
   replace hx402_0 := cm HB.out hx402_0
   replace p402 := eq_true p402
   replace q402 := eq_true q402
   refine start_ (n := 7) (S := fun w' => w'.cell? (ad402.add (x5_1).toNat) = some (.string (rdOf ByteArray.empty l0 x5_1))) (ds := []) #[false, false, false, false, false, false, false] kr rfl rfl ((cm HB.out hw402_0)) (fun hHeld => ?_)
   generalize wr.drew = w6 at HB hx402_0 hHeld ⊢
   refine pure_ (i := 0) (N := some 12) (v := ?_) (a' := ?_) #[true, false, false, false, false, false, false] rfl rfl kr (fun _ _ _ h => h) (Or.inl ⟨by rfl, ?_⟩) ?_ ?_
   rotate_left; (intro w'; go_simp; with_reducible rfl); rotate_left; (simp only [Act.put, la, lb, lc, i64_w, i32_w]; rfl)
   refine pure_ (i := 1) (N := some 13) (v := ?_) (a' := ?_) #[true, true, false, false, false, false, false] rfl rfl kr (fun _ _ _ h => h) (Or.inl ⟨by rfl, ?_⟩) ?_ ?_
   rotate_left; (intro w'; go_simp; with_reducible rfl); rotate_left; (simp only [Act.put, la, lb, lc, i64_w, i32_w]; rfl)
   refine pure_ (i := 2) (N := some 14) (v := ?_) (a' := ?_) #[true, true, true, false, false, false, false] rfl rfl kr (fun _ _ _ h => h) (Or.inl ⟨by rfl, ?_⟩) ?_ ?_
   rotate_left; (intro w'; go_simp; with_reducible rfl); rotate_left; (simp only [Act.put, la, lb, lc, i64_w, i32_w]; rfl)
   refine pure_ (i := 4) (N := some 16) (v := ?_) (a' := ?_) #[true, true, true, false, true, false, false] rfl rfl kr (fun _ _ _ h => h) (Or.inl ⟨by rfl, ?_⟩) ?_ ?_
   rotate_left; (intro w'; go_simp; with_reducible rfl); rotate_left; (simp only [Act.put, la, lb, lc, i64_w, i32_w]; rfl)
   refine take_ (i := 3) (N := some 15) (v := ?_) (a' := ?_) #[true, true, true, true, true, false, false] rfl rfl kr (fun _ _ _ h => h) (Or.inl ⟨by rfl, ?_⟩) hHeld ?_ ?_
   rotate_left
   · intro w' s0
     go_simp
     with_reducible rfl
   rotate_left
   · simp only [Act.put, la, lb, lc, i64_w, i32_w]
     rfl
   refine one_ (i := 5) (N := some 17) #[true, true, true, true, true, true, false] rfl rfl kr (by decide) (fun K hK => ?_)
   refine goes_ Tryd.func42 kr rfl #[.int .i64 x1_1] (by rfl) rfl rfl q3 ?_
   with_reducible refine (laws_markText.calls k1 x1_1 t403 _ A5.out).mono ?_
   rintro e w7 ⟨rfl, hb⟩
   refine ⟨_, rfl, ?_⟩
   replace HB := am (below_step q1 hb)
   (try clear hb)
   (try clear hb2)
   (try clear hk)
   (try clear hi)
   refine hK.out _ _ ((cm HB.out hw402_0)) (fun hHeld => ?_)
   clear hK K
   refine norm_ (a' := ?_) ?_ ?_
   rotate_left
   · show Act.put _ (some 17) _ = _
     simp only [Act.put, la, lb, lc, i64_w, i32_w]
     rfl
   refine pure_ (i := 6) (N := some 18) (v := ?_) (a' := ?_) #[true, true, true, true, true, true, true] rfl rfl kr (fun _ _ _ h => h) (Or.inl ⟨by rfl, ?_⟩) ?_ ?_
   rotate_left; (intro w'; go_simp; with_reducible rfl); rotate_left; (simp only [Act.put, la, lb, lc, i64_w, i32_w]; rfl)
   refine done_ kr ?_
   go_upto_if 18 with (fail)
   have H := H9.out
   clear H9
   by_cases c8 : (rdOf ByteArray.empty l0 x5_1).toList = t403.toList
   rotate_left
   · rw [if_neg c8] at H
     have c8b0 : ((rdOf ByteArray.empty l0 x5_1).toList == t403.toList) = false := beq_eq_false_iff_ne.mpr c8
     have c8b1 : ((rdOf ByteArray.empty l0 x5_1).toList != t403.toList) = true := bne_iff_ne.mpr c8
     (first | rw [c8b0] | (simp only [i64_w, i32_w]; rw [c8b0]) | skip)
     obtain rfl := sj H
     go_wp2
     go_ret
     exact ⟨er, q1⟩
   rw [if_pos c8] at H
   have c8b0 : ((rdOf ByteArray.empty l0 x5_1).toList == t403.toList) = true := beq_iff_eq.mpr c8
   have c8b1 : ((rdOf ByteArray.empty l0 x5_1).toList != t403.toList) = false := bne_eq_false_iff_eq.mpr c8
   clear c8
   (first | rw [c8b0] | (simp only [i64_w, i32_w]; rw [c8b0]) | skip)
   have H' := am H
   clear H
   go_wp2
   go_roundg k1
   case measure => have := HK1.out; omega
   case rel => exact ⟨(wrap64 (x1_1 + 1)), (wrap64 (x5_1 + 1)), q2, q2, H', ⟨by have := HK1.out; omega⟩, ⟨q1⟩⟩

end Go.Proofs.YtjdpifafijcpbaaDoor.QFnExactOnceEach
