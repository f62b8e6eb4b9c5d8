-- Printed by the session's own program wip/prx.py.
import Derived.Test.YtjdpifafijcpbaaDoorSqFnOnce
import Derived.Test.YtjdpifafijcpbaaDoorQFnOncex0
import Derived.Test.YtjdpifafijcpbaaDoorQFnOncex1
namespace Go.Proofs.YtjdpifafijcpbaaDoor.QFnOnce
open Go.RowKit Go.Proofs.YtjdpifafijcpbaaDoorW.PrintWords Go.Proofs.YtjdpifafijcpbaaDoorW.PrintLast Go.Proofs.YtjdpifafijcpbaaDoorW.PrintMore Go.Proofs.YtjdpifafijcpbaaDoor.SqFnOnce
attribute [local go_sem] max2_int min2_int max_two min_two max_three min_three max_four min_four Go.Proofs.YtjdpifafijcpbaaDoor.Set.isSome_setCell
set_option linter.unusedVariables false
set_option linter.unusedSimpArgs false

-- squeezed
theorem u2_2 {P : Prop} (h : P := by (with_reducible repeat (first | refine blk_drewN ?_ _ | refine blk_drew ?_ | refine blk_alloc ?_ _)); exact BK101.out) : P := h
theorem u2_4 {P : Prop} (h : P := by (with_reducible repeat (first | refine blk_drewN ?_ _ | refine blk_drew ?_ | refine blk_alloc ?_ _)); exact BK105.out) : P := h
theorem u2_9 {P : Prop} (h : P := by have := HJ1.out; have := HK2.out; have := HJ13.out; have := HK4.out; omega) : P := h
/-! ### spec_SessionsOk: function 27 -/
mutual
def spec_SessionsOk.j0 : Nat → Bool → Int → Int → List (S54) → Option (Bool)
 | 0, _, _, _, _ => none
 | k + 1, x23, x102000, x102001, x102002 => if x23 = true then (some false) else (spec_SessionsOk.l0 k 0 x102000 x102001 x102002)
def spec_SessionsOk.l0 : Nat → Int → Int → Int → List (S54) → Option (Bool)
 | 0, _, _, _, _ => none
 | k + 1, x3, x102000, x102001, x102002 => if x3 < (x102002.length : Int) then (if 0 ≤ x3 then ((spec_l01In.f ((rd_T54 x102002 x3).f0) 1 999).bind fun t106 => (if t106 = true then ((spec_l01In.f ((rd_T54 x102002 x3).f1) 1 1000000).bind fun t107 => (if t107 = true then ((spec_l01In.f ((rd_T54 x102002 x3).f2) 1 x102001).bind fun t108 => (if t108 = true then (if (((rd_T54 x102002 x3).f3).size : Int) > 40 then (spec_SessionsOk.j2 k x3 true x102000 x102001 x102002 ((rd_T54 x102002 x3).f0) ((rd_T54 x102002 x3).f1) ((rd_T54 x102002 x3).f2) ((rd_T54 x102002 x3).f3)) else (if x3 > 0 then (if 0 ≤ (wrap64 (x3 - 1)) then (if (wrap64 (x3 - 1)) < (x102002.length : Int) then (spec_SessionsOk.j2 k x3 (decide (((rd_T54 x102002 (wrap64 (x3 - 1))).f0) ≥ ((rd_T54 x102002 x3).f0))) x102000 x102001 x102002 ((rd_T54 x102002 x3).f0) ((rd_T54 x102002 x3).f1) ((rd_T54 x102002 x3).f2) ((rd_T54 x102002 x3).f3)) else (none)) else (none)) else (spec_SessionsOk.j2 k x3 false x102000 x102001 x102002 ((rd_T54 x102002 x3).f0) ((rd_T54 x102002 x3).f1) ((rd_T54 x102002 x3).f2) ((rd_T54 x102002 x3).f3)))) else (spec_SessionsOk.j2 k x3 true x102000 x102001 x102002 ((rd_T54 x102002 x3).f0) ((rd_T54 x102002 x3).f1) ((rd_T54 x102002 x3).f2) ((rd_T54 x102002 x3).f3)))) else (spec_SessionsOk.j2 k x3 true x102000 x102001 x102002 ((rd_T54 x102002 x3).f0) ((rd_T54 x102002 x3).f1) ((rd_T54 x102002 x3).f2) ((rd_T54 x102002 x3).f3)))) else (spec_SessionsOk.j2 k x3 true x102000 x102001 x102002 ((rd_T54 x102002 x3).f0) ((rd_T54 x102002 x3).f1) ((rd_T54 x102002 x3).f2) ((rd_T54 x102002 x3).f3)))) else (none)) else (some true)
def spec_SessionsOk.j2 : Nat → Int → Bool → Int → Int → List (S54) → Int → Int → Int → ByteArray → Option (Bool)
 | 0, _, _, _, _, _, _, _, _, _ => none
 | k + 1, x3, x75, x102000, x102001, x102002, x106000, x106001, x106002, x106003 => if x75 = true then (some false) else (spec_SessionsOk.l1 k x3 0 x102000 x102001 x102002 x106000 x106001 x106002 x106003)
def spec_SessionsOk.l1 : Nat → Int → Int → Int → Int → List (S54) → Int → Int → Int → ByteArray → Option (Bool)
 | 0, _, _, _, _, _, _, _, _, _ => none
 | k + 1, x3, x5, x102000, x102001, x102002, x106000, x106001, x106002, x106003 => if x5 < x3 then (if 0 ≤ x5 then (if x5 < (x102002.length : Int) then (if ((rd_T54 x102002 x5).f2) = x106002 then (some false) else (spec_SessionsOk.l1 k x3 (wrap64 (x5 + 1)) x102000 x102001 x102002 x106000 x106001 x106002 x106003)) else (none)) else (none)) else (spec_SessionsOk.l0 k (wrap64 (x3 + 1)) x102000 x102001 x102002)
end
def spec_SessionsOk.f (k : Nat) (a0_0 : Int) (a0_1 : Int) (l0_2 : List (S54)) : Option (Bool) := (spec_l01In.f a0_0 1 12).bind fun t102 => (if t102 = true then ((spec_l01In.f a0_1 0 1000000).bind fun t103 => (if t103 = true then (spec_SessionsOk.j0 k (decide ((l0_2.length : Int) > a0_0)) a0_0 a0_1 l0_2) else (spec_SessionsOk.j0 k true a0_0 a0_1 l0_2))) else (spec_SessionsOk.j0 k true a0_0 a0_1 l0_2))
theorem spec_SessionsOk.mono_l : ∀ k, (∀ y0 y1 y2 y3, LeO (spec_SessionsOk.j0 k y0 y1 y2 y3) (spec_SessionsOk.j0 (k + 1) y0 y1 y2 y3)) ∧ (∀ y0 y1 y2 y3, LeO (spec_SessionsOk.l0 k y0 y1 y2 y3) (spec_SessionsOk.l0 (k + 1) y0 y1 y2 y3)) ∧ (∀ y0 y1 y2 y3 y4 y5 y6 y7 y8, LeO (spec_SessionsOk.j2 k y0 y1 y2 y3 y4 y5 y6 y7 y8) (spec_SessionsOk.j2 (k + 1) y0 y1 y2 y3 y4 y5 y6 y7 y8)) ∧ (∀ y0 y1 y2 y3 y4 y5 y6 y7 y8, LeO (spec_SessionsOk.l1 k y0 y1 y2 y3 y4 y5 y6 y7 y8) (spec_SessionsOk.l1 (k + 1) y0 y1 y2 y3 y4 y5 y6 y7 y8))
 | 0 => ⟨fun _ _ _ _ r h => by simp [spec_SessionsOk.j0] at h, fun _ _ _ _ r h => by simp [spec_SessionsOk.l0] at h, fun _ _ _ _ _ _ _ _ _ r h => by simp [spec_SessionsOk.j2] at h, fun _ _ _ _ _ _ _ _ _ r h => by simp [spec_SessionsOk.l1] at h⟩
 | k + 1 => by
   obtain ⟨ih0, ih1, ih2, ih3⟩ := spec_SessionsOk.mono_l k
   refine ⟨?_, ?_, ?_, ?_⟩ <;> intros <;> (first | unfold spec_SessionsOk.j0 | unfold spec_SessionsOk.l0 | unfold spec_SessionsOk.j2 | unfold spec_SessionsOk.l1) <;> repeat' first
   | (with_reducible exact ih0 _ _ _ _)
   | (with_reducible exact ih1 _ _ _ _)
   | (with_reducible exact ih2 _ _ _ _ _ _ _ _ _)
   | (with_reducible exact ih3 _ _ _ _ _ _ _ _ _)
   | (with_reducible exact LeO.refl _)
   | (with_reducible exact LeO.none _)
   | (with_reducible refine LeO.ite ?_ ?_)
   | (with_reducible refine LeO.bind ?_ (fun _ => ?_))
   | exact ih0 _ _ _ _
   | exact ih1 _ _ _ _
   | exact ih2 _ _ _ _ _ _ _ _ _
   | exact ih3 _ _ _ _ _ _ _ _ _
   | exact LeO.none _
   | refine LeO.ite ?_ ?_
   | refine LeO.bind ?_ (fun _ => ?_)
theorem spec_SessionsOk.mono : ∀ a0 a1 a2 k, LeO (spec_SessionsOk.f k a0 a1 a2) (spec_SessionsOk.f (k + 1) a0 a1 a2) := by
 intro a0 a1 a2 k
 obtain ⟨ih0, ih1, ih2, ih3⟩ := spec_SessionsOk.mono_l k
 unfold spec_SessionsOk.f
 repeat' first
     | (with_reducible exact ih0 _ _ _ _)
     | (with_reducible exact ih1 _ _ _ _)
     | (with_reducible exact ih2 _ _ _ _ _ _ _ _ _)
     | (with_reducible exact ih3 _ _ _ _ _ _ _ _ _)
     | (with_reducible exact LeO.refl _)
     | (with_reducible exact LeO.none _)
     | (with_reducible refine LeO.ite ?_ ?_)
     | (with_reducible refine LeO.bind ?_ (fun _ => ?_))
     | exact ih0 _ _ _ _
     | exact ih1 _ _ _ _
     | exact ih2 _ _ _ _ _ _ _ _ _
     | exact ih3 _ _ _ _ _ _ _ _ _
     | exact LeO.none _
     | refine LeO.ite ?_ ?_
     | refine LeO.bind ?_ (fun _ => ?_)
def spec_SessionsOk.T7 : Bool × List (List Nat × List Nat) := (true, [([], []), ([0], [0]), ([1], [1]), ([2], [2]), ([3, 2], [3]), ([4], [4]), ([5, 4], [4, 5]), ([6, 4, 4], [4, 6]), ([7, 4], [4, 7]), ([4, 8], [4, 8]), ([9, 7], [9]), ([10], [10]), ([11, 10], [10, 11]), ([10], [10]), ([13, 10], [10, 13]), ([12, 14, 10, 10], [10, 12, 14]), ([15, 10], [10, 15]), ([10, 16], [10, 16]), ([17, 15], [17]), ([18], [18]), ([19, 18], [18, 19]), ([20, 18], [18, 20]), ([21, 18], [18, 21]), ([18, 22], [18, 22]), ([23, 18], [23]), ([24], [24]), ([25, 24], [24, 25]), ([26, 24, 24], [24, 26]), ([27], [27]), ([28, 27], [27, 28]), ([27], [27]), ([30, 27], [27, 30]), ([29, 31, 27], [27, 29, 31]), ([32, 27], [27, 32]), ([33, 27], [27, 33]), ([27], [27]), ([35, 27], [27, 35]), ([34, 36, 27], [27, 34, 36]), ([27, 37, 24], [24, 27, 37]), ([24, 38], [24, 38])])
def spec_SessionsOk.B7 : List Nat := [0, 1, 3, 7, 15, 31, 63, 127, 255, 511, 1023, 2047, 4095, 2047, 10239, 32767, 65535, 131071, 262143, 524287, 1048575, 2097151, 4194303, 8388607, 16777215, 33554431, 67108863, 134217727, 268435455, 536870911, 268435455, 1342177279, 4294967295, 8589934591, 17179869183, 268435455, 34628173823, 137438953471, 274877906943, 549755813887]
theorem spec_SessionsOk.tab7 : rtab .any (opsOf Tryd.f27 7) = spec_SessionsOk.T7 := by kernel_rfl
theorem spec_SessionsOk.bits7 : waitsOk spec_SessionsOk.T7.2 spec_SessionsOk.B7 = true := by kernel_rfl
def spec_SessionsOk.T12 : Bool × List (List Nat × List Nat) := (true, [([], []), ([0], [0]), ([], []), ([1, 2], [1, 2]), ([3], [3]), ([4], [4]), ([], []), ([6], [6]), ([5, 7], [5, 7])])
def spec_SessionsOk.B12 : List Nat := [0, 1, 0, 7, 15, 31, 0, 64, 255]
theorem spec_SessionsOk.tab12 : rtab .any (opsOf Tryd.f27 12) = spec_SessionsOk.T12 := by kernel_rfl
theorem spec_SessionsOk.bits12 : waitsOk spec_SessionsOk.T12.2 spec_SessionsOk.B12 = true := by kernel_rfl
set_option maxHeartbeats 8000000 in
set_option maxRecDepth 100000 in
theorem spec_SessionsOk.calls (k : Nat) (a0_0 : Int) (a0_1 : Int) (A0_2 : Option Addr) (c0_2 : Nat) (l0_2 : List (S54)) (r : Bool) (w : World) (hr0_2 : Kd.C k54 w A0_2 l0_2.length l0_2) (hc0_2 : l0_2.length ≤ c0_2) (h : spec_SessionsOk.f k a0_0 a0_1 l0_2 = some r) :
   Calls Tryd.prog 27 #[.agg #[.int .i64 a0_0, .int .i64 a0_1, .slice A0_2 l0_2.length c0_2]] w fun e w' => e = .returned (.bool r) ∧ Below w.heap.size w w' := by
 have hu30 := Tryd.underlying30
 have hu54 := Tryd.underlying54
 have HR0_2 := am hr0_2
 have HC0_2 := am hc0_2
 clear hr0_2 hc0_2
 have HB := am (Below.refl w.heap.size w)
 have H : ((spec_l01In.f a0_0 1 12).bind fun t102 => (if t102 = true then ((spec_l01In.f a0_1 0 1000000).bind fun t103 => (if t103 = true then (spec_SessionsOk.j0 k (decide ((l0_2.length : Int) > a0_0)) a0_0 a0_1 l0_2) else (spec_SessionsOk.j0 k true a0_0 a0_1 l0_2))) else (spec_SessionsOk.j0 k true a0_0 a0_1 l0_2))) = some r := h
 clear h
 have HC2 := am H
 clear H
 go_enter Tryd.func27, Tryd.ntmps27
 go_upto_region 1 with (first | ((with_reducible refine gate_dst (N := 1) rfl ?_); (try (refine gate_guard (by rfl) ?_; dsimp only)); refine box_event ?hg (N := 1) ?hd (cs := #[.int .i64 a0_0, .int .i64 a0_1, .slice A0_2 l0_2.length c0_2]) (t := 30) ?hr ?_; (case hd => rfl); (case hg => rfl); (case hr => first | (go_simp; done) | (go_simp; rfl)); intro gb101 hg w3 hbox hb; have BK101 := am (hbox); have GW101 := am ((by rw [hg]; exact (below_size q0) : w.heap.size ≤ gb101)); have GE101 := am ((by rw [hg]; exact (below_size q0) : w.heap.size ≤ gb101)); replace HB := am (below_step q0 hb); clear hb hbox hg))
 (try simp only [Act.put, la, lb, lc])
 go_cut [23] (fun v23 wc => ∃ (kq : Nat) (x23_1 : Bool), v23 = .bool x23_1 ∧ Aside0 (spec_SessionsOk.j0 kq x23_1 a0_0 a0_1 l0_2 = some r) ∧ Aside0 (kq ≤ k) ∧ Aside0 (wc.heap[gb101]? = some (.cells #[.int .i64 a0_0, .int .i64 a0_1, (.slice A0_2 l0_2.length c0_2)] 30 (0, 0))) ∧ Aside0 (Below w.heap.size w wc))
 case first =>
   have H := HC2.out
   clear HC2
   replace H := Option.bind_eq_some_iff.mp H
   obtain ⟨t102, A40, H⟩ := H
   have A4 := am A40
   clear A40
   by_cases c5 : t102 = true
   rotate_left
   · replace c5 := Bool.eq_false_iff.mpr c5
     subst c5
     rw [nf] at H
     have H' := am H
     clear H
     obtain ⟨hcz10_0, hcz10_1, hcz10_2, hfz10_0, hfz10_1, hfz10_2⟩ := bc3f w3 BK101.out
     go_wp2_with (first | ((with_reducible refine gate_callee (f := 50) rfl ?_); refine goesL_ (some 8) rfl rfl Tryd.func50 kr rfl #[.int .i64 a0_0, .int .i64 1, .int .i64 12] rfl q1 ?_; (with_reducible refine (spec_l01In.calls a0_0 1 12 false _ A4.out).mono ?_); rintro e w' ⟨rfl, ⟨nd, rfl⟩⟩; refine ⟨_, rfl, ?_⟩))
     go_meet
     case rel => exact ⟨_, (true), q4, H', ⟨by first | omega | exact Nat.le_refl _⟩, ⟨u2_2⟩, ⟨q0⟩⟩
   subst c5
   rw [if_pos rfl] at H
   replace H := Option.bind_eq_some_iff.mp H
   obtain ⟨t103, A60, H⟩ := H
   have A6 := am A60
   clear A60
   by_cases c7 : t103 = true
   · subst c7
     rw [if_pos rfl] at H
     have H' := am H
     clear H
     obtain ⟨hcz8_0, hcz8_1, hcz8_2, hfz8_0, hfz8_1, hfz8_2⟩ := bc3f w3 BK101.out
     go_wp2_with (first | ((with_reducible refine gate_callee (f := 50) rfl ?_); refine goesL_ (some 8) rfl rfl Tryd.func50 kr rfl #[.int .i64 a0_0, .int .i64 1, .int .i64 12] rfl q1 ?_; (with_reducible refine (spec_l01In.calls a0_0 1 12 true _ A4.out).mono ?_); rintro e w' ⟨rfl, ⟨nd, rfl⟩⟩; refine ⟨_, rfl, ?_⟩) | (go_at_call 50; (with_reducible refine (spec_l01In.calls a0_1 0 1000000 true _ A6.out).mono ?_); rintro e w' ⟨rfl, ⟨nd, rfl⟩⟩))
     go_meet
     case rel => exact ⟨_, (decide ((l0_2.length : Int) > a0_0)), q4, H', ⟨by first | omega | exact Nat.le_refl _⟩, ⟨u2_2⟩, ⟨q0⟩⟩
   replace c7 := Bool.eq_false_iff.mpr c7
   subst c7
   rw [nf] at H
   have H' := am H
   clear H
   obtain ⟨hcz9_0, hcz9_1, hcz9_2, hfz9_0, hfz9_1, hfz9_2⟩ := bc3f w3 BK101.out
   go_wp2_with (first | ((with_reducible refine gate_callee (f := 50) rfl ?_); refine goesL_ (some 8) rfl rfl Tryd.func50 kr rfl #[.int .i64 a0_0, .int .i64 1, .int .i64 12] rfl q1 ?_; (with_reducible refine (spec_l01In.calls a0_0 1 12 true _ A4.out).mono ?_); rintro e w' ⟨rfl, ⟨nd, rfl⟩⟩; refine ⟨_, rfl, ?_⟩) | (go_at_call 50; (with_reducible refine (spec_l01In.calls a0_1 0 1000000 false _ A6.out).mono ?_); rintro e w' ⟨rfl, ⟨nd, rfl⟩⟩))
   go_meet
   case rel => exact ⟨_, (true), q4, H', ⟨by first | omega | exact Nat.le_refl _⟩, ⟨u2_2⟩, ⟨q0⟩⟩
 clear HC2
 obtain ⟨kq, x23_1, rfl, HA, HJ1, BK101, HB⟩ := hcut
 cases kq with
 | zero => exact absurd HA.out (by simp [spec_SessionsOk.j0])
 | succ kj1 =>
   have H := HA.out
   clear HA
   simp only [spec_SessionsOk.j0] at H
   by_cases c11 : x23_1 = true
   · subst c11
     rw [if_pos rfl] at H
     obtain rfl := sj H
     go_wp2
     go_ret
     exact ⟨er, q0⟩
   replace c11 := Bool.eq_false_iff.mpr c11
   subst c11
   rw [nf] at H
   have H' := am H
   clear H
   go_wp2
   go_loopg [3] kj1 (fun kq v3 w' => ∃ (x3_2 : Int), v3 = .int .i64 x3_2 ∧ Aside0 (spec_SessionsOk.l0 kq x3_2 a0_0 a0_1 l0_2 = some r) ∧ Aside0 (kq ≤ kj1) ∧ Aside0 (w'.heap[gb101]? = some (.cells #[.int .i64 a0_0, .int .i64 a0_1, (.slice A0_2 l0_2.length c0_2)] 30 (0, 0))) ∧ Aside0 (Below w.heap.size w w'))
   case atStart => exact ⟨(0), q4, H', ⟨Nat.le_refl _⟩, ⟨u2_2⟩, ⟨q0⟩⟩
   clear H'
   try clear c11
   obtain ⟨x3_2, rfl, HA, HK2, BK101, HB⟩ := hrel
   cases gk with
   | zero => exact absurd HA.out (by simp [spec_SessionsOk.l0])
   | succ k2 =>
     have H := HA.out
     clear HA
     simp only [spec_SessionsOk.l0] at H
     by_cases c12 : x3_2 < (l0_2.length : Int)
     rotate_left
     · rw [if_neg c12] at H
       have c12b0 : decide (x3_2 < (l0_2.length : Int)) = false := decide_eq_false c12
       clear c12
       obtain rfl := sj H
       obtain ⟨hcz48_0, hcz48_1, hcz48_2, hfz48_0, hfz48_1, hfz48_2⟩ := bc3f wr BK101.out
       go_wp2
       go_ret
       exact ⟨er, q0⟩
     rw [if_pos c12] at H
     have c12b0 : decide (x3_2 < (l0_2.length : Int)) = true := decide_eq_true c12
     clear c12
     by_cases c13 : 0 ≤ x3_2
     rotate_left
     · rw [if_neg c13] at H
       exact absurd H (by simp)
     rw [if_pos c13] at H
     have c13b0 : decide (0 ≤ x3_2) = true := decide_eq_true c13
     clear c13
     have HC14 := am H
     clear H
     obtain ⟨hcz15_0, hcz15_1, hcz15_2, hfz15_0, hfz15_1, hfz15_2⟩ := bc3f wr BK101.out
     have p104 : 0 ≤ (x3_2 : Int) := of_decide_eq_true q3
     have q104 : x3_2 < (l0_2.length : Int) := of_decide_eq_true q3
     obtain ⟨ad104, e104, hx104_0, hx104_1, hx104_2, hx104_3⟩ := at_T54 HR0_2.out x3_2 p104 q104
     cases e104
     replace hx104_0 := cm HB.out hx104_0
     replace hx104_1 := cm HB.out hx104_1
     replace hx104_2 := cm HB.out hx104_2
     replace hx104_3 := cm HB.out hx104_3
     replace p104 := eq_true p104
     replace q104 := eq_true q104
     go_upto_region 7 with (first | ((with_reducible refine gate_dst (N := 4) rfl ?_); (try (refine gate_guard (by rfl) ?_; dsimp only)); refine box_event ?hg (N := 4) ?hd (cs := #[.int .i64 0, .int .i64 0, .int .i64 0, .string (⟨#[]⟩ : ByteArray)]) (t := 54) ?hr ?_; (case hd => rfl); (case hg => rfl); (case hr => first | (go_simp; done) | (go_simp; rfl)); intro gb105 hg w16 hbox hb; have BK105 := am (hbox); have GW105 := am ((by rw [hg]; exact (below_size q0) : w.heap.size ≤ gb105)); have GE105 := am ((by rw [hg]; exact (below_size q0) : w.heap.size ≤ gb105)); replace HB := am (below_step q0 hb); have NB101_105 := am ((by rw [hg]; exact Nat.ne_of_lt (blk_lt (g := gb101) (o := .cells #[.int .i64 a0_0, .int .i64 a0_1, .slice (some ad104) l0_2.length c0_2] 30 (0, 0)) u2_2) : gb101 ≠ gb105)); have NB105_101 := am ((by rw [hg]; exact Nat.ne_of_gt (blk_lt (g := gb101) (o := .cells #[.int .i64 a0_0, .int .i64 a0_1, .slice (some ad104) l0_2.length c0_2] 30 (0, 0)) u2_2) : gb105 ≠ gb101)); replace BK101 := am (blk_below (g := gb101) (o := .cells #[.int .i64 a0_0, .int .i64 a0_1, .slice (some ad104) l0_2.length c0_2] 30 (0, 0)) u2_2 hb); clear hb hbox hg; have hnb17 := NB105_101.out; have hnc17 := NB101_105.out; obtain ⟨hcz18_0, hcz18_1, hcz18_2, hcz18_3, hfz18_0, hfz18_1, hfz18_2, hfz18_3⟩ := bc4f w16 BK105.out))
     (try simp only [Act.put, la, lb, lc])
     go_cut [75] (fun v75 wc => ∃ (kq : Nat) (x75_13 : Bool), v75 = .bool x75_13 ∧ Aside0 (spec_SessionsOk.j2 kq x3_2 x75_13 a0_0 a0_1 l0_2 ((rd_T54 l0_2 x3_2).f0) ((rd_T54 l0_2 x3_2).f1) ((rd_T54 l0_2 x3_2).f2) ((rd_T54 l0_2 x3_2).f3) = some r) ∧ Aside0 (kq ≤ k2) ∧ Aside0 (wc.heap[gb101]? = some (.cells #[.int .i64 a0_0, .int .i64 a0_1, (.slice (some ad104) l0_2.length c0_2)] 30 (0, 0))) ∧ Aside0 (wc.heap[gb105]? = some (.cells #[.int .i64 ((rd_T54 l0_2 x3_2).f0), .int .i64 ((rd_T54 l0_2 x3_2).f1), .int .i64 ((rd_T54 l0_2 x3_2).f2), .string ((rd_T54 l0_2 x3_2).f3)] 54 (0, 0))) ∧ Aside0 (Below w.heap.size w wc))
     case first =>
       have H := HC14.out
       clear HC14
       replace H := Option.bind_eq_some_iff.mp H
       obtain ⟨t106, A190, H⟩ := H
       have A19 := am A190
       clear A190
       by_cases c20 : t106 = true
       rotate_left
       · replace c20 := Bool.eq_false_iff.mpr c20
         subst c20
         rw [nf] at H
         have H' := am H
         clear H
         try go_wp2
         have n0_ : Aside0 (((((w16.setCell ⟨gb105, 0, none⟩ (.int .i64 ((rd_T54 l0_2 x3_2).f0))).setCell ⟨gb105, 1, none⟩ (.int .i64 ((rd_T54 l0_2 x3_2).f1))).setCell ⟨gb105, 2, none⟩ (.int .i64 ((rd_T54 l0_2 x3_2).f2))).setCell ⟨gb105, 3, none⟩ (.string ((rd_T54 l0_2 x3_2).f3))).heap[gb101]? = some (.cells #[.int .i64 a0_0, .int .i64 a0_1, .slice (some ad104) l0_2.length c0_2] 30 (0, 0))) := ⟨by (with_reducible repeat (first | refine blk_drewN ?_ _ | refine blk_drew ?_ | refine blk_alloc ?_ _)); refine blk_far ?_ NB101_105.out _; (with_reducible repeat (first | refine blk_drewN ?_ _ | refine blk_drew ?_ | refine blk_alloc ?_ _)); refine blk_far ?_ NB101_105.out _; (with_reducible repeat (first | refine blk_drewN ?_ _ | refine blk_drew ?_ | refine blk_alloc ?_ _)); refine blk_far ?_ NB101_105.out _; (with_reducible repeat (first | refine blk_drewN ?_ _ | refine blk_drew ?_ | refine blk_alloc ?_ _)); refine blk_far ?_ NB101_105.out _; (with_reducible repeat (first | refine blk_drewN ?_ _ | refine blk_drew ?_ | refine blk_alloc ?_ _)); exact BK101.out⟩
         have n1_ : Aside0 (((((w16.setCell ⟨gb105, 0, none⟩ (.int .i64 ((rd_T54 l0_2 x3_2).f0))).setCell ⟨gb105, 1, none⟩ (.int .i64 ((rd_T54 l0_2 x3_2).f1))).setCell ⟨gb105, 2, none⟩ (.int .i64 ((rd_T54 l0_2 x3_2).f2))).setCell ⟨gb105, 3, none⟩ (.string ((rd_T54 l0_2 x3_2).f3))).heap[gb105]? = some (.cells #[.int .i64 ((rd_T54 l0_2 x3_2).f0), .int .i64 ((rd_T54 l0_2 x3_2).f1), .int .i64 ((rd_T54 l0_2 x3_2).f2), .string ((rd_T54 l0_2 x3_2).f3)] 54 (0, 0))) := ⟨by (with_reducible repeat (first | refine blk_drewN ?_ _ | refine blk_drew ?_ | refine blk_alloc ?_ _)); refine blk_put (cs := #[.int .i64 ((rd_T54 l0_2 x3_2).f0), .int .i64 ((rd_T54 l0_2 x3_2).f1), .int .i64 ((rd_T54 l0_2 x3_2).f2), .string (⟨#[]⟩ : ByteArray)]) ?_ 3 _ rfl; (with_reducible repeat (first | refine blk_drewN ?_ _ | refine blk_drew ?_ | refine blk_alloc ?_ _)); refine blk_put (cs := #[.int .i64 ((rd_T54 l0_2 x3_2).f0), .int .i64 ((rd_T54 l0_2 x3_2).f1), .int .i64 0, .string (⟨#[]⟩ : ByteArray)]) ?_ 2 _ rfl; (with_reducible repeat (first | refine blk_drewN ?_ _ | refine blk_drew ?_ | refine blk_alloc ?_ _)); refine blk_put (cs := #[.int .i64 ((rd_T54 l0_2 x3_2).f0), .int .i64 0, .int .i64 0, .string (⟨#[]⟩ : ByteArray)]) ?_ 1 _ rfl; (with_reducible repeat (first | refine blk_drewN ?_ _ | refine blk_drew ?_ | refine blk_alloc ?_ _)); refine blk_put (cs := #[.int .i64 0, .int .i64 0, .int .i64 0, .string (⟨#[]⟩ : ByteArray)]) ?_ 0 _ rfl; (with_reducible repeat (first | refine blk_drewN ?_ _ | refine blk_drew ?_ | refine blk_alloc ?_ _)); exact BK105.out⟩
         have n2_ : Aside0 (Below w.heap.size w ((((w16.setCell ⟨gb105, 0, none⟩ (.int .i64 ((rd_T54 l0_2 x3_2).f0))).setCell ⟨gb105, 1, none⟩ (.int .i64 ((rd_T54 l0_2 x3_2).f1))).setCell ⟨gb105, 2, none⟩ (.int .i64 ((rd_T54 l0_2 x3_2).f2))).setCell ⟨gb105, 3, none⟩ (.string ((rd_T54 l0_2 x3_2).f3)))) := ⟨by repeat (first | (with_reducible first | exact HB.out | apply below_alloc | apply pw_below_drewN | apply below_drew1 | refine below_set ?_ GE101.out | refine below_set ?_ GE105.out) | exact HB.out)⟩
         (try clear BK101)
         (try clear BK105)
         (try clear HB)
         generalize ((((w16.setCell ⟨gb105, 0, none⟩ (.int .i64 ((rd_T54 l0_2 x3_2).f0))).setCell ⟨gb105, 1, none⟩ (.int .i64 ((rd_T54 l0_2 x3_2).f1))).setCell ⟨gb105, 2, none⟩ (.int .i64 ((rd_T54 l0_2 x3_2).f2))).setCell ⟨gb105, 3, none⟩ (.string ((rd_T54 l0_2 x3_2).f3))) = w40 at n0_ n1_ n2_ ⊢
         have BK101 := n0_
         have BK105 := n1_
         have HB := n2_
         clear n0_ n1_ n2_
         replace BK101 := am (blk_drew BK101.out)
         replace BK105 := am (blk_drew BK105.out)
         replace HB := am (below_drew1 HB.out)
         refine start_ (n := 40) (S := fun w' => w'.cell? ⟨gb105, 0, none⟩ = some (.int .i64 ((rd_T54 l0_2 x3_2).f0)) ∧ w'.cell? ⟨gb105, 1, none⟩ = some (.int .i64 ((rd_T54 l0_2 x3_2).f1)) ∧ w'.cell? ⟨gb105, 2, none⟩ = some (.int .i64 ((rd_T54 l0_2 x3_2).f2)) ∧ w'.cell? ⟨gb105, 3, none⟩ = some (.string ((rd_T54 l0_2 x3_2).f3))) (ds := []) b0_40 kr rfl rfl ⟨(blk_cell BK105.out 0).trans rfl, (blk_cell BK105.out 1).trans rfl, (blk_cell BK105.out 2).trans rfl, (blk_cell BK105.out 3).trans rfl⟩ (fun hHeld => ?_); refine with_tabW spec_SessionsOk.tab7 spec_SessionsOk.bits7 (fun HT_ HW_ => ?_)
         generalize w40.drew = w41 at BK101 BK105 HB hHeld ⊢
         refine pV 0 36 (bt 1 40) ?_
         refine tV 1 37 (bt 2 40) ?_
         refine one_ (i := 2) (N := some 38) b3_40 rfl rfl (one_of HT_.out kr) (by decide) (fun K hK => ?_)
         refine goes_ Tryd.func50 kr rfl #[.int .i64 ((rd_T54 l0_2 x3_2).f0), .int .i64 1, .int .i64 999] (by rfl) rfl rfl q1 ?_
         with_reducible refine (spec_l01In.calls ((rd_T54 l0_2 x3_2).f0) 1 999 false _ A19.out).mono ?_
         rintro e w' ⟨rfl, ⟨nd, rfl⟩⟩
         refine ⟨_, rfl, ?_⟩
         refine hK.out _ _ ⟨(blk_cell BK105.out 0).trans rfl, (blk_cell BK105.out 1).trans rfl, (blk_cell BK105.out 2).trans rfl, (blk_cell BK105.out 3).trans rfl⟩ (fun hHeld => ?_)
         clear hK K
         refine norm_ (a' := ?_) ?_ ?_
         rotate_left
         · show Act.put _ (some 38) _ = _
           simp only [Act.put, la, lb, lc, i64_w, i32_w]
           rfl
         refine pV 3 39 (bt 4 40) ?_
         refine pV 4 40 (bt 5 40) ?_
         refine pU 5 41 (bt 6 40) ?_
         refine pU 6 42 (bt 7 40) ?_
         refine pU 7 43 (bt 8 40) ?_
         refine pU 8 44 (bt 9 40) ?_
         refine pV 9 45 (bt 10 40) ?_
         refine pV 10 46 (bt 11 40) ?_
         refine pU 11 47 (bt 12 40) ?_
         refine pU 12 48 (bt 13 40) ?_
         refine pU 13 49 (bt 14 40) ?_
         refine pU 14 50 (bt 15 40) ?_
         refine pU 15 51 (bt 16 40) ?_
         refine pU 16 52 (bt 17 40) ?_
         refine pV 17 53 (bt 18 40) ?_
         refine pV 18 54 (bt 19 40) ?_
         refine pU 19 55 (bt 20 40) ?_
         refine pU 20 56 (bt 21 40) ?_
         refine pU 21 57 (bt 22 40) ?_
         refine pU 22 58 (bt 23 40) ?_
         refine pV 23 59 (bt 24 40) ?_
         refine pV 24 60 (bt 25 40) ?_
         refine pU 25 61 (bt 26 40) ?_
         refine pU 26 62 (bt 27 40) ?_
         refine pU 27 63 (bt 28 40) ?_
         refine pU 28 64 (bt 29 40) ?_
         refine pU 29 65 (bt 30 40) ?_
         refine pU 30 66 (bt 31 40) ?_
         refine pU 31 67 (bt 32 40) ?_
         refine pU 32 68 (bt 33 40) ?_
         refine pU 33 69 (bt 34 40) ?_
         refine pU 34 70 (bt 35 40) ?_
         refine pU 35 71 (bt 36 40) ?_
         refine pU 36 72 (bt 37 40) ?_
         refine pU 37 73 (bt 38 40) ?_
         refine pU 38 74 (bt 39 40) ?_
         refine pV 39 75 (bt 40 40) ?_
         refine done_ (done_of HT_.out kr) ?_
         try go_wp2
         go_meet
         case rel => exact ⟨_, (true), q4, H', ⟨q2⟩, ⟨u2_2⟩, ⟨u2_4⟩, ⟨q0⟩⟩
       subst c20
       rw [if_pos rfl] at H
       replace H := Option.bind_eq_some_iff.mp H
       obtain ⟨t107, A210, H⟩ := H
       have A21 := am A210
       clear A210
       by_cases c22 : t107 = true
       rotate_left
       · replace c22 := Bool.eq_false_iff.mpr c22
         subst c22
         rw [nf] at H
         have H' := am H
         clear H
         try go_wp2
         have n0_ : Aside0 (((((w16.setCell ⟨gb105, 0, none⟩ (.int .i64 ((rd_T54 l0_2 x3_2).f0))).setCell ⟨gb105, 1, none⟩ (.int .i64 ((rd_T54 l0_2 x3_2).f1))).setCell ⟨gb105, 2, none⟩ (.int .i64 ((rd_T54 l0_2 x3_2).f2))).setCell ⟨gb105, 3, none⟩ (.string ((rd_T54 l0_2 x3_2).f3))).heap[gb101]? = some (.cells #[.int .i64 a0_0, .int .i64 a0_1, .slice (some ad104) l0_2.length c0_2] 30 (0, 0))) := ⟨by (with_reducible repeat (first | refine blk_drewN ?_ _ | refine blk_drew ?_ | refine blk_alloc ?_ _)); refine blk_far ?_ NB101_105.out _; (with_reducible repeat (first | refine blk_drewN ?_ _ | refine blk_drew ?_ | refine blk_alloc ?_ _)); refine blk_far ?_ NB101_105.out _; (with_reducible repeat (first | refine blk_drewN ?_ _ | refine blk_drew ?_ | refine blk_alloc ?_ _)); refine blk_far ?_ NB101_105.out _; (with_reducible repeat (first | refine blk_drewN ?_ _ | refine blk_drew ?_ | refine blk_alloc ?_ _)); refine blk_far ?_ NB101_105.out _; (with_reducible repeat (first | refine blk_drewN ?_ _ | refine blk_drew ?_ | refine blk_alloc ?_ _)); exact BK101.out⟩
         have n1_ : Aside0 (((((w16.setCell ⟨gb105, 0, none⟩ (.int .i64 ((rd_T54 l0_2 x3_2).f0))).setCell ⟨gb105, 1, none⟩ (.int .i64 ((rd_T54 l0_2 x3_2).f1))).setCell ⟨gb105, 2, none⟩ (.int .i64 ((rd_T54 l0_2 x3_2).f2))).setCell ⟨gb105, 3, none⟩ (.string ((rd_T54 l0_2 x3_2).f3))).heap[gb105]? = some (.cells #[.int .i64 ((rd_T54 l0_2 x3_2).f0), .int .i64 ((rd_T54 l0_2 x3_2).f1), .int .i64 ((rd_T54 l0_2 x3_2).f2), .string ((rd_T54 l0_2 x3_2).f3)] 54 (0, 0))) := ⟨by (with_reducible repeat (first | refine blk_drewN ?_ _ | refine blk_drew ?_ | refine blk_alloc ?_ _)); refine blk_put (cs := #[.int .i64 ((rd_T54 l0_2 x3_2).f0), .int .i64 ((rd_T54 l0_2 x3_2).f1), .int .i64 ((rd_T54 l0_2 x3_2).f2), .string (⟨#[]⟩ : ByteArray)]) ?_ 3 _ rfl; (with_reducible repeat (first | refine blk_drewN ?_ _ | refine blk_drew ?_ | refine blk_alloc ?_ _)); refine blk_put (cs := #[.int .i64 ((rd_T54 l0_2 x3_2).f0), .int .i64 ((rd_T54 l0_2 x3_2).f1), .int .i64 0, .string (⟨#[]⟩ : ByteArray)]) ?_ 2 _ rfl; (with_reducible repeat (first | refine blk_drewN ?_ _ | refine blk_drew ?_ | refine blk_alloc ?_ _)); refine blk_put (cs := #[.int .i64 ((rd_T54 l0_2 x3_2).f0), .int .i64 0, .int .i64 0, .string (⟨#[]⟩ : ByteArray)]) ?_ 1 _ rfl; (with_reducible repeat (first | refine blk_drewN ?_ _ | refine blk_drew ?_ | refine blk_alloc ?_ _)); refine blk_put (cs := #[.int .i64 0, .int .i64 0, .int .i64 0, .string (⟨#[]⟩ : ByteArray)]) ?_ 0 _ rfl; (with_reducible repeat (first | refine blk_drewN ?_ _ | refine blk_drew ?_ | refine blk_alloc ?_ _)); exact BK105.out⟩
         have n2_ : Aside0 (Below w.heap.size w ((((w16.setCell ⟨gb105, 0, none⟩ (.int .i64 ((rd_T54 l0_2 x3_2).f0))).setCell ⟨gb105, 1, none⟩ (.int .i64 ((rd_T54 l0_2 x3_2).f1))).setCell ⟨gb105, 2, none⟩ (.int .i64 ((rd_T54 l0_2 x3_2).f2))).setCell ⟨gb105, 3, none⟩ (.string ((rd_T54 l0_2 x3_2).f3)))) := ⟨by repeat (first | (with_reducible first | exact HB.out | apply below_alloc | apply pw_below_drewN | apply below_drew1 | refine below_set ?_ GE101.out | refine below_set ?_ GE105.out) | exact HB.out)⟩
         (try clear BK101)
         (try clear BK105)
         (try clear HB)
         generalize ((((w16.setCell ⟨gb105, 0, none⟩ (.int .i64 ((rd_T54 l0_2 x3_2).f0))).setCell ⟨gb105, 1, none⟩ (.int .i64 ((rd_T54 l0_2 x3_2).f1))).setCell ⟨gb105, 2, none⟩ (.int .i64 ((rd_T54 l0_2 x3_2).f2))).setCell ⟨gb105, 3, none⟩ (.string ((rd_T54 l0_2 x3_2).f3))) = w38 at n0_ n1_ n2_ ⊢
         have BK101 := n0_
         have BK105 := n1_
         have HB := n2_
         clear n0_ n1_ n2_
         replace BK101 := am (blk_drew BK101.out)
         replace BK105 := am (blk_drew BK105.out)
         replace HB := am (below_drew1 HB.out)
         refine start_ (n := 40) (S := fun w' => w'.cell? ⟨gb105, 0, none⟩ = some (.int .i64 ((rd_T54 l0_2 x3_2).f0)) ∧ w'.cell? ⟨gb105, 1, none⟩ = some (.int .i64 ((rd_T54 l0_2 x3_2).f1)) ∧ w'.cell? ⟨gb105, 2, none⟩ = some (.int .i64 ((rd_T54 l0_2 x3_2).f2)) ∧ w'.cell? ⟨gb105, 3, none⟩ = some (.string ((rd_T54 l0_2 x3_2).f3))) (ds := []) b0_40 kr rfl rfl ⟨(blk_cell BK105.out 0).trans rfl, (blk_cell BK105.out 1).trans rfl, (blk_cell BK105.out 2).trans rfl, (blk_cell BK105.out 3).trans rfl⟩ (fun hHeld => ?_); refine with_tabW spec_SessionsOk.tab7 spec_SessionsOk.bits7 (fun HT_ HW_ => ?_)
         generalize w38.drew = w39 at BK101 BK105 HB hHeld ⊢
         refine pV 0 36 (bt 1 40) ?_
         refine tV 1 37 (bt 2 40) ?_
         refine one_ (i := 2) (N := some 38) b3_40 rfl rfl (one_of HT_.out kr) (by decide) (fun K hK => ?_)
         refine goes_ Tryd.func50 kr rfl #[.int .i64 ((rd_T54 l0_2 x3_2).f0), .int .i64 1, .int .i64 999] (by rfl) rfl rfl q1 ?_
         with_reducible refine (spec_l01In.calls ((rd_T54 l0_2 x3_2).f0) 1 999 true _ A19.out).mono ?_
         rintro e w' ⟨rfl, ⟨nd, rfl⟩⟩
         refine ⟨_, rfl, ?_⟩
         refine hK.out _ _ ⟨(blk_cell BK105.out 0).trans rfl, (blk_cell BK105.out 1).trans rfl, (blk_cell BK105.out 2).trans rfl, (blk_cell BK105.out 3).trans rfl⟩ (fun hHeld => ?_)
         clear hK K
         refine norm_ (a' := ?_) ?_ ?_
         rotate_left
         · show Act.put _ (some 38) _ = _
           simp only [Act.put, la, lb, lc, i64_w, i32_w]
           rfl
         refine pV 3 39 (bt 4 40) ?_
         refine pV 4 40 (bt 5 40) ?_
         refine pV 5 41 (bt 6 40) ?_
         refine tV 6 42 (bt 7 40) ?_
         refine one_ (i := 7) (N := some 43) b8_40 rfl rfl (one_of HT_.out kr) (by decide) (fun K hK => ?_)
         refine goes_ Tryd.func50 kr rfl #[.int .i64 ((rd_T54 l0_2 x3_2).f1), .int .i64 1, .int .i64 1000000] (by rfl) rfl rfl q1 ?_
         with_reducible refine (spec_l01In.calls ((rd_T54 l0_2 x3_2).f1) 1 1000000 false _ A21.out).mono ?_
         rintro e w' ⟨rfl, ⟨nd, rfl⟩⟩
         refine ⟨_, rfl, ?_⟩
         refine hK.out _ _ ⟨(blk_cell BK105.out 0).trans rfl, (blk_cell BK105.out 1).trans rfl, (blk_cell BK105.out 2).trans rfl, (blk_cell BK105.out 3).trans rfl⟩ (fun hHeld => ?_)
         clear hK K
         refine norm_ (a' := ?_) ?_ ?_
         rotate_left
         · show Act.put _ (some 43) _ = _
           simp only [Act.put, la, lb, lc, i64_w, i32_w]
           rfl
         refine pV 8 44 (bt 9 40) ?_
         refine pV 9 45 (bt 10 40) ?_
         refine pV 10 46 (bt 11 40) ?_
         refine pU 11 47 (bt 12 40) ?_
         refine pU 12 48 (bt 13 40) ?_
         refine pU 13 49 (bt 14 40) ?_
         refine pU 14 50 (bt 15 40) ?_
         refine pU 15 51 (bt 16 40) ?_
         refine pU 16 52 (bt 17 40) ?_
         refine pV 17 53 (bt 18 40) ?_
         refine pV 18 54 (bt 19 40) ?_
         refine pU 19 55 (bt 20 40) ?_
         refine pU 20 56 (bt 21 40) ?_
         refine pU 21 57 (bt 22 40) ?_
         refine pU 22 58 (bt 23 40) ?_
         refine pV 23 59 (bt 24 40) ?_
         refine pV 24 60 (bt 25 40) ?_
         refine pU 25 61 (bt 26 40) ?_
         refine pU 26 62 (bt 27 40) ?_
         refine pU 27 63 (bt 28 40) ?_
         refine pU 28 64 (bt 29 40) ?_
         refine pU 29 65 (bt 30 40) ?_
         refine pU 30 66 (bt 31 40) ?_
         refine pU 31 67 (bt 32 40) ?_
         refine pU 32 68 (bt 33 40) ?_
         refine pU 33 69 (bt 34 40) ?_
         refine pU 34 70 (bt 35 40) ?_
         refine pU 35 71 (bt 36 40) ?_
         refine pU 36 72 (bt 37 40) ?_
         refine pU 37 73 (bt 38 40) ?_
         refine pU 38 74 (bt 39 40) ?_
         refine pV 39 75 (bt 40 40) ?_
         refine done_ (done_of HT_.out kr) ?_
         try go_wp2
         go_meet
         case rel => exact ⟨_, (true), q4, H', ⟨q2⟩, ⟨u2_2⟩, ⟨u2_4⟩, ⟨q0⟩⟩
       subst c22
       rw [if_pos rfl] at H
       replace H := Option.bind_eq_some_iff.mp H
       obtain ⟨t108, A230, H⟩ := H
       have A23 := am A230
       clear A230
       by_cases c24 : t108 = true
       rotate_left
       · replace c24 := Bool.eq_false_iff.mpr c24
         subst c24
         rw [nf] at H
         have H' := am H
         clear H
         try go_wp2
         have n0_ : Aside0 (((((w16.setCell ⟨gb105, 0, none⟩ (.int .i64 ((rd_T54 l0_2 x3_2).f0))).setCell ⟨gb105, 1, none⟩ (.int .i64 ((rd_T54 l0_2 x3_2).f1))).setCell ⟨gb105, 2, none⟩ (.int .i64 ((rd_T54 l0_2 x3_2).f2))).setCell ⟨gb105, 3, none⟩ (.string ((rd_T54 l0_2 x3_2).f3))).heap[gb101]? = some (.cells #[.int .i64 a0_0, .int .i64 a0_1, .slice (some ad104) l0_2.length c0_2] 30 (0, 0))) := ⟨by (with_reducible repeat (first | refine blk_drewN ?_ _ | refine blk_drew ?_ | refine blk_alloc ?_ _)); refine blk_far ?_ NB101_105.out _; (with_reducible repeat (first | refine blk_drewN ?_ _ | refine blk_drew ?_ | refine blk_alloc ?_ _)); refine blk_far ?_ NB101_105.out _; (with_reducible repeat (first | refine blk_drewN ?_ _ | refine blk_drew ?_ | refine blk_alloc ?_ _)); refine blk_far ?_ NB101_105.out _; (with_reducible repeat (first | refine blk_drewN ?_ _ | refine blk_drew ?_ | refine blk_alloc ?_ _)); refine blk_far ?_ NB101_105.out _; (with_reducible repeat (first | refine blk_drewN ?_ _ | refine blk_drew ?_ | refine blk_alloc ?_ _)); exact BK101.out⟩
         have n1_ : Aside0 (((((w16.setCell ⟨gb105, 0, none⟩ (.int .i64 ((rd_T54 l0_2 x3_2).f0))).setCell ⟨gb105, 1, none⟩ (.int .i64 ((rd_T54 l0_2 x3_2).f1))).setCell ⟨gb105, 2, none⟩ (.int .i64 ((rd_T54 l0_2 x3_2).f2))).setCell ⟨gb105, 3, none⟩ (.string ((rd_T54 l0_2 x3_2).f3))).heap[gb105]? = some (.cells #[.int .i64 ((rd_T54 l0_2 x3_2).f0), .int .i64 ((rd_T54 l0_2 x3_2).f1), .int .i64 ((rd_T54 l0_2 x3_2).f2), .string ((rd_T54 l0_2 x3_2).f3)] 54 (0, 0))) := ⟨by (with_reducible repeat (first | refine blk_drewN ?_ _ | refine blk_drew ?_ | refine blk_alloc ?_ _)); refine blk_put (cs := #[.int .i64 ((rd_T54 l0_2 x3_2).f0), .int .i64 ((rd_T54 l0_2 x3_2).f1), .int .i64 ((rd_T54 l0_2 x3_2).f2), .string (⟨#[]⟩ : ByteArray)]) ?_ 3 _ rfl; (with_reducible repeat (first | refine blk_drewN ?_ _ | refine blk_drew ?_ | refine blk_alloc ?_ _)); refine blk_put (cs := #[.int .i64 ((rd_T54 l0_2 x3_2).f0), .int .i64 ((rd_T54 l0_2 x3_2).f1), .int .i64 0, .string (⟨#[]⟩ : ByteArray)]) ?_ 2 _ rfl; (with_reducible repeat (first | refine blk_drewN ?_ _ | refine blk_drew ?_ | refine blk_alloc ?_ _)); refine blk_put (cs := #[.int .i64 ((rd_T54 l0_2 x3_2).f0), .int .i64 0, .int .i64 0, .string (⟨#[]⟩ : ByteArray)]) ?_ 1 _ rfl; (with_reducible repeat (first | refine blk_drewN ?_ _ | refine blk_drew ?_ | refine blk_alloc ?_ _)); refine blk_put (cs := #[.int .i64 0, .int .i64 0, .int .i64 0, .string (⟨#[]⟩ : ByteArray)]) ?_ 0 _ rfl; (with_reducible repeat (first | refine blk_drewN ?_ _ | refine blk_drew ?_ | refine blk_alloc ?_ _)); exact BK105.out⟩
         have n2_ : Aside0 (Below w.heap.size w ((((w16.setCell ⟨gb105, 0, none⟩ (.int .i64 ((rd_T54 l0_2 x3_2).f0))).setCell ⟨gb105, 1, none⟩ (.int .i64 ((rd_T54 l0_2 x3_2).f1))).setCell ⟨gb105, 2, none⟩ (.int .i64 ((rd_T54 l0_2 x3_2).f2))).setCell ⟨gb105, 3, none⟩ (.string ((rd_T54 l0_2 x3_2).f3)))) := ⟨by repeat (first | (with_reducible first | exact HB.out | apply below_alloc | apply pw_below_drewN | apply below_drew1 | refine below_set ?_ GE101.out | refine below_set ?_ GE105.out) | exact HB.out)⟩
         (try clear BK101)
         (try clear BK105)
         (try clear HB)
         generalize ((((w16.setCell ⟨gb105, 0, none⟩ (.int .i64 ((rd_T54 l0_2 x3_2).f0))).setCell ⟨gb105, 1, none⟩ (.int .i64 ((rd_T54 l0_2 x3_2).f1))).setCell ⟨gb105, 2, none⟩ (.int .i64 ((rd_T54 l0_2 x3_2).f2))).setCell ⟨gb105, 3, none⟩ (.string ((rd_T54 l0_2 x3_2).f3))) = w36 at n0_ n1_ n2_ ⊢
         have BK101 := n0_
         have BK105 := n1_
         have HB := n2_
         clear n0_ n1_ n2_
         replace BK101 := am (blk_drew BK101.out)
         replace BK105 := am (blk_drew BK105.out)
         replace HB := am (below_drew1 HB.out)
         refine start_ (n := 40) (S := fun w' => w'.cell? ⟨gb105, 0, none⟩ = some (.int .i64 ((rd_T54 l0_2 x3_2).f0)) ∧ w'.cell? ⟨gb105, 1, none⟩ = some (.int .i64 ((rd_T54 l0_2 x3_2).f1)) ∧ w'.cell? ⟨gb105, 2, none⟩ = some (.int .i64 ((rd_T54 l0_2 x3_2).f2)) ∧ w'.cell? ⟨gb105, 3, none⟩ = some (.string ((rd_T54 l0_2 x3_2).f3)) ∧ w'.cell? ⟨gb101, 0, none⟩ = some (.int .i64 a0_0) ∧ w'.cell? ⟨gb101, 1, none⟩ = some (.int .i64 a0_1) ∧ w'.cell? ⟨gb101, 2, none⟩ = some (.slice (some ad104) l0_2.length c0_2)) (ds := []) b0_40 kr rfl rfl ⟨(blk_cell BK105.out 0).trans rfl, (blk_cell BK105.out 1).trans rfl, (blk_cell BK105.out 2).trans rfl, (blk_cell BK105.out 3).trans rfl, (blk_cell BK101.out 0).trans rfl, (blk_cell BK101.out 1).trans rfl, (blk_cell BK101.out 2).trans rfl⟩ (fun hHeld => ?_); refine with_tabW spec_SessionsOk.tab7 spec_SessionsOk.bits7 (fun HT_ HW_ => ?_)
         generalize w36.drew = w37 at BK101 BK105 HB hHeld ⊢
         refine pV 0 36 (bt 1 40) ?_
         refine tV 1 37 (bt 2 40) ?_
         refine one_ (i := 2) (N := some 38) b3_40 rfl rfl (one_of HT_.out kr) (by decide) (fun K hK => ?_)
         refine goes_ Tryd.func50 kr rfl #[.int .i64 ((rd_T54 l0_2 x3_2).f0), .int .i64 1, .int .i64 999] (by rfl) rfl rfl q1 ?_
         with_reducible refine (spec_l01In.calls ((rd_T54 l0_2 x3_2).f0) 1 999 true _ A19.out).mono ?_
         rintro e w' ⟨rfl, ⟨nd, rfl⟩⟩
         refine ⟨_, rfl, ?_⟩
         refine hK.out _ _ ⟨(blk_cell BK105.out 0).trans rfl, (blk_cell BK105.out 1).trans rfl, (blk_cell BK105.out 2).trans rfl, (blk_cell BK105.out 3).trans rfl, (blk_cell BK101.out 0).trans rfl, (blk_cell BK101.out 1).trans rfl, (blk_cell BK101.out 2).trans rfl⟩ (fun hHeld => ?_)
         clear hK K
         refine norm_ (a' := ?_) ?_ ?_
         rotate_left
         · show Act.put _ (some 38) _ = _
           simp only [Act.put, la, lb, lc, i64_w, i32_w]
           rfl
         refine pV 3 39 (bt 4 40) ?_
         refine pV 4 40 (bt 5 40) ?_
         refine pV 5 41 (bt 6 40) ?_
         refine tV 6 42 (bt 7 40) ?_
         refine one_ (i := 7) (N := some 43) b8_40 rfl rfl (one_of HT_.out kr) (by decide) (fun K hK => ?_)
         refine goes_ Tryd.func50 kr rfl #[.int .i64 ((rd_T54 l0_2 x3_2).f1), .int .i64 1, .int .i64 1000000] (by rfl) rfl rfl q1 ?_
         with_reducible refine (spec_l01In.calls ((rd_T54 l0_2 x3_2).f1) 1 1000000 true _ A21.out).mono ?_
         rintro e w' ⟨rfl, ⟨nd, rfl⟩⟩
         refine ⟨_, rfl, ?_⟩
         refine hK.out _ _ ⟨(blk_cell BK105.out 0).trans rfl, (blk_cell BK105.out 1).trans rfl, (blk_cell BK105.out 2).trans rfl, (blk_cell BK105.out 3).trans rfl, (blk_cell BK101.out 0).trans rfl, (blk_cell BK101.out 1).trans rfl, (blk_cell BK101.out 2).trans rfl⟩ (fun hHeld => ?_)
         clear hK K
         refine norm_ (a' := ?_) ?_ ?_
         rotate_left
         · show Act.put _ (some 43) _ = _
           simp only [Act.put, la, lb, lc, i64_w, i32_w]
           rfl
         refine pV 8 44 (bt 9 40) ?_
         refine pV 9 45 (bt 10 40) ?_
         refine pV 10 46 (bt 11 40) ?_
         refine pV 11 47 (bt 12 40) ?_
         refine pV 13 49 bx121 ?_
         refine tV 12 48 (bt 14 40) ?_
         refine tV 14 50 (bt 15 40) ?_
         refine one_ (i := 15) (N := some 51) b16_40 rfl rfl (one_of HT_.out kr) (by decide) (fun K hK => ?_)
         refine goes_ Tryd.func50 kr rfl #[.int .i64 ((rd_T54 l0_2 x3_2).f2), .int .i64 1, .int .i64 a0_1] (by rfl) rfl rfl q1 ?_
         with_reducible refine (spec_l01In.calls ((rd_T54 l0_2 x3_2).f2) 1 a0_1 false _ A23.out).mono ?_
         rintro e w' ⟨rfl, ⟨nd, rfl⟩⟩
         refine ⟨_, rfl, ?_⟩
         refine hK.out _ _ ⟨(blk_cell BK105.out 0).trans rfl, (blk_cell BK105.out 1).trans rfl, (blk_cell BK105.out 2).trans rfl, (blk_cell BK105.out 3).trans rfl, (blk_cell BK101.out 0).trans rfl, (blk_cell BK101.out 1).trans rfl, (blk_cell BK101.out 2).trans rfl⟩ (fun hHeld => ?_)
         clear hK K
         refine norm_ (a' := ?_) ?_ ?_
         rotate_left
         · show Act.put _ (some 51) _ = _
           simp only [Act.put, la, lb, lc, i64_w, i32_w]
           rfl
         refine pV 16 52 (bt 17 40) ?_
         refine pV 17 53 (bt 18 40) ?_
         refine pV 18 54 (bt 19 40) ?_
         refine pU 19 55 (bt 20 40) ?_
         refine pU 20 56 (bt 21 40) ?_
         refine pU 21 57 (bt 22 40) ?_
         refine pU 22 58 (bt 23 40) ?_
         refine pV 23 59 (bt 24 40) ?_
         refine pV 24 60 (bt 25 40) ?_
         refine pU 25 61 (bt 26 40) ?_
         refine pU 26 62 (bt 27 40) ?_
         refine pU 27 63 (bt 28 40) ?_
         refine pU 28 64 (bt 29 40) ?_
         refine pU 29 65 (bt 30 40) ?_
         refine pU 30 66 (bt 31 40) ?_
         refine pU 31 67 (bt 32 40) ?_
         refine pU 32 68 (bt 33 40) ?_
         refine pU 33 69 (bt 34 40) ?_
         refine pU 34 70 (bt 35 40) ?_
         refine pU 35 71 (bt 36 40) ?_
         refine pU 36 72 (bt 37 40) ?_
         refine pU 37 73 (bt 38 40) ?_
         refine pU 38 74 (bt 39 40) ?_
         refine pV 39 75 (bt 40 40) ?_
         refine done_ (done_of HT_.out kr) ?_
         try go_wp2
         go_meet
         case rel => exact ⟨_, (true), q4, H', ⟨q2⟩, ⟨u2_2⟩, ⟨u2_4⟩, ⟨q0⟩⟩
       subst c24
       rw [if_pos rfl] at H
       by_cases c25 : (((rd_T54 l0_2 x3_2).f3).size : Int) > 40
       · rw [if_pos c25] at H
         have c25b0 : decide (40 < (((rd_T54 l0_2 x3_2).f3).size : Int)) = true := decide_eq_true c25
         have c25b1 : decide (40 < ((rd_T54 l0_2 x3_2).f3).size) = true := decide_eq_true (by omega)
         clear c25
         (first | rw [c25b0] | (simp only [i64_w, i32_w]; rw [c25b0]) | skip)
         have H' := am H
         clear H
         try go_wp2
         have n0_ : Aside0 (((((w16.setCell ⟨gb105, 0, none⟩ (.int .i64 ((rd_T54 l0_2 x3_2).f0))).setCell ⟨gb105, 1, none⟩ (.int .i64 ((rd_T54 l0_2 x3_2).f1))).setCell ⟨gb105, 2, none⟩ (.int .i64 ((rd_T54 l0_2 x3_2).f2))).setCell ⟨gb105, 3, none⟩ (.string ((rd_T54 l0_2 x3_2).f3))).heap[gb101]? = some (.cells #[.int .i64 a0_0, .int .i64 a0_1, .slice (some ad104) l0_2.length c0_2] 30 (0, 0))) := ⟨by (with_reducible repeat (first | refine blk_drewN ?_ _ | refine blk_drew ?_ | refine blk_alloc ?_ _)); refine blk_far ?_ NB101_105.out _; (with_reducible repeat (first | refine blk_drewN ?_ _ | refine blk_drew ?_ | refine blk_alloc ?_ _)); refine blk_far ?_ NB101_105.out _; (with_reducible repeat (first | refine blk_drewN ?_ _ | refine blk_drew ?_ | refine blk_alloc ?_ _)); refine blk_far ?_ NB101_105.out _; (with_reducible repeat (first | refine blk_drewN ?_ _ | refine blk_drew ?_ | refine blk_alloc ?_ _)); refine blk_far ?_ NB101_105.out _; (with_reducible repeat (first | refine blk_drewN ?_ _ | refine blk_drew ?_ | refine blk_alloc ?_ _)); exact BK101.out⟩
         have n1_ : Aside0 (((((w16.setCell ⟨gb105, 0, none⟩ (.int .i64 ((rd_T54 l0_2 x3_2).f0))).setCell ⟨gb105, 1, none⟩ (.int .i64 ((rd_T54 l0_2 x3_2).f1))).setCell ⟨gb105, 2, none⟩ (.int .i64 ((rd_T54 l0_2 x3_2).f2))).setCell ⟨gb105, 3, none⟩ (.string ((rd_T54 l0_2 x3_2).f3))).heap[gb105]? = some (.cells #[.int .i64 ((rd_T54 l0_2 x3_2).f0), .int .i64 ((rd_T54 l0_2 x3_2).f1), .int .i64 ((rd_T54 l0_2 x3_2).f2), .string ((rd_T54 l0_2 x3_2).f3)] 54 (0, 0))) := ⟨by (with_reducible repeat (first | refine blk_drewN ?_ _ | refine blk_drew ?_ | refine blk_alloc ?_ _)); refine blk_put (cs := #[.int .i64 ((rd_T54 l0_2 x3_2).f0), .int .i64 ((rd_T54 l0_2 x3_2).f1), .int .i64 ((rd_T54 l0_2 x3_2).f2), .string (⟨#[]⟩ : ByteArray)]) ?_ 3 _ rfl; (with_reducible repeat (first | refine blk_drewN ?_ _ | refine blk_drew ?_ | refine blk_alloc ?_ _)); refine blk_put (cs := #[.int .i64 ((rd_T54 l0_2 x3_2).f0), .int .i64 ((rd_T54 l0_2 x3_2).f1), .int .i64 0, .string (⟨#[]⟩ : ByteArray)]) ?_ 2 _ rfl; (with_reducible repeat (first | refine blk_drewN ?_ _ | refine blk_drew ?_ | refine blk_alloc ?_ _)); refine blk_put (cs := #[.int .i64 ((rd_T54 l0_2 x3_2).f0), .int .i64 0, .int .i64 0, .string (⟨#[]⟩ : ByteArray)]) ?_ 1 _ rfl; (with_reducible repeat (first | refine blk_drewN ?_ _ | refine blk_drew ?_ | refine blk_alloc ?_ _)); refine blk_put (cs := #[.int .i64 0, .int .i64 0, .int .i64 0, .string (⟨#[]⟩ : ByteArray)]) ?_ 0 _ rfl; (with_reducible repeat (first | refine blk_drewN ?_ _ | refine blk_drew ?_ | refine blk_alloc ?_ _)); exact BK105.out⟩
         have n2_ : Aside0 (Below w.heap.size w ((((w16.setCell ⟨gb105, 0, none⟩ (.int .i64 ((rd_T54 l0_2 x3_2).f0))).setCell ⟨gb105, 1, none⟩ (.int .i64 ((rd_T54 l0_2 x3_2).f1))).setCell ⟨gb105, 2, none⟩ (.int .i64 ((rd_T54 l0_2 x3_2).f2))).setCell ⟨gb105, 3, none⟩ (.string ((rd_T54 l0_2 x3_2).f3)))) := ⟨by repeat (first | (with_reducible first | exact HB.out | apply below_alloc | apply pw_below_drewN | apply below_drew1 | refine below_set ?_ GE101.out | refine below_set ?_ GE105.out) | exact HB.out)⟩
         (try clear BK101)
         (try clear BK105)
         (try clear HB)
         generalize ((((w16.setCell ⟨gb105, 0, none⟩ (.int .i64 ((rd_T54 l0_2 x3_2).f0))).setCell ⟨gb105, 1, none⟩ (.int .i64 ((rd_T54 l0_2 x3_2).f1))).setCell ⟨gb105, 2, none⟩ (.int .i64 ((rd_T54 l0_2 x3_2).f2))).setCell ⟨gb105, 3, none⟩ (.string ((rd_T54 l0_2 x3_2).f3))) = w26 at n0_ n1_ n2_ ⊢
         have BK101 := n0_
         have BK105 := n1_
         have HB := n2_
         clear n0_ n1_ n2_
         replace BK101 := am (blk_drew BK101.out)
         replace BK105 := am (blk_drew BK105.out)
         replace HB := am (below_drew1 HB.out)
         refine start_ (n := 40) (S := fun w' => w'.cell? ⟨gb105, 0, none⟩ = some (.int .i64 ((rd_T54 l0_2 x3_2).f0)) ∧ w'.cell? ⟨gb105, 1, none⟩ = some (.int .i64 ((rd_T54 l0_2 x3_2).f1)) ∧ w'.cell? ⟨gb105, 2, none⟩ = some (.int .i64 ((rd_T54 l0_2 x3_2).f2)) ∧ w'.cell? ⟨gb105, 3, none⟩ = some (.string ((rd_T54 l0_2 x3_2).f3)) ∧ w'.cell? ⟨gb101, 0, none⟩ = some (.int .i64 a0_0) ∧ w'.cell? ⟨gb101, 1, none⟩ = some (.int .i64 a0_1) ∧ w'.cell? ⟨gb101, 2, none⟩ = some (.slice (some ad104) l0_2.length c0_2)) (ds := []) b0_40 kr rfl rfl ⟨(blk_cell BK105.out 0).trans rfl, (blk_cell BK105.out 1).trans rfl, (blk_cell BK105.out 2).trans rfl, (blk_cell BK105.out 3).trans rfl, (blk_cell BK101.out 0).trans rfl, (blk_cell BK101.out 1).trans rfl, (blk_cell BK101.out 2).trans rfl⟩ (fun hHeld => ?_); refine with_tabW spec_SessionsOk.tab7 spec_SessionsOk.bits7 (fun HT_ HW_ => ?_)
         generalize w26.drew = w27 at BK101 BK105 HB hHeld ⊢
         refine pV 0 36 (bt 1 40) ?_
         refine tV 1 37 (bt 2 40) ?_
         refine one_ (i := 2) (N := some 38) b3_40 rfl rfl (one_of HT_.out kr) (by decide) (fun K hK => ?_)
         refine goes_ Tryd.func50 kr rfl #[.int .i64 ((rd_T54 l0_2 x3_2).f0), .int .i64 1, .int .i64 999] (by rfl) rfl rfl q1 ?_
         with_reducible refine (spec_l01In.calls ((rd_T54 l0_2 x3_2).f0) 1 999 true _ A19.out).mono ?_
         rintro e w' ⟨rfl, ⟨nd, rfl⟩⟩
         refine ⟨_, rfl, ?_⟩
         refine hK.out _ _ ⟨(blk_cell BK105.out 0).trans rfl, (blk_cell BK105.out 1).trans rfl, (blk_cell BK105.out 2).trans rfl, (blk_cell BK105.out 3).trans rfl, (blk_cell BK101.out 0).trans rfl, (blk_cell BK101.out 1).trans rfl, (blk_cell BK101.out 2).trans rfl⟩ (fun hHeld => ?_)
         clear hK K
         refine norm_ (a' := ?_) ?_ ?_
         rotate_left
         · show Act.put _ (some 38) _ = _
           simp only [Act.put, la, lb, lc, i64_w, i32_w]
           rfl
         refine pV 3 39 (bt 4 40) ?_
         refine pV 4 40 (bt 5 40) ?_
         refine pV 5 41 (bt 6 40) ?_
         refine tV 6 42 (bt 7 40) ?_
         refine one_ (i := 7) (N := some 43) b8_40 rfl rfl (one_of HT_.out kr) (by decide) (fun K hK => ?_)
         refine goes_ Tryd.func50 kr rfl #[.int .i64 ((rd_T54 l0_2 x3_2).f1), .int .i64 1, .int .i64 1000000] (by rfl) rfl rfl q1 ?_
         with_reducible refine (spec_l01In.calls ((rd_T54 l0_2 x3_2).f1) 1 1000000 true _ A21.out).mono ?_
         rintro e w' ⟨rfl, ⟨nd, rfl⟩⟩
         refine ⟨_, rfl, ?_⟩
         refine hK.out _ _ ⟨(blk_cell BK105.out 0).trans rfl, (blk_cell BK105.out 1).trans rfl, (blk_cell BK105.out 2).trans rfl, (blk_cell BK105.out 3).trans rfl, (blk_cell BK101.out 0).trans rfl, (blk_cell BK101.out 1).trans rfl, (blk_cell BK101.out 2).trans rfl⟩ (fun hHeld => ?_)
         clear hK K
         refine norm_ (a' := ?_) ?_ ?_
         rotate_left
         · show Act.put _ (some 43) _ = _
           simp only [Act.put, la, lb, lc, i64_w, i32_w]
           rfl
         refine pV 8 44 (bt 9 40) ?_
         refine pV 9 45 (bt 10 40) ?_
         refine pV 10 46 (bt 11 40) ?_
         refine pV 11 47 (bt 12 40) ?_
         refine pV 13 49 bx121 ?_
         refine tV 12 48 (bt 14 40) ?_
         refine tV 14 50 (bt 15 40) ?_
         refine one_ (i := 15) (N := some 51) b16_40 rfl rfl (one_of HT_.out kr) (by decide) (fun K hK => ?_)
         refine goes_ Tryd.func50 kr rfl #[.int .i64 ((rd_T54 l0_2 x3_2).f2), .int .i64 1, .int .i64 a0_1] (by rfl) rfl rfl q1 ?_
         with_reducible refine (spec_l01In.calls ((rd_T54 l0_2 x3_2).f2) 1 a0_1 true _ A23.out).mono ?_
         rintro e w' ⟨rfl, ⟨nd, rfl⟩⟩
         refine ⟨_, rfl, ?_⟩
         refine hK.out _ _ ⟨(blk_cell BK105.out 0).trans rfl, (blk_cell BK105.out 1).trans rfl, (blk_cell BK105.out 2).trans rfl, (blk_cell BK105.out 3).trans rfl, (blk_cell BK101.out 0).trans rfl, (blk_cell BK101.out 1).trans rfl, (blk_cell BK101.out 2).trans rfl⟩ (fun hHeld => ?_)
         clear hK K
         refine norm_ (a' := ?_) ?_ ?_
         rotate_left
         · show Act.put _ (some 51) _ = _
           simp only [Act.put, la, lb, lc, i64_w, i32_w]
           rfl
         refine pV 16 52 (bt 17 40) ?_
         refine pV 17 53 (bt 18 40) ?_
         refine pV 18 54 (bt 19 40) ?_
         refine pV 19 55 (bt 20 40) ?_
         refine tV 20 56 (bt 21 40) ?_
         refine pV 21 57 (bt 22 40) ?_
         refine pV 22 58 (bt 23 40) ?_
         refine pV 23 59 (bt 24 40) ?_
         refine pV 24 60 (bt 25 40) ?_
         refine pU 25 61 (bt 26 40) ?_
         refine pU 26 62 (bt 27 40) ?_
         refine pU 27 63 (bt 28 40) ?_
         refine pU 28 64 (bt 29 40) ?_
         refine pU 29 65 (bt 30 40) ?_
         refine pU 30 66 (bt 31 40) ?_
         refine pU 31 67 (bt 32 40) ?_
         refine pU 32 68 (bt 33 40) ?_
         refine pU 33 69 (bt 34 40) ?_
         refine pU 34 70 (bt 35 40) ?_
         refine pU 35 71 (bt 36 40) ?_
         refine pU 36 72 (bt 37 40) ?_
         refine pU 37 73 (bt 38 40) ?_
         refine pU 38 74 (bt 39 40) ?_
         refine pV 39 75 (bt 40 40) ?_
         refine done_ (done_of HT_.out kr) ?_
         try go_wp2
         go_meet
         case rel => exact ⟨_, (true), q4, H', ⟨q2⟩, ⟨u2_2⟩, ⟨u2_4⟩, ⟨q0⟩⟩
       rw [if_neg c25] at H
       have c25b0 : decide (40 < (((rd_T54 l0_2 x3_2).f3).size : Int)) = false := decide_eq_false c25
       have c25b1 : decide (40 < ((rd_T54 l0_2 x3_2).f3).size) = false := decide_eq_false (by omega)
       clear c25
       (first | rw [c25b0] | (simp only [i64_w, i32_w]; rw [c25b0]) | skip)
       by_cases c28 : x3_2 > 0
       rotate_left
       · rw [if_neg c28] at H
         have c28b0 : decide (0 < x3_2) = false := decide_eq_false c28
         clear c28
         have H' := am H
         clear H
         try go_wp2
         have n0_ : Aside0 (((((w16.setCell ⟨gb105, 0, none⟩ (.int .i64 ((rd_T54 l0_2 x3_2).f0))).setCell ⟨gb105, 1, none⟩ (.int .i64 ((rd_T54 l0_2 x3_2).f1))).setCell ⟨gb105, 2, none⟩ (.int .i64 ((rd_T54 l0_2 x3_2).f2))).setCell ⟨gb105, 3, none⟩ (.string ((rd_T54 l0_2 x3_2).f3))).heap[gb101]? = some (.cells #[.int .i64 a0_0, .int .i64 a0_1, .slice (some ad104) l0_2.length c0_2] 30 (0, 0))) := ⟨by (with_reducible repeat (first | refine blk_drewN ?_ _ | refine blk_drew ?_ | refine blk_alloc ?_ _)); refine blk_far ?_ NB101_105.out _; (with_reducible repeat (first | refine blk_drewN ?_ _ | refine blk_drew ?_ | refine blk_alloc ?_ _)); refine blk_far ?_ NB101_105.out _; (with_reducible repeat (first | refine blk_drewN ?_ _ | refine blk_drew ?_ | refine blk_alloc ?_ _)); refine blk_far ?_ NB101_105.out _; (with_reducible repeat (first | refine blk_drewN ?_ _ | refine blk_drew ?_ | refine blk_alloc ?_ _)); refine blk_far ?_ NB101_105.out _; (with_reducible repeat (first | refine blk_drewN ?_ _ | refine blk_drew ?_ | refine blk_alloc ?_ _)); exact BK101.out⟩
         have n1_ : Aside0 (((((w16.setCell ⟨gb105, 0, none⟩ (.int .i64 ((rd_T54 l0_2 x3_2).f0))).setCell ⟨gb105, 1, none⟩ (.int .i64 ((rd_T54 l0_2 x3_2).f1))).setCell ⟨gb105, 2, none⟩ (.int .i64 ((rd_T54 l0_2 x3_2).f2))).setCell ⟨gb105, 3, none⟩ (.string ((rd_T54 l0_2 x3_2).f3))).heap[gb105]? = some (.cells #[.int .i64 ((rd_T54 l0_2 x3_2).f0), .int .i64 ((rd_T54 l0_2 x3_2).f1), .int .i64 ((rd_T54 l0_2 x3_2).f2), .string ((rd_T54 l0_2 x3_2).f3)] 54 (0, 0))) := ⟨by (with_reducible repeat (first | refine blk_drewN ?_ _ | refine blk_drew ?_ | refine blk_alloc ?_ _)); refine blk_put (cs := #[.int .i64 ((rd_T54 l0_2 x3_2).f0), .int .i64 ((rd_T54 l0_2 x3_2).f1), .int .i64 ((rd_T54 l0_2 x3_2).f2), .string (⟨#[]⟩ : ByteArray)]) ?_ 3 _ rfl; (with_reducible repeat (first | refine blk_drewN ?_ _ | refine blk_drew ?_ | refine blk_alloc ?_ _)); refine blk_put (cs := #[.int .i64 ((rd_T54 l0_2 x3_2).f0), .int .i64 ((rd_T54 l0_2 x3_2).f1), .int .i64 0, .string (⟨#[]⟩ : ByteArray)]) ?_ 2 _ rfl; (with_reducible repeat (first | refine blk_drewN ?_ _ | refine blk_drew ?_ | refine blk_alloc ?_ _)); refine blk_put (cs := #[.int .i64 ((rd_T54 l0_2 x3_2).f0), .int .i64 0, .int .i64 0, .string (⟨#[]⟩ : ByteArray)]) ?_ 1 _ rfl; (with_reducible repeat (first | refine blk_drewN ?_ _ | refine blk_drew ?_ | refine blk_alloc ?_ _)); refine blk_put (cs := #[.int .i64 0, .int .i64 0, .int .i64 0, .string (⟨#[]⟩ : ByteArray)]) ?_ 0 _ rfl; (with_reducible repeat (first | refine blk_drewN ?_ _ | refine blk_drew ?_ | refine blk_alloc ?_ _)); exact BK105.out⟩
         have n2_ : Aside0 (Below w.heap.size w ((((w16.setCell ⟨gb105, 0, none⟩ (.int .i64 ((rd_T54 l0_2 x3_2).f0))).setCell ⟨gb105, 1, none⟩ (.int .i64 ((rd_T54 l0_2 x3_2).f1))).setCell ⟨gb105, 2, none⟩ (.int .i64 ((rd_T54 l0_2 x3_2).f2))).setCell ⟨gb105, 3, none⟩ (.string ((rd_T54 l0_2 x3_2).f3)))) := ⟨by repeat (first | (with_reducible first | exact HB.out | apply below_alloc | apply pw_below_drewN | apply below_drew1 | refine below_set ?_ GE101.out | refine below_set ?_ GE105.out) | exact HB.out)⟩
         (try clear BK101)
         (try clear BK105)
         (try clear HB)
         generalize ((((w16.setCell ⟨gb105, 0, none⟩ (.int .i64 ((rd_T54 l0_2 x3_2).f0))).setCell ⟨gb105, 1, none⟩ (.int .i64 ((rd_T54 l0_2 x3_2).f1))).setCell ⟨gb105, 2, none⟩ (.int .i64 ((rd_T54 l0_2 x3_2).f2))).setCell ⟨gb105, 3, none⟩ (.string ((rd_T54 l0_2 x3_2).f3))) = w34 at n0_ n1_ n2_ ⊢
         have BK101 := n0_
         have BK105 := n1_
         have HB := n2_
         clear n0_ n1_ n2_
         replace BK101 := am (blk_drew BK101.out)
         replace BK105 := am (blk_drew BK105.out)
         replace HB := am (below_drew1 HB.out)
         refine start_ (n := 40) (S := fun w' => w'.cell? ⟨gb105, 0, none⟩ = some (.int .i64 ((rd_T54 l0_2 x3_2).f0)) ∧ w'.cell? ⟨gb105, 1, none⟩ = some (.int .i64 ((rd_T54 l0_2 x3_2).f1)) ∧ w'.cell? ⟨gb105, 2, none⟩ = some (.int .i64 ((rd_T54 l0_2 x3_2).f2)) ∧ w'.cell? ⟨gb105, 3, none⟩ = some (.string ((rd_T54 l0_2 x3_2).f3)) ∧ w'.cell? ⟨gb101, 0, none⟩ = some (.int .i64 a0_0) ∧ w'.cell? ⟨gb101, 1, none⟩ = some (.int .i64 a0_1) ∧ w'.cell? ⟨gb101, 2, none⟩ = some (.slice (some ad104) l0_2.length c0_2)) (ds := []) b0_40 kr rfl rfl ⟨(blk_cell BK105.out 0).trans rfl, (blk_cell BK105.out 1).trans rfl, (blk_cell BK105.out 2).trans rfl, (blk_cell BK105.out 3).trans rfl, (blk_cell BK101.out 0).trans rfl, (blk_cell BK101.out 1).trans rfl, (blk_cell BK101.out 2).trans rfl⟩ (fun hHeld => ?_); refine with_tabW spec_SessionsOk.tab7 spec_SessionsOk.bits7 (fun HT_ HW_ => ?_)
         generalize w34.drew = w35 at BK101 BK105 HB hHeld ⊢
         refine pV 0 36 (bt 1 40) ?_
         refine tV 1 37 (bt 2 40) ?_
         refine one_ (i := 2) (N := some 38) b3_40 rfl rfl (one_of HT_.out kr) (by decide) (fun K hK => ?_)
         refine goes_ Tryd.func50 kr rfl #[.int .i64 ((rd_T54 l0_2 x3_2).f0), .int .i64 1, .int .i64 999] (by rfl) rfl rfl q1 ?_
         with_reducible refine (spec_l01In.calls ((rd_T54 l0_2 x3_2).f0) 1 999 true _ A19.out).mono ?_
         rintro e w' ⟨rfl, ⟨nd, rfl⟩⟩
         refine ⟨_, rfl, ?_⟩
         refine hK.out _ _ ⟨(blk_cell BK105.out 0).trans rfl, (blk_cell BK105.out 1).trans rfl, (blk_cell BK105.out 2).trans rfl, (blk_cell BK105.out 3).trans rfl, (blk_cell BK101.out 0).trans rfl, (blk_cell BK101.out 1).trans rfl, (blk_cell BK101.out 2).trans rfl⟩ (fun hHeld => ?_)
         clear hK K
         refine norm_ (a' := ?_) ?_ ?_
         rotate_left
         · show Act.put _ (some 38) _ = _
           simp only [Act.put, la, lb, lc, i64_w, i32_w]
           rfl
         refine pV 3 39 (bt 4 40) ?_
         refine pV 4 40 (bt 5 40) ?_
         refine pV 5 41 (bt 6 40) ?_
         refine tV 6 42 (bt 7 40) ?_
         refine one_ (i := 7) (N := some 43) b8_40 rfl rfl (one_of HT_.out kr) (by decide) (fun K hK => ?_)
         refine goes_ Tryd.func50 kr rfl #[.int .i64 ((rd_T54 l0_2 x3_2).f1), .int .i64 1, .int .i64 1000000] (by rfl) rfl rfl q1 ?_
         with_reducible refine (spec_l01In.calls ((rd_T54 l0_2 x3_2).f1) 1 1000000 true _ A21.out).mono ?_
         rintro e w' ⟨rfl, ⟨nd, rfl⟩⟩
         refine ⟨_, rfl, ?_⟩
         refine hK.out _ _ ⟨(blk_cell BK105.out 0).trans rfl, (blk_cell BK105.out 1).trans rfl, (blk_cell BK105.out 2).trans rfl, (blk_cell BK105.out 3).trans rfl, (blk_cell BK101.out 0).trans rfl, (blk_cell BK101.out 1).trans rfl, (blk_cell BK101.out 2).trans rfl⟩ (fun hHeld => ?_)
         clear hK K
         refine norm_ (a' := ?_) ?_ ?_
         rotate_left
         · show Act.put _ (some 43) _ = _
           simp only [Act.put, la, lb, lc, i64_w, i32_w]
           rfl
         refine pV 8 44 (bt 9 40) ?_
         refine pV 9 45 (bt 10 40) ?_
         refine pV 10 46 (bt 11 40) ?_
         refine pV 11 47 (bt 12 40) ?_
         refine pV 13 49 bx121 ?_
         refine tV 12 48 (bt 14 40) ?_
         refine tV 14 50 (bt 15 40) ?_
         refine one_ (i := 15) (N := some 51) b16_40 rfl rfl (one_of HT_.out kr) (by decide) (fun K hK => ?_)
         refine goes_ Tryd.func50 kr rfl #[.int .i64 ((rd_T54 l0_2 x3_2).f2), .int .i64 1, .int .i64 a0_1] (by rfl) rfl rfl q1 ?_
         with_reducible refine (spec_l01In.calls ((rd_T54 l0_2 x3_2).f2) 1 a0_1 true _ A23.out).mono ?_
         rintro e w' ⟨rfl, ⟨nd, rfl⟩⟩
         refine ⟨_, rfl, ?_⟩
         refine hK.out _ _ ⟨(blk_cell BK105.out 0).trans rfl, (blk_cell BK105.out 1).trans rfl, (blk_cell BK105.out 2).trans rfl, (blk_cell BK105.out 3).trans rfl, (blk_cell BK101.out 0).trans rfl, (blk_cell BK101.out 1).trans rfl, (blk_cell BK101.out 2).trans rfl⟩ (fun hHeld => ?_)
         clear hK K
         refine norm_ (a' := ?_) ?_ ?_
         rotate_left
         · show Act.put _ (some 51) _ = _
           simp only [Act.put, la, lb, lc, i64_w, i32_w]
           rfl
         refine pV 16 52 (bt 17 40) ?_
         refine pV 17 53 (bt 18 40) ?_
         refine pV 18 54 (bt 19 40) ?_
         refine pV 19 55 (bt 20 40) ?_
         refine tV 20 56 (bt 21 40) ?_
         refine pV 21 57 (bt 22 40) ?_
         refine pV 22 58 (bt 23 40) ?_
         refine pV 23 59 (bt 24 40) ?_
         refine pV 24 60 (bt 25 40) ?_
         refine pV 25 61 (bt 26 40) ?_
         refine pV 26 62 (bt 27 40) ?_
         refine pV 27 63 (bt 28 40) ?_
         refine pU 28 64 (bt 29 40) ?_
         refine pU 29 65 (bt 30 40) ?_
         refine pU 30 66 (bt 31 40) ?_
         refine pU 31 67 (bt 32 40) ?_
         refine pU 32 68 (bt 33 40) ?_
         refine pU 33 69 (bt 34 40) ?_
         refine pU 34 70 (bt 35 40) ?_
         refine pU 35 71 (bt 36 40) ?_
         refine pU 36 72 (bt 37 40) ?_
         refine pU 37 73 (bt 38 40) ?_
         refine pV 38 74 (bt 39 40) ?_
         refine pV 39 75 (bt 40 40) ?_
         refine done_ (done_of HT_.out kr) ?_
         try go_wp2
         go_meet
         case rel => exact ⟨_, (false), q4, H', ⟨q2⟩, ⟨u2_2⟩, ⟨u2_4⟩, ⟨q0⟩⟩
       rw [if_pos c28] at H
       have c28b0 : decide (0 < x3_2) = true := decide_eq_true c28
       clear c28
       obtain ⟨ji29, hji29⟩ : ∃ j_ : Int, (wrap64 (x3_2 - 1)) = j_ := ⟨_, rfl⟩
       replace H : (if 0 ≤ (ji29) then (if (ji29) < (l0_2.length : Int) then (spec_SessionsOk.j2 k2 x3_2 (decide (((rd_T54 l0_2 (ji29)).f0) ≥ ((rd_T54 l0_2 x3_2).f0))) a0_0 a0_1 l0_2 ((rd_T54 l0_2 x3_2).f0) ((rd_T54 l0_2 x3_2).f1) ((rd_T54 l0_2 x3_2).f2) ((rd_T54 l0_2 x3_2).f3)) else (none)) else (none)) = some r := by first | (rw [hji29] at H; exact H) | (simp only [hji29] at H ⊢; exact H)
       (try rw [hji29] at A19)
       (try rw [hji29] at A21)
       (try rw [hji29] at A23)
       have hji29w : (IntKind.i64.wrap (x3_2 - 1)) = ji29 := (i64_w _).trans hji29
       by_cases c30 : 0 ≤ (ji29)
       rotate_left
       · rw [if_neg c30] at H
         exact absurd H (by simp)
       rw [if_pos c30] at H
       have c30b0 : decide (0 ≤ (ji29)) = true := decide_eq_true c30
       clear c30
       by_cases c31 : (ji29) < (l0_2.length : Int)
       rotate_left
       · rw [if_neg c31] at H
         exact absurd H (by simp)
       rw [if_pos c31] at H
       have c31b0 : decide ((ji29) < (l0_2.length : Int)) = true := decide_eq_true c31
       clear c31
       have H' := am H
       clear H
       try go_wp2
       have n0_ : Aside0 (((((w16.setCell ⟨gb105, 0, none⟩ (.int .i64 ((rd_T54 l0_2 x3_2).f0))).setCell ⟨gb105, 1, none⟩ (.int .i64 ((rd_T54 l0_2 x3_2).f1))).setCell ⟨gb105, 2, none⟩ (.int .i64 ((rd_T54 l0_2 x3_2).f2))).setCell ⟨gb105, 3, none⟩ (.string ((rd_T54 l0_2 x3_2).f3))).heap[gb101]? = some (.cells #[.int .i64 a0_0, .int .i64 a0_1, .slice (some ad104) l0_2.length c0_2] 30 (0, 0))) := ⟨by (with_reducible repeat (first | refine blk_drewN ?_ _ | refine blk_drew ?_ | refine blk_alloc ?_ _)); refine blk_far ?_ NB101_105.out _; (with_reducible repeat (first | refine blk_drewN ?_ _ | refine blk_drew ?_ | refine blk_alloc ?_ _)); refine blk_far ?_ NB101_105.out _; (with_reducible repeat (first | refine blk_drewN ?_ _ | refine blk_drew ?_ | refine blk_alloc ?_ _)); refine blk_far ?_ NB101_105.out _; (with_reducible repeat (first | refine blk_drewN ?_ _ | refine blk_drew ?_ | refine blk_alloc ?_ _)); refine blk_far ?_ NB101_105.out _; (with_reducible repeat (first | refine blk_drewN ?_ _ | refine blk_drew ?_ | refine blk_alloc ?_ _)); exact BK101.out⟩
       have n1_ : Aside0 (((((w16.setCell ⟨gb105, 0, none⟩ (.int .i64 ((rd_T54 l0_2 x3_2).f0))).setCell ⟨gb105, 1, none⟩ (.int .i64 ((rd_T54 l0_2 x3_2).f1))).setCell ⟨gb105, 2, none⟩ (.int .i64 ((rd_T54 l0_2 x3_2).f2))).setCell ⟨gb105, 3, none⟩ (.string ((rd_T54 l0_2 x3_2).f3))).heap[gb105]? = some (.cells #[.int .i64 ((rd_T54 l0_2 x3_2).f0), .int .i64 ((rd_T54 l0_2 x3_2).f1), .int .i64 ((rd_T54 l0_2 x3_2).f2), .string ((rd_T54 l0_2 x3_2).f3)] 54 (0, 0))) := ⟨by (with_reducible repeat (first | refine blk_drewN ?_ _ | refine blk_drew ?_ | refine blk_alloc ?_ _)); refine blk_put (cs := #[.int .i64 ((rd_T54 l0_2 x3_2).f0), .int .i64 ((rd_T54 l0_2 x3_2).f1), .int .i64 ((rd_T54 l0_2 x3_2).f2), .string (⟨#[]⟩ : ByteArray)]) ?_ 3 _ rfl; (with_reducible repeat (first | refine blk_drewN ?_ _ | refine blk_drew ?_ | refine blk_alloc ?_ _)); refine blk_put (cs := #[.int .i64 ((rd_T54 l0_2 x3_2).f0), .int .i64 ((rd_T54 l0_2 x3_2).f1), .int .i64 0, .string (⟨#[]⟩ : ByteArray)]) ?_ 2 _ rfl; (with_reducible repeat (first | refine blk_drewN ?_ _ | refine blk_drew ?_ | refine blk_alloc ?_ _)); refine blk_put (cs := #[.int .i64 ((rd_T54 l0_2 x3_2).f0), .int .i64 0, .int .i64 0, .string (⟨#[]⟩ : ByteArray)]) ?_ 1 _ rfl; (with_reducible repeat (first | refine blk_drewN ?_ _ | refine blk_drew ?_ | refine blk_alloc ?_ _)); refine blk_put (cs := #[.int .i64 0, .int .i64 0, .int .i64 0, .string (⟨#[]⟩ : ByteArray)]) ?_ 0 _ rfl; (with_reducible repeat (first | refine blk_drewN ?_ _ | refine blk_drew ?_ | refine blk_alloc ?_ _)); exact BK105.out⟩
       have n2_ : Aside0 (Below w.heap.size w ((((w16.setCell ⟨gb105, 0, none⟩ (.int .i64 ((rd_T54 l0_2 x3_2).f0))).setCell ⟨gb105, 1, none⟩ (.int .i64 ((rd_T54 l0_2 x3_2).f1))).setCell ⟨gb105, 2, none⟩ (.int .i64 ((rd_T54 l0_2 x3_2).f2))).setCell ⟨gb105, 3, none⟩ (.string ((rd_T54 l0_2 x3_2).f3)))) := ⟨by repeat (first | (with_reducible first | exact HB.out | apply below_alloc | apply pw_below_drewN | apply below_drew1 | refine below_set ?_ GE101.out | refine below_set ?_ GE105.out) | exact HB.out)⟩
       (try clear BK101)
       (try clear BK105)
       (try clear HB)
       generalize ((((w16.setCell ⟨gb105, 0, none⟩ (.int .i64 ((rd_T54 l0_2 x3_2).f0))).setCell ⟨gb105, 1, none⟩ (.int .i64 ((rd_T54 l0_2 x3_2).f1))).setCell ⟨gb105, 2, none⟩ (.int .i64 ((rd_T54 l0_2 x3_2).f2))).setCell ⟨gb105, 3, none⟩ (.string ((rd_T54 l0_2 x3_2).f3))) = w32 at n0_ n1_ n2_ ⊢
       have BK101 := n0_
       have BK105 := n1_
       have HB := n2_
       clear n0_ n1_ n2_
       replace BK101 := am (blk_drew BK101.out)
       replace BK105 := am (blk_drew BK105.out)
       replace HB := am (below_drew1 HB.out)
       have p109 : 0 ≤ ((ji29) : Int) := of_decide_eq_true q3
       have q109 : (ji29) < (l0_2.length : Int) := of_decide_eq_true q3
       obtain ⟨ad109, e109, hx109_0, hx109_1, hx109_2, hx109_3⟩ := at_T54 HR0_2.out (ji29) p109 q109
       have hw109_3 := hx109_3
       have hw109_2 := hx109_2
       have hw109_1 := hx109_1
       have hw109_0 := hx109_0
       obtain rfl : ad104 = ad109 := (by injection e109)
       replace hx109_0 := cm HB.out hx109_0
       replace hx109_1 := cm HB.out hx109_1
       replace hx109_2 := cm HB.out hx109_2
       replace hx109_3 := cm HB.out hx109_3
       replace p109 := eq_true p109
       replace q109 := eq_true q109
       refine start_ (n := 40) (S := fun w' => w'.cell? ⟨gb105, 0, none⟩ = some (.int .i64 ((rd_T54 l0_2 x3_2).f0)) ∧ w'.cell? ⟨gb105, 1, none⟩ = some (.int .i64 ((rd_T54 l0_2 x3_2).f1)) ∧ w'.cell? ⟨gb105, 2, none⟩ = some (.int .i64 ((rd_T54 l0_2 x3_2).f2)) ∧ w'.cell? ⟨gb105, 3, none⟩ = some (.string ((rd_T54 l0_2 x3_2).f3)) ∧ w'.cell? ⟨gb101, 0, none⟩ = some (.int .i64 a0_0) ∧ w'.cell? ⟨gb101, 1, none⟩ = some (.int .i64 a0_1) ∧ w'.cell? ⟨gb101, 2, none⟩ = some (.slice (some ad104) l0_2.length c0_2) ∧ w'.cell? (ad104.add (((ji29)).toNat * 4)) = some (.int .i64 ((rd_T54 l0_2 (ji29)).f0)) ∧ w'.cell? ⟨(ad104.add (((ji29)).toNat * 4)).block, (ad104.add (((ji29)).toNat * 4)).off + 1, none⟩ = some (.int .i64 ((rd_T54 l0_2 (ji29)).f1)) ∧ w'.cell? ⟨(ad104.add (((ji29)).toNat * 4)).block, (ad104.add (((ji29)).toNat * 4)).off + 2, none⟩ = some (.int .i64 ((rd_T54 l0_2 (ji29)).f2)) ∧ w'.cell? ⟨(ad104.add (((ji29)).toNat * 4)).block, (ad104.add (((ji29)).toNat * 4)).off + 3, none⟩ = some (.string ((rd_T54 l0_2 (ji29)).f3))) (ds := []) b0_40 kr rfl rfl ⟨(blk_cell BK105.out 0).trans rfl, (blk_cell BK105.out 1).trans rfl, (blk_cell BK105.out 2).trans rfl, (blk_cell BK105.out 3).trans rfl, (blk_cell BK101.out 0).trans rfl, (blk_cell BK101.out 1).trans rfl, (blk_cell BK101.out 2).trans rfl, (cm HB.out hw109_0), (cm HB.out hw109_1), (cm HB.out hw109_2), (cm HB.out hw109_3)⟩ (fun hHeld => ?_); refine with_tabW spec_SessionsOk.tab7 spec_SessionsOk.bits7 (fun HT_ HW_ => ?_)
       generalize w32.drew = w33 at BK101 BK105 HB hx109_0 hx109_1 hx109_2 hx109_3 hHeld ⊢
       refine pV 0 36 (bt 1 40) ?_
       refine tV 1 37 (bt 2 40) ?_
       refine one_ (i := 2) (N := some 38) b3_40 rfl rfl (one_of HT_.out kr) (by decide) (fun K hK => ?_)
       refine goes_ Tryd.func50 kr rfl #[.int .i64 ((rd_T54 l0_2 x3_2).f0), .int .i64 1, .int .i64 999] (by rfl) rfl rfl q1 ?_
       with_reducible refine (spec_l01In.calls ((rd_T54 l0_2 x3_2).f0) 1 999 true _ A19.out).mono ?_
       rintro e w' ⟨rfl, ⟨nd, rfl⟩⟩
       refine ⟨_, rfl, ?_⟩
       refine hK.out _ _ ⟨(blk_cell BK105.out 0).trans rfl, (blk_cell BK105.out 1).trans rfl, (blk_cell BK105.out 2).trans rfl, (blk_cell BK105.out 3).trans rfl, (blk_cell BK101.out 0).trans rfl, (blk_cell BK101.out 1).trans rfl, (blk_cell BK101.out 2).trans rfl, (cm HB.out hw109_0), (cm HB.out hw109_1), (cm HB.out hw109_2), (cm HB.out hw109_3)⟩ (fun hHeld => ?_)
       clear hK K
       refine norm_ (a' := ?_) ?_ ?_
       rotate_left
       · show Act.put _ (some 38) _ = _
         simp only [Act.put, la, lb, lc, i64_w, i32_w]
         rfl
       refine pV 3 39 (bt 4 40) ?_
       refine pV 4 40 (bt 5 40) ?_
       refine pV 5 41 (bt 6 40) ?_
       refine tV 6 42 (bt 7 40) ?_
       refine one_ (i := 7) (N := some 43) b8_40 rfl rfl (one_of HT_.out kr) (by decide) (fun K hK => ?_)
       refine goes_ Tryd.func50 kr rfl #[.int .i64 ((rd_T54 l0_2 x3_2).f1), .int .i64 1, .int .i64 1000000] (by rfl) rfl rfl q1 ?_
       with_reducible refine (spec_l01In.calls ((rd_T54 l0_2 x3_2).f1) 1 1000000 true _ A21.out).mono ?_
       rintro e w' ⟨rfl, ⟨nd, rfl⟩⟩
       refine ⟨_, rfl, ?_⟩
       refine hK.out _ _ ⟨(blk_cell BK105.out 0).trans rfl, (blk_cell BK105.out 1).trans rfl, (blk_cell BK105.out 2).trans rfl, (blk_cell BK105.out 3).trans rfl, (blk_cell BK101.out 0).trans rfl, (blk_cell BK101.out 1).trans rfl, (blk_cell BK101.out 2).trans rfl, (cm HB.out hw109_0), (cm HB.out hw109_1), (cm HB.out hw109_2), (cm HB.out hw109_3)⟩ (fun hHeld => ?_)
       clear hK K
       refine norm_ (a' := ?_) ?_ ?_
       rotate_left
       · show Act.put _ (some 43) _ = _
         simp only [Act.put, la, lb, lc, i64_w, i32_w]
         rfl
       refine pV 8 44 (bt 9 40) ?_
       refine pV 9 45 (bt 10 40) ?_
       refine pV 10 46 (bt 11 40) ?_
       refine pV 11 47 (bt 12 40) ?_
       refine pV 13 49 bx121 ?_
       refine tV 12 48 (bt 14 40) ?_
       refine tV 14 50 (bt 15 40) ?_
       refine one_ (i := 15) (N := some 51) b16_40 rfl rfl (one_of HT_.out kr) (by decide) (fun K hK => ?_)
       refine goes_ Tryd.func50 kr rfl #[.int .i64 ((rd_T54 l0_2 x3_2).f2), .int .i64 1, .int .i64 a0_1] (by rfl) rfl rfl q1 ?_
       with_reducible refine (spec_l01In.calls ((rd_T54 l0_2 x3_2).f2) 1 a0_1 true _ A23.out).mono ?_
       rintro e w' ⟨rfl, ⟨nd, rfl⟩⟩
       refine ⟨_, rfl, ?_⟩
       refine hK.out _ _ ⟨(blk_cell BK105.out 0).trans rfl, (blk_cell BK105.out 1).trans rfl, (blk_cell BK105.out 2).trans rfl, (blk_cell BK105.out 3).trans rfl, (blk_cell BK101.out 0).trans rfl, (blk_cell BK101.out 1).trans rfl, (blk_cell BK101.out 2).trans rfl, (cm HB.out hw109_0), (cm HB.out hw109_1), (cm HB.out hw109_2), (cm HB.out hw109_3)⟩ (fun hHeld => ?_)
       clear hK K
       refine norm_ (a' := ?_) ?_ ?_
       rotate_left
       · show Act.put _ (some 51) _ = _
         simp only [Act.put, la, lb, lc, i64_w, i32_w]
         rfl
       refine pV 16 52 (bt 17 40) ?_
       refine pV 17 53 (bt 18 40) ?_
       refine pV 18 54 (bt 19 40) ?_
       refine pV 19 55 (bt 20 40) ?_
       refine tV 20 56 (bt 21 40) ?_
       refine pV 21 57 (bt 22 40) ?_
       refine pV 22 58 (bt 23 40) ?_
       refine pV 23 59 (bt 24 40) ?_
       refine pV 24 60 (bt 25 40) ?_
       refine pV 25 61 (bt 26 40) ?_
       refine pV 26 62 (bt 27 40) ?_
       refine pV 27 63 (bt 28 40) ?_
       refine pV 28 64 (bt 29 40) ?_
       refine pV 30 66 #[true, true, true, true, true, true, true, true, true, true, true, true, true, true, true, true, true, true, true, true, true, true, true, true, true, true, true, true, true, false, true, false, false, false, false, false, false, false, false, false] ?_
       refine pV 31 67 #[true, true, true, true, true, true, true, true, true, true, true, true, true, true, true, true, true, true, true, true, true, true, true, true, true, true, true, true, true, false, true, true, false, false, false, false, false, false, false, false] ?_
       refine pV 35 71 #[true, true, true, true, true, true, true, true, true, true, true, true, true, true, true, true, true, true, true, true, true, true, true, true, true, true, true, true, true, false, true, true, false, false, false, true, false, false, false, false] ?_
       refine tV 29 65 #[true, true, true, true, true, true, true, true, true, true, true, true, true, true, true, true, true, true, true, true, true, true, true, true, true, true, true, true, true, true, true, true, false, false, false, true, false, false, false, false] ?_
       refine pV 32 68 #[true, true, true, true, true, true, true, true, true, true, true, true, true, true, true, true, true, true, true, true, true, true, true, true, true, true, true, true, true, true, true, true, true, false, false, true, false, false, false, false] ?_
       refine pV 33 69 #[true, true, true, true, true, true, true, true, true, true, true, true, true, true, true, true, true, true, true, true, true, true, true, true, true, true, true, true, true, true, true, true, true, true, false, true, false, false, false, false] ?_
       refine tV 34 70 (bt 36 40) ?_
       refine tV 36 72 (bt 37 40) ?_
       refine pV 37 73 (bt 38 40) ?_
       refine pV 38 74 (bt 39 40) ?_
       refine pV 39 75 (bt 40 40) ?_
       refine done_ (done_of HT_.out kr) ?_
       try go_wp2
       go_meet
       case rel => exact ⟨_, (decide (((rd_T54 l0_2 (ji29)).f0) ≥ ((rd_T54 l0_2 x3_2).f0))), (by first | rfl | (simp; done) | (simp only [← hji29] <;> (first | rfl | simp)) | (simp [*]; done)), H', ⟨q2⟩, ⟨u2_2⟩, ⟨u2_4⟩, ⟨q0⟩⟩
     clear HC14
     obtain ⟨kq, x75_13, rfl, HA, HJ13, BK101, BK105, HB⟩ := hcut
     cases kq with
     | zero => exact absurd HA.out (by simp [spec_SessionsOk.j2])
     | succ kj13 =>
       have H := HA.out
       clear HA
       simp only [spec_SessionsOk.j2] at H
       by_cases c42 : x75_13 = true
       · subst c42
         rw [if_pos rfl] at H
         obtain rfl := sj H
         go_wp2
         go_ret
         exact ⟨er, q0⟩
       replace c42 := Bool.eq_false_iff.mpr c42
       subst c42
       rw [nf] at H
       have H' := am H
       clear H
       go_wp2
       go_loopg [5] kj13 (fun kq v5 w' => ∃ (x5_4 : Int), v5 = .int .i64 x5_4 ∧ Aside0 (spec_SessionsOk.l1 kq x3_2 x5_4 a0_0 a0_1 l0_2 ((rd_T54 l0_2 x3_2).f0) ((rd_T54 l0_2 x3_2).f1) ((rd_T54 l0_2 x3_2).f2) ((rd_T54 l0_2 x3_2).f3) = some r) ∧ Aside0 (kq ≤ kj13) ∧ Aside0 (w'.heap[gb101]? = some (.cells #[.int .i64 a0_0, .int .i64 a0_1, (.slice (some ad104) l0_2.length c0_2)] 30 (0, 0))) ∧ Aside0 (w'.heap[gb105]? = some (.cells #[.int .i64 ((rd_T54 l0_2 x3_2).f0), .int .i64 ((rd_T54 l0_2 x3_2).f1), .int .i64 ((rd_T54 l0_2 x3_2).f2), .string ((rd_T54 l0_2 x3_2).f3)] 54 (0, 0))) ∧ Aside0 (Below w.heap.size w w'))
       case atStart => exact ⟨(0), q4, H', ⟨Nat.le_refl _⟩, ⟨u2_2⟩, ⟨u2_4⟩, ⟨q0⟩⟩
       clear H'
       try clear c42
       obtain ⟨x5_4, rfl, HA, HK4, BK101, BK105, HB⟩ := hrel
       cases gk with
       | zero => exact absurd HA.out (by simp [spec_SessionsOk.l1])
       | succ k4 =>
         have H := HA.out
         clear HA
         simp only [spec_SessionsOk.l1] at H
         by_cases c43 : x5_4 < x3_2
         rotate_left
         · rw [if_neg c43] at H
           have c43b0 : decide (x5_4 < x3_2) = false := decide_eq_false c43
           clear c43
           have H' := am H
           clear H
           go_wp2
           go_roundg k4
           case measure => have := HJ1.out; have := HK2.out; have := HJ13.out; have := HK4.out; omega
           case rel => exact ⟨(wrap64 (x3_2 + 1)), q4, H', ⟨u2_9⟩, ⟨u2_2⟩, ⟨q0⟩⟩
         rw [if_pos c43] at H
         have c43b0 : decide (x5_4 < x3_2) = true := decide_eq_true c43
         clear c43
         by_cases c44 : 0 ≤ x5_4
         rotate_left
         · rw [if_neg c44] at H
           exact absurd H (by simp)
         rw [if_pos c44] at H
         have c44b0 : decide (0 ≤ x5_4) = true := decide_eq_true c44
         clear c44
         by_cases c45 : x5_4 < (l0_2.length : Int)
         rotate_left
         · rw [if_neg c45] at H
           exact absurd H (by simp)
         rw [if_pos c45] at H
         have c45b0 : decide (x5_4 < (l0_2.length : Int)) = true := decide_eq_true c45
         clear c45
         have H9 := am H
         clear H
         try go_wp2
         replace BK101 := am (blk_drew BK101.out)
         replace BK105 := am (blk_drew BK105.out)
         replace HB := am (below_drew1 HB.out)
         have p110 : 0 ≤ (x5_4 : Int) := of_decide_eq_true q3
         have q110 : x5_4 < (l0_2.length : Int) := of_decide_eq_true q3
         obtain ⟨ad110, e110, hx110_0, hx110_1, hx110_2, hx110_3⟩ := at_T54 HR0_2.out x5_4 p110 q110
         have hw110_3 := hx110_3
         have hw110_2 := hx110_2
         have hw110_1 := hx110_1
         have hw110_0 := hx110_0
         obtain rfl : ad104 = ad110 := (by injection e110)
         replace hx110_0 := cm HB.out hx110_0
         replace hx110_1 := cm HB.out hx110_1
         replace hx110_2 := cm HB.out hx110_2
         replace hx110_3 := cm HB.out hx110_3
         replace p110 := eq_true p110
         replace q110 := eq_true q110
         refine start_ (n := 9) (S := fun w' => w'.cell? ⟨gb101, 0, none⟩ = some (.int .i64 a0_0) ∧ w'.cell? ⟨gb101, 1, none⟩ = some (.int .i64 a0_1) ∧ w'.cell? ⟨gb101, 2, none⟩ = some (.slice (some ad104) l0_2.length c0_2) ∧ w'.cell? ⟨gb105, 0, none⟩ = some (.int .i64 ((rd_T54 l0_2 x3_2).f0)) ∧ w'.cell? ⟨gb105, 1, none⟩ = some (.int .i64 ((rd_T54 l0_2 x3_2).f1)) ∧ w'.cell? ⟨gb105, 2, none⟩ = some (.int .i64 ((rd_T54 l0_2 x3_2).f2)) ∧ w'.cell? ⟨gb105, 3, none⟩ = some (.string ((rd_T54 l0_2 x3_2).f3)) ∧ w'.cell? (ad104.add ((x5_4).toNat * 4)) = some (.int .i64 ((rd_T54 l0_2 x5_4).f0)) ∧ w'.cell? ⟨(ad104.add ((x5_4).toNat * 4)).block, (ad104.add ((x5_4).toNat * 4)).off + 1, none⟩ = some (.int .i64 ((rd_T54 l0_2 x5_4).f1)) ∧ w'.cell? ⟨(ad104.add ((x5_4).toNat * 4)).block, (ad104.add ((x5_4).toNat * 4)).off + 2, none⟩ = some (.int .i64 ((rd_T54 l0_2 x5_4).f2)) ∧ w'.cell? ⟨(ad104.add ((x5_4).toNat * 4)).block, (ad104.add ((x5_4).toNat * 4)).off + 3, none⟩ = some (.string ((rd_T54 l0_2 x5_4).f3))) (ds := []) #[false, false, false, false, false, false, false, false, false] kr rfl rfl ⟨(blk_cell BK101.out 0).trans rfl, (blk_cell BK101.out 1).trans rfl, (blk_cell BK101.out 2).trans rfl, (blk_cell BK105.out 0).trans rfl, (blk_cell BK105.out 1).trans rfl, (blk_cell BK105.out 2).trans rfl, (blk_cell BK105.out 3).trans rfl, (cm HB.out hw110_0), (cm HB.out hw110_1), (cm HB.out hw110_2), (cm HB.out hw110_3)⟩ (fun hHeld => ?_); refine with_tabW spec_SessionsOk.tab12 spec_SessionsOk.bits12 (fun HT_ HW_ => ?_)
         generalize wr.drew = w46 at BK101 BK105 HB hx110_0 hx110_1 hx110_2 hx110_3 hHeld ⊢
         refine pV 0 81 (bt 1 9) ?_
         refine pV 2 83 #[true, false, true, false, false, false, false, false, false] ?_
         refine pV 6 87 #[true, false, true, false, false, false, true, false, false] ?_
         refine tV 1 82 #[true, true, true, false, false, false, true, false, false] ?_
         refine pV 3 84 #[true, true, true, true, false, false, true, false, false] ?_
         refine pV 4 85 #[true, true, true, true, true, false, true, false, false] ?_
         refine tV 5 86 (bt 7 9) ?_
         refine tV 7 88 (bt 8 9) ?_
         refine pV 8 89 (bt 9 9) ?_
         refine done_ (done_of HT_.out kr) ?_
         go_upto_if 89 with (fail)
         have H := H9.out
         clear H9
         by_cases c47 : ((rd_T54 l0_2 x5_4).f2) = ((rd_T54 l0_2 x3_2).f2)
         · rw [if_pos c47] at H
           have c47b0 : (((rd_T54 l0_2 x5_4).f2) == ((rd_T54 l0_2 x3_2).f2)) = true := beq_iff_eq.mpr c47
           have c47b1 : (((rd_T54 l0_2 x5_4).f2) != ((rd_T54 l0_2 x3_2).f2)) = false := bne_eq_false_iff_eq.mpr c47
           clear c47
           (first | rw [c47b0] | (simp only [i64_w, i32_w]; rw [c47b0]) | skip)
           obtain rfl := sj H
           go_wp2
           go_ret
           exact ⟨er, q0⟩
         rw [if_neg c47] at H
         have c47b0 : (((rd_T54 l0_2 x5_4).f2) == ((rd_T54 l0_2 x3_2).f2)) = false := beq_eq_false_iff_ne.mpr c47
         have c47b1 : (((rd_T54 l0_2 x5_4).f2) != ((rd_T54 l0_2 x3_2).f2)) = true := bne_iff_ne.mpr c47
         (first | rw [c47b0] | (simp only [i64_w, i32_w]; rw [c47b0]) | skip)
         have H' := am H
         clear H
         go_wp2
         go_roundg k4
         case measure => have := HJ1.out; have := HK2.out; have := HJ13.out; have := HK4.out; omega
         case rel => exact ⟨(wrap64 (x5_4 + 1)), q4, H', ⟨u2_9⟩, ⟨u2_2⟩, ⟨u2_4⟩, ⟨q0⟩⟩

end Go.Proofs.YtjdpifafijcpbaaDoor.QFnOnce
