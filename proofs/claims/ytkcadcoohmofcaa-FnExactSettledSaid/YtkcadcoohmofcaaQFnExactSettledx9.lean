import Derived.Test.YtkcadcoohmofcaaSqFnExactSettled
import Derived.Test.YtkcadcoohmofcaaQFnExactSettledx0
import Derived.Test.YtkcadcoohmofcaaQFnExactSettledx7
namespace Go.Proofs.Ytkcadcoohmofcaa.QFnExactSettled
open Go.RowKit Go.Proofs.YtkcadcoohmofcaaW.PrintWords Go.Proofs.YtkcadcoohmofcaaW.PrintLast Go.Proofs.YtkcadcoohmofcaaW.PrintMore Go.Proofs.Ytkcadcoohmofcaa.SqFnExactSettled
attribute [local go_sem] max2_int min2_int max_two min_two max_three min_three max_four min_four Go.Proofs.Ytkcadcoohmofcaa.Set.isSome_setCell
set_option linter.unusedVariables false
set_option linter.unusedSimpArgs false
theorem u9_5 {P : Prop} (h : P := by (with_reducible repeat (first | apply b1_ | apply b2_ | apply b3_)); exact BK279.out) : P := h
theorem u9_9 {P : Prop} (h : P := by (with_reducible repeat (first | apply b1_ | apply b2_ | apply b3_)); exact BK288.out) : P := h
theorem u9_11 {P : Prop} (h : P := by repeat (first | exact HR0.out | (with_reducible refine Kd.C_alloc ?_ _) | (with_reducible refine Kd.C_drewN ?_ _) | (with_reducible refine Kd.C_drew ?_))) : P := h
mutual
def spec_RLogOk.j0 : Nat → Bool → Int → Int → List (S85) → Option (Bool)
 | 0, _, _, _, _ => none
 | k + 1, x29, x280000, x280001, x280002 => if x29 = true then (some false) else (spec_RLogOk.l0 k x280001 0 x280000 x280001 x280002)
def spec_RLogOk.l0 : Nat → Int → Int → Int → Int → List (S85) → Option (Bool)
 | 0, _, _, _, _, _ => none
 | k + 1, x3, x4, x280000, x280001, x280002 => if x4 < (x280002.length : Int) then (if 0 ≤ x4 then ((spec_l05Entry.f ((rd_T85 x280002 x4).f0) ((rd_T85 x280002 x4).f1)).bind fun t283 => (if t283 = true then (if ((rd_T85 x280002 x4).f0) < x3 then (some false) else (spec_RLogOk.l0 k ((rd_T85 x280002 x4).f0) (wrap64 (x4 + 1)) x280000 x280001 x280002)) else (some false))) else (none)) else (some true)
end
def spec_RLogOk.f (k : Nat) (a0_0 : Int) (a0_1 : Int) (l0_2 : List (S85)) : Option (Bool) := (spec_l01In.f a0_0 0 1000000).bind fun t280 => (if t280 = true then ((spec_l01In.f a0_1 0 1000000).bind fun t281 => (if t281 = true then (if ((a0_0 == 0) != (a0_1 == 0)) = true then (spec_RLogOk.j0 k true a0_0 a0_1 l0_2) else (spec_RLogOk.j0 k (decide ((l0_2.length : Int) > 60)) a0_0 a0_1 l0_2)) else (spec_RLogOk.j0 k true a0_0 a0_1 l0_2))) else (spec_RLogOk.j0 k true a0_0 a0_1 l0_2))
theorem spec_RLogOk.mono_l : ∀ k, (∀ y0 y1 y2 y3, LeO (spec_RLogOk.j0 k y0 y1 y2 y3) (spec_RLogOk.j0 (k + 1) y0 y1 y2 y3)) ∧ (∀ y0 y1 y2 y3 y4, LeO (spec_RLogOk.l0 k y0 y1 y2 y3 y4) (spec_RLogOk.l0 (k + 1) y0 y1 y2 y3 y4))
 | 0 => ⟨fun _ _ _ _ r h => by simp [spec_RLogOk.j0] at h, fun _ _ _ _ _ r h => by simp [spec_RLogOk.l0] at h⟩
 | k + 1 => by
   obtain ⟨ih0, ih1⟩ := spec_RLogOk.mono_l k
   refine ⟨?_, ?_⟩ <;> intros <;> (first | unfold spec_RLogOk.j0 | unfold spec_RLogOk.l0) <;> repeat' first
   | (with_reducible exact ih0 _ _ _ _)
   | (with_reducible exact ih1 _ _ _ _ _)
   | (with_reducible exact LeO.refl _)
   | (with_reducible exact LeO.none _)
   | (with_reducible refine LeO.ite ?_ ?_)
   | (with_reducible refine LeO.bind ?_ (fun _ => ?_))
   | exact ih0 _ _ _ _
   | exact ih1 _ _ _ _ _
   | exact LeO.none _
   | refine LeO.ite ?_ ?_
   | refine LeO.bind ?_ (fun _ => ?_)
theorem spec_RLogOk.mono : ∀ a0 a1 a2 k, LeO (spec_RLogOk.f k a0 a1 a2) (spec_RLogOk.f (k + 1) a0 a1 a2) := by
 intro a0 a1 a2 k
 obtain ⟨ih0, ih1⟩ := spec_RLogOk.mono_l k
 unfold spec_RLogOk.f
 repeat' first
     | (with_reducible exact ih0 _ _ _ _)
     | (with_reducible exact ih1 _ _ _ _ _)
     | (with_reducible exact LeO.refl _)
     | (with_reducible exact LeO.none _)
     | (with_reducible refine LeO.ite ?_ ?_)
     | (with_reducible refine LeO.bind ?_ (fun _ => ?_))
     | exact ih0 _ _ _ _
     | exact ih1 _ _ _ _ _
     | exact LeO.none _
     | refine LeO.ite ?_ ?_
     | refine LeO.bind ?_ (fun _ => ?_)
set_option maxHeartbeats 8000000 in
set_option maxRecDepth 100000 in
theorem spec_RLogOk.calls (k : Nat) (a0_0 : Int) (a0_1 : Int) (A0_2 : Option Addr) (c0_2 : Nat) (l0_2 : List (S85)) (r : Bool) (w : World) (hr0_2 : Kd.C k85 w A0_2 l0_2.length l0_2) (hc0_2 : l0_2.length ≤ c0_2) (h : spec_RLogOk.f k a0_0 a0_1 l0_2 = some r) :
   Calls Try.prog 86 #[.agg #[.int .i64 a0_0, .int .i64 a0_1, .slice A0_2 l0_2.length c0_2]] w fun e w' => e = .returned (.bool r) ∧ Below w.heap.size w w' := by
 have hu34 := Try.underlying34
 have hu85 := Try.underlying85
 have HR0_2 := am hr0_2
 have HC0_2 := am hc0_2
 clear hr0_2 hc0_2
 have HB := am (Below.refl w.heap.size w)
 have H : ((spec_l01In.f a0_0 0 1000000).bind fun t280 => (if t280 = true then ((spec_l01In.f a0_1 0 1000000).bind fun t281 => (if t281 = true then (if ((a0_0 == 0) != (a0_1 == 0)) = true then (spec_RLogOk.j0 k true a0_0 a0_1 l0_2) else (spec_RLogOk.j0 k (decide ((l0_2.length : Int) > 60)) a0_0 a0_1 l0_2)) else (spec_RLogOk.j0 k true a0_0 a0_1 l0_2))) else (spec_RLogOk.j0 k true a0_0 a0_1 l0_2))) = some r := h
 clear h
 have HC2 := am H
 clear H
 go_enter Try.func86, Try.ntmps86
 go_upto_region 1 with (first | ((with_reducible refine gate_dst (N := 1) rfl ?_); (try (refine gate_guard (by rfl) ?_; dsimp only)); refine box_event ?hg (N := 1) ?hd (cs := #[.int .i64 a0_0, .int .i64 a0_1, .slice A0_2 l0_2.length c0_2]) (t := 34) ?hr ?_; (case hd => rfl); (case hg => rfl); (case hr => first | (go_simp; done) | (go_simp; rfl)); intro gb279 hg w3 hbox hb; have BK279 := am (hbox); have GW279 := am ((by rw [hg]; exact (below_size Q2) : w.heap.size ≤ gb279)); have GE279 := am ((by rw [hg]; exact (below_size Q2) : w.heap.size ≤ gb279)); replace HB := am (below_step Q2 hb); clear hb hbox hg))
 (try simp only [Act.put, la, lb, lc])
 go_cut [29] (fun v29 wc => ∃ (kq : Nat) (x29_1 : Bool), v29 = .bool x29_1 ∧ Aside0 (spec_RLogOk.j0 kq x29_1 a0_0 a0_1 l0_2 = some r) ∧ Aside0 (kq ≤ k) ∧ Aside0 (wc.heap[gb279]? = some (.cells #[.int .i64 a0_0, .int .i64 a0_1, (.slice A0_2 l0_2.length c0_2)] 34 (0, 0))) ∧ Aside0 (Below w.heap.size w wc))
 case first =>
   have H := HC2.out
   clear HC2
   replace H := Option.bind_eq_some_iff.mp H
   obtain ⟨t280, A40, H⟩ := H
   have A4 := am A40
   clear A40
   by_cases c5 : t280 = true
   rotate_left
   · replace c5 := Bool.eq_false_iff.mpr c5
     subst c5
     rw [nf] at H
     have H' := am H
     clear H
     obtain ⟨hcz12_0, hcz12_1, hcz12_2⟩ := bc3 w3 BK279.out
     go_wp2_with (first | ((with_reducible refine gate_callee (f := 63) rfl ?_); refine goesL_ (some 7) rfl rfl Try.func63 kr rfl #[.int .i64 a0_0, .int .i64 0, .int .i64 1000000] rfl Q0 ?_; (with_reducible refine (spec_l01In.calls a0_0 0 1000000 false _ A4.out).mono ?_); rintro e w' ⟨rfl, ⟨nd, rfl⟩⟩; refine ⟨_, rfl, ?_⟩))
     go_meet
     case rel => exact ⟨_, (true), Q3, H', ⟨by first | omega | exact Nat.le_refl _⟩, ⟨u9_5⟩, ⟨Q2⟩⟩
   subst c5
   rw [if_pos rfl] at H
   replace H := Option.bind_eq_some_iff.mp H
   obtain ⟨t281, A60, H⟩ := H
   have A6 := am A60
   clear A60
   by_cases c7 : t281 = true
   rotate_left
   · replace c7 := Bool.eq_false_iff.mpr c7
     subst c7
     rw [nf] at H
     have H' := am H
     clear H
     obtain ⟨hcz11_0, hcz11_1, hcz11_2⟩ := bc3 w3 BK279.out
     go_wp2_with (first | ((with_reducible refine gate_callee (f := 63) rfl ?_); refine goesL_ (some 7) rfl rfl Try.func63 kr rfl #[.int .i64 a0_0, .int .i64 0, .int .i64 1000000] rfl Q0 ?_; (with_reducible refine (spec_l01In.calls a0_0 0 1000000 true _ A4.out).mono ?_); rintro e w' ⟨rfl, ⟨nd, rfl⟩⟩; refine ⟨_, rfl, ?_⟩) | (go_at_call 63; (with_reducible refine (spec_l01In.calls a0_1 0 1000000 false _ A6.out).mono ?_); rintro e w' ⟨rfl, ⟨nd, rfl⟩⟩))
     go_meet
     case rel => exact ⟨_, (true), Q3, H', ⟨by first | omega | exact Nat.le_refl _⟩, ⟨u9_5⟩, ⟨Q2⟩⟩
   subst c7
   rw [if_pos rfl] at H
   by_cases c8 : ((a0_0 == 0) != (a0_1 == 0)) = true
   rotate_left
   · rw [if_neg c8] at H
     have c8b0 : ((a0_0 == 0) != (a0_1 == 0)) = false := by simpa using c8
     (try (have c8b1 : decide ((a0_0 == 0) = (a0_1 == 0)) = true := by simpa using c8))
     (try (have c8b2 : ((a0_0 == 0) == (a0_1 == 0)) = true := by simpa using c8))
     clear c8
     (first | rw [c8b0] | (simp only [i64_w, i32_w]; rw [c8b0]) | rw [show (!(_ == _)) = _ from c8b0] | skip)
     have H' := am H
     clear H
     obtain ⟨hcz10_0, hcz10_1, hcz10_2⟩ := bc3 w3 BK279.out
     go_wp2_with (first | ((with_reducible refine gate_callee (f := 63) rfl ?_); refine goesL_ (some 7) rfl rfl Try.func63 kr rfl #[.int .i64 a0_0, .int .i64 0, .int .i64 1000000] rfl Q0 ?_; (with_reducible refine (spec_l01In.calls a0_0 0 1000000 true _ A4.out).mono ?_); rintro e w' ⟨rfl, ⟨nd, rfl⟩⟩; refine ⟨_, rfl, ?_⟩) | (go_at_call 63; (with_reducible refine (spec_l01In.calls a0_1 0 1000000 true _ A6.out).mono ?_); rintro e w' ⟨rfl, ⟨nd, rfl⟩⟩))
     go_meet
     case rel => exact ⟨_, (decide ((l0_2.length : Int) > 60)), Q3, H', ⟨by first | omega | exact Nat.le_refl _⟩, ⟨u9_5⟩, ⟨Q2⟩⟩
   rw [if_pos c8] at H
   have c8b0 : ((a0_0 == 0) != (a0_1 == 0)) = true := c8
   (try (have c8b1 : decide ((a0_0 == 0) = (a0_1 == 0)) = false := by simpa using c8))
   (try (have c8b2 : ((a0_0 == 0) == (a0_1 == 0)) = false := by simpa using c8))
   (try (have c8b3 : ¬ ((a0_0 == 0) = (a0_1 == 0)) := by simpa using c8))
   clear c8
   (first | rw [c8b0] | (simp only [i64_w, i32_w]; rw [c8b0]) | rw [show (!(_ == _)) = _ from c8b0] | skip)
   have H' := am H
   clear H
   obtain ⟨hcz9_0, hcz9_1, hcz9_2⟩ := bc3 w3 BK279.out
   go_wp2_with (first | ((with_reducible refine gate_callee (f := 63) rfl ?_); refine goesL_ (some 7) rfl rfl Try.func63 kr rfl #[.int .i64 a0_0, .int .i64 0, .int .i64 1000000] rfl Q0 ?_; (with_reducible refine (spec_l01In.calls a0_0 0 1000000 true _ A4.out).mono ?_); rintro e w' ⟨rfl, ⟨nd, rfl⟩⟩; refine ⟨_, rfl, ?_⟩) | (go_at_call 63; (with_reducible refine (spec_l01In.calls a0_1 0 1000000 true _ A6.out).mono ?_); rintro e w' ⟨rfl, ⟨nd, rfl⟩⟩))
   go_meet
   case rel => exact ⟨_, (true), Q3, H', ⟨by first | omega | exact Nat.le_refl _⟩, ⟨u9_5⟩, ⟨Q2⟩⟩
 clear HC2
 obtain ⟨kq, x29_1, rfl, HA, HJ1, BK279, HB⟩ := hcut
 cases kq with
 | zero => exact absurd HA.out (by simp [spec_RLogOk.j0])
 | succ kj1 =>
   have H := HA.out
   clear HA
   simp only [spec_RLogOk.j0] at H
   by_cases c13 : x29_1 = true
   · subst c13
     rw [if_pos rfl] at H
     obtain rfl := sj H
     go_wp2
     go_ret
     exact ⟨er, Q2⟩
   replace c13 := Bool.eq_false_iff.mpr c13
   subst c13
   rw [nf] at H
   have H' := am H
   clear H
   obtain ⟨hcz14_0, hcz14_1, hcz14_2⟩ := bc3 wc BK279.out
   go_wp2
   go_loopg [3, 4] kj1 (fun kq v3 v4 w' => ∃ (x3_2 : Int) (x4_2 : Int), v3 = .int .i64 x3_2 ∧ v4 = .int .i64 x4_2 ∧ Aside0 (spec_RLogOk.l0 kq x3_2 x4_2 a0_0 a0_1 l0_2 = some r) ∧ Aside0 (kq ≤ kj1) ∧ Aside0 (w'.heap[gb279]? = some (.cells #[.int .i64 a0_0, .int .i64 a0_1, (.slice A0_2 l0_2.length c0_2)] 34 (0, 0))) ∧ Aside0 (Below w.heap.size w w'))
   case atStart => exact ⟨(a0_1), (0), Q3, Q3, H', ⟨Nat.le_refl _⟩, ⟨u9_5⟩, ⟨Q2⟩⟩
   clear H'
   try clear c13
   try clear hcz14_0
   try clear hcz14_1
   try clear hcz14_2
   obtain ⟨x3_2, x4_2, rfl, rfl, HA, HK2, BK279, HB⟩ := hrel
   cases gk with
   | zero => exact absurd HA.out (by simp [spec_RLogOk.l0])
   | succ k2 =>
     have H := HA.out
     clear HA
     simp only [spec_RLogOk.l0] at H
     by_cases c15 : x4_2 < (l0_2.length : Int)
     rotate_left
     · rw [if_neg c15] at H
       have c15b0 : decide (x4_2 < (l0_2.length : Int)) = false := decide_eq_false c15
       clear c15
       obtain rfl := sj H
       obtain ⟨hcz26_0, hcz26_1, hcz26_2⟩ := bc3 wr BK279.out
       go_wp2
       go_ret
       exact ⟨er, Q2⟩
     rw [if_pos c15] at H
     have c15b0 : decide (x4_2 < (l0_2.length : Int)) = true := decide_eq_true c15
     clear c15
     by_cases c16 : 0 ≤ x4_2
     rotate_left
     · rw [if_neg c16] at H
       exact absurd H (by simp)
     rw [if_pos c16] at H
     have c16b0 : decide (0 ≤ x4_2) = true := decide_eq_true c16
     clear c16
     replace H := Option.bind_eq_some_iff.mp H
     obtain ⟨t283, A170, H⟩ := H
     have A17 := am A170
     clear A170
     by_cases c18 : t283 = true
     rotate_left
     · replace c18 := Bool.eq_false_iff.mpr c18
       subst c18
       rw [nf] at H
       obtain rfl := sj H
       obtain ⟨hcz24_0, hcz24_1, hcz24_2⟩ := bc3 wr BK279.out
       have p282 : 0 ≤ (x4_2 : Int) := of_decide_eq_true Q1
       have q282 : x4_2 < (l0_2.length : Int) := of_decide_eq_true Q1
       obtain ⟨ad282, e282, hx282_0, hx282_1⟩ := at_T85 HR0_2.out x4_2 p282 q282
       cases e282
       replace hx282_0 := cm HB.out hx282_0
       replace hx282_1 := cm HB.out hx282_1
       replace p282 := eq_true p282
       replace q282 := eq_true q282
       go_wp2_with (first | ((with_reducible refine gate_callee (f := 64) rfl ?_); refine goesL_ (some 44) rfl rfl Try.func64 kr rfl #[.agg #[.int .i64 ((rd_T85 l0_2 x4_2).f0), .string ((rd_T85 l0_2 x4_2).f1)]] rfl Q0 ?_; (with_reducible refine (spec_l05Entry.calls ((rd_T85 l0_2 x4_2).f0) ((rd_T85 l0_2 x4_2).f1) false _ A17.out).mono ?_); rintro e w25 ⟨rfl, hb⟩; refine ⟨_, rfl, ?_⟩; replace BK279 := am (bb_ BK279.out u9_5 hb); replace HB := am (below_step Q2 hb); (try clear hb); (try clear hb2); (try clear hk); (try clear hi)))
       go_ret
       exact ⟨er, Q2⟩
     subst c18
     rw [if_pos rfl] at H
     have H9 := am H
     clear H
     obtain ⟨hcz19_0, hcz19_1, hcz19_2⟩ := bc3 wr BK279.out
     have p282 : 0 ≤ (x4_2 : Int) := of_decide_eq_true Q1
     have q282 : x4_2 < (l0_2.length : Int) := of_decide_eq_true Q1
     obtain ⟨ad282, e282, hx282_0, hx282_1⟩ := at_T85 HR0_2.out x4_2 p282 q282
     cases e282
     replace hx282_0 := cm HB.out hx282_0
     replace hx282_1 := cm HB.out hx282_1
     replace p282 := eq_true p282
     replace q282 := eq_true q282
     go_upto_if 55 with (first | ((with_reducible refine gate_callee (f := 64) rfl ?_); refine goesL_ (some 44) rfl rfl Try.func64 kr rfl #[.agg #[.int .i64 ((rd_T85 l0_2 x4_2).f0), .string ((rd_T85 l0_2 x4_2).f1)]] rfl Q0 ?_; (with_reducible refine (spec_l05Entry.calls ((rd_T85 l0_2 x4_2).f0) ((rd_T85 l0_2 x4_2).f1) true _ A17.out).mono ?_); rintro e w20 ⟨rfl, hb⟩; refine ⟨_, rfl, ?_⟩; replace BK279 := am (bb_ BK279.out u9_5 hb); replace HB := am (below_step Q2 hb); (try clear hb); (try clear hb2); (try clear hk); (try clear hi); obtain ⟨hcz21_0, hcz21_1, hcz21_2⟩ := bc3 w20 BK279.out; have p284 : 0 ≤ (x4_2 : Int) := of_decide_eq_true Q1; have q284 : x4_2 < (l0_2.length : Int) := of_decide_eq_true Q1; obtain ⟨ad284, e284, hx284_0, hx284_1⟩ := at_T85 HR0_2.out x4_2 p284 q284; obtain rfl : ad282 = ad284 := (by injection e284); replace hx284_0 := cm HB.out hx284_0; replace hx284_1 := cm HB.out hx284_1; replace p284 := eq_true p284; replace q284 := eq_true q284))
     have H := H9.out
     clear H9
     by_cases c22 : ((rd_T85 l0_2 x4_2).f0) < x3_2
     · rw [if_pos c22] at H
       have c22b0 : decide (((rd_T85 l0_2 x4_2).f0) < x3_2) = true := decide_eq_true c22
       clear c22
       (first | rw [c22b0] | (simp only [i64_w, i32_w]; rw [c22b0]) | skip)
       obtain rfl := sj H
       go_wp2
       go_ret
       exact ⟨er, Q2⟩
     rw [if_neg c22] at H
     have c22b0 : decide (((rd_T85 l0_2 x4_2).f0) < x3_2) = false := decide_eq_false c22
     clear c22
     (first | rw [c22b0] | (simp only [i64_w, i32_w]; rw [c22b0]) | skip)
     have H' := am H
     clear H
     obtain ⟨hcz23_0, hcz23_1, hcz23_2⟩ := bc3 w20 BK279.out
     have p285 : 0 ≤ (x4_2 : Int) := of_decide_eq_true Q1
     have q285 : x4_2 < (l0_2.length : Int) := of_decide_eq_true Q1
     obtain ⟨ad285, e285, hx285_0, hx285_1⟩ := at_T85 HR0_2.out x4_2 p285 q285
     obtain rfl : ad282 = ad285 := (by injection e285)
     replace hx285_0 := cm HB.out hx285_0
     replace hx285_1 := cm HB.out hx285_1
     replace p285 := eq_true p285
     replace q285 := eq_true q285
     go_wp2
     go_roundg k2
     case measure => have := HJ1.out; have := HK2.out; omega
     case rel => exact ⟨((rd_T85 l0_2 x4_2).f0), (wrap64 (x4_2 + 1)), Q3, Q3, H', ⟨(by have := HJ1.out; have := HK2.out; omega)⟩, ⟨u9_5⟩, ⟨Q2⟩⟩
def spec_LastIndex.f (k : Nat) (a0_0 : Int) (a0_1 : Int) (l0_2 : List (S85)) : Option (Int) := (spec_RLogOk.f k a0_0 a0_1 l0_2).bind fun t287 => (if t287 = true then (some (wrap64 (a0_0 + (l0_2.length : Int)))) else (some (-1)))
theorem spec_LastIndex.mono : ∀ a0 a1 a2 k, LeO (spec_LastIndex.f k a0 a1 a2) (spec_LastIndex.f (k + 1) a0 a1 a2) := by
 intro a0 a1 a2 k
 unfold spec_LastIndex.f
 repeat' first
     | (with_reducible exact spec_RLogOk.mono _ _ _ _)
     | (with_reducible exact LeO.refl _)
     | (with_reducible exact LeO.none _)
     | (with_reducible refine LeO.ite ?_ ?_)
     | (with_reducible refine LeO.bind ?_ (fun _ => ?_))
     | exact spec_RLogOk.mono _ _ _ _
     | exact LeO.none _
     | refine LeO.ite ?_ ?_
     | refine LeO.bind ?_ (fun _ => ?_)
set_option maxHeartbeats 8000000 in
set_option maxRecDepth 100000 in
theorem spec_LastIndex.calls (k : Nat) (a0_0 : Int) (a0_1 : Int) (A0_2 : Option Addr) (c0_2 : Nat) (l0_2 : List (S85)) (r : Int) (w : World) (hr0_2 : Kd.C k85 w A0_2 l0_2.length l0_2) (hc0_2 : l0_2.length ≤ c0_2) (h : spec_LastIndex.f k a0_0 a0_1 l0_2 = some r) :
   Calls Try.prog 72 #[.agg #[.int .i64 a0_0, .int .i64 a0_1, .slice A0_2 l0_2.length c0_2]] w fun e w' => e = .returned (.int .i64 r) ∧ Below w.heap.size w w' := by
 have hu34 := Try.underlying34
 have HR0_2 := am hr0_2
 have HC0_2 := am hc0_2
 clear hr0_2 hc0_2
 have HB := am (Below.refl w.heap.size w)
 have H : ((spec_RLogOk.f k a0_0 a0_1 l0_2).bind fun t287 => (if t287 = true then (some (wrap64 (a0_0 + (l0_2.length : Int)))) else (some (-1)))) = some r := h
 clear h
 replace H := Option.bind_eq_some_iff.mp H
 obtain ⟨t287, A20, H⟩ := H
 replace H : (if t287 = true then (some (wrap64 (a0_0 + (l0_2.length : Int)))) else (some (-1))) = some r := H
 have A2 := am A20
 clear A20
 have H9 := am H
 clear H
 go_enter Try.func72, Try.ntmps72
 go_upto_if 5 with (first | ((with_reducible refine gate_dst (N := 1) rfl ?_); refine box_event ?hg (N := 1) ?hd (cs := #[.int .i64 a0_0, .int .i64 a0_1, .slice A0_2 l0_2.length c0_2]) (t := 34) ?hr ?_; (case hd => rfl); (case hg => rfl); (case hr => first | (go_simp; done) | (go_simp; rfl)); intro gb286 hg w3 hbox hb; have BK286 := am (hbox); have GW286 := am ((by rw [hg]; exact (below_size Q2) : w.heap.size ≤ gb286)); have GE286 := am ((by rw [hg]; exact (below_size Q2) : w.heap.size ≤ gb286)); replace HB := am (below_step Q2 hb); clear hb hbox hg; obtain ⟨hcz4_0, hcz4_1, hcz4_2⟩ := bc3 w3 BK286.out) | ((with_reducible refine gate_callee (f := 86) rfl ?_); refine goesL_ (some 4) rfl rfl Try.func86 kr rfl #[.agg #[.int .i64 a0_0, .int .i64 a0_1, .slice A0_2 l0_2.length c0_2]] rfl Q0 ?_; (with_reducible refine (spec_RLogOk.calls k a0_0 a0_1 _ _ l0_2 t287 _ ?side1 ?side2 A2.out).mono ?_); (case side1 => exact Q11); (case side2 => exact HC0_2.out); rintro e w5 ⟨rfl, hb⟩; refine ⟨_, rfl, ?_⟩; replace BK286 := am (blk_below (g := gb286) (o := .cells #[.int .i64 a0_0, .int .i64 a0_1, .slice A0_2 l0_2.length c0_2] 34 (0, 0)) (by (with_reducible repeat (first | apply b1_ | apply b2_ | apply b3_)); exact BK286.out) hb); replace HB := am (below_step Q2 hb); (try clear hb); (try clear hb2); (try clear hk); (try clear hi)))
 have H := H9.out
 clear H9
 by_cases c6 : t287 = true
 rotate_left
 · replace c6 := Bool.eq_false_iff.mpr c6
   subst c6
   rw [nf] at H
   obtain rfl := sj H
   go_wp2
   go_ret
   exact ⟨er, Q2⟩
 subst c6
 rw [if_pos rfl] at H
 obtain rfl := sj H
 obtain ⟨hcz7_0, hcz7_1, hcz7_2⟩ := bc3 w5 BK286.out
 go_wp2
 go_ret
 exact ⟨er, Q2⟩
def spec_TermAt.j0 : Nat → Int → Bool → Int → Int → List (S85) → Option (Int)
 | 0, _, _, _, _, _ => none
 | k + 1, x1, x20, x289000, x289001, x289002 => if x20 = true then (some (-1)) else (if x1 = x289000 then (some x289001) else (if 0 ≤ (wrap64 ((wrap64 (x1 - x289000)) - 1)) then (if (wrap64 ((wrap64 (x1 - x289000)) - 1)) < (x289002.length : Int) then (some ((rd_T85 x289002 (wrap64 ((wrap64 (x1 - x289000)) - 1))).f0)) else (none)) else (none)))
def spec_TermAt.f (k : Nat) (a0_0 : Int) (a0_1 : Int) (l0_2 : List (S85)) (a1 : Int) : Option (Int) := (spec_RLogOk.f k a0_0 a0_1 l0_2).bind fun t289 => (if t289 = true then ((spec_l01In.f a1 a0_0 (wrap64 (a0_0 + (l0_2.length : Int)))).bind fun t290 => (spec_TermAt.j0 k a1 (!t290) a0_0 a0_1 l0_2)) else (spec_TermAt.j0 k a1 true a0_0 a0_1 l0_2))
theorem spec_TermAt.mono_l : ∀ k, (∀ y0 y1 y2 y3 y4, LeO (spec_TermAt.j0 k y0 y1 y2 y3 y4) (spec_TermAt.j0 (k + 1) y0 y1 y2 y3 y4))
 | 0 => fun _ _ _ _ _ r h => by simp [spec_TermAt.j0] at h
 | k + 1 => by
   have ih0 := spec_TermAt.mono_l k
   · intro y0 y1 y2 y3 y4
     unfold spec_TermAt.j0
     repeat' first
     | (with_reducible exact ih0 _ _ _ _ _)
     | (with_reducible exact spec_RLogOk.mono _ _ _ _)
     | (with_reducible exact LeO.refl _)
     | (with_reducible exact LeO.none _)
     | (with_reducible refine LeO.ite ?_ ?_)
     | (with_reducible refine LeO.bind ?_ (fun _ => ?_))
     | exact ih0 _ _ _ _ _
     | exact spec_RLogOk.mono _ _ _ _
     | exact LeO.none _
     | refine LeO.ite ?_ ?_
     | refine LeO.bind ?_ (fun _ => ?_)
theorem spec_TermAt.mono : ∀ a0 a1 a2 a3 k, LeO (spec_TermAt.f k a0 a1 a2 a3) (spec_TermAt.f (k + 1) a0 a1 a2 a3) := by
 intro a0 a1 a2 a3 k
 have ih0 := spec_TermAt.mono_l k
 unfold spec_TermAt.f
 repeat' first
     | (with_reducible exact ih0 _ _ _ _ _)
     | (with_reducible exact spec_RLogOk.mono _ _ _ _)
     | (with_reducible exact LeO.refl _)
     | (with_reducible exact LeO.none _)
     | (with_reducible refine LeO.ite ?_ ?_)
     | (with_reducible refine LeO.bind ?_ (fun _ => ?_))
     | exact ih0 _ _ _ _ _
     | exact spec_RLogOk.mono _ _ _ _
     | exact LeO.none _
     | refine LeO.ite ?_ ?_
     | refine LeO.bind ?_ (fun _ => ?_)
set_option maxHeartbeats 8000000 in
set_option maxRecDepth 100000 in
theorem spec_TermAt.calls (k : Nat) (a0_0 : Int) (a0_1 : Int) (A0_2 : Option Addr) (c0_2 : Nat) (l0_2 : List (S85)) (a1 : Int) (r : Int) (w : World) (hr0_2 : Kd.C k85 w A0_2 l0_2.length l0_2) (hc0_2 : l0_2.length ≤ c0_2) (h : spec_TermAt.f k a0_0 a0_1 l0_2 a1 = some r) :
   Calls Try.prog 73 #[.agg #[.int .i64 a0_0, .int .i64 a0_1, .slice A0_2 l0_2.length c0_2], .int .i64 a1] w fun e w' => e = .returned (.int .i64 r) ∧ Below w.heap.size w w' := by
 have hu34 := Try.underlying34
 have HR0_2 := am hr0_2
 have HC0_2 := am hc0_2
 clear hr0_2 hc0_2
 have HB := am (Below.refl w.heap.size w)
 have H : ((spec_RLogOk.f k a0_0 a0_1 l0_2).bind fun t289 => (if t289 = true then ((spec_l01In.f a1 a0_0 (wrap64 (a0_0 + (l0_2.length : Int)))).bind fun t290 => (spec_TermAt.j0 k a1 (!t290) a0_0 a0_1 l0_2)) else (spec_TermAt.j0 k a1 true a0_0 a0_1 l0_2))) = some r := h
 clear h
 have HC3 := am H
 clear H
 go_enter Try.func73, Try.ntmps73
 go_upto_region 1 with (first | ((with_reducible refine gate_dst (N := 2) rfl ?_); (try (refine gate_guard (by rfl) ?_; dsimp only)); refine box_event ?hg (N := 2) ?hd (cs := #[.int .i64 a0_0, .int .i64 a0_1, .slice A0_2 l0_2.length c0_2]) (t := 34) ?hr ?_; (case hd => rfl); (case hg => rfl); (case hr => first | (go_simp; done) | (go_simp; rfl)); intro gb288 hg w4 hbox hb; have BK288 := am (hbox); have GW288 := am ((by rw [hg]; exact (below_size Q2) : w.heap.size ≤ gb288)); have GE288 := am ((by rw [hg]; exact (below_size Q2) : w.heap.size ≤ gb288)); replace HB := am (below_step Q2 hb); clear hb hbox hg))
 (try simp only [Act.put, la, lb, lc])
 go_cut [20] (fun v20 wc => ∃ (kq : Nat) (x20_2 : Bool), v20 = .bool x20_2 ∧ Aside0 (spec_TermAt.j0 kq a1 x20_2 a0_0 a0_1 l0_2 = some r) ∧ Aside0 (kq ≤ k) ∧ Aside0 (wc.heap[gb288]? = some (.cells #[.int .i64 a0_0, .int .i64 a0_1, (.slice A0_2 l0_2.length c0_2)] 34 (0, 0))) ∧ Aside0 (Below w.heap.size w wc))
 case first =>
   have H := HC3.out
   clear HC3
   replace H := Option.bind_eq_some_iff.mp H
   obtain ⟨t289, A50, H⟩ := H
   have A5 := am A50
   clear A50
   by_cases c6 : t289 = true
   rotate_left
   · replace c6 := Bool.eq_false_iff.mpr c6
     subst c6
     rw [nf] at H
     have H' := am H
     clear H
     obtain ⟨hcz11_0, hcz11_1, hcz11_2⟩ := bc3 w4 BK288.out
     go_wp2_with (first | ((with_reducible refine gate_callee (f := 86) rfl ?_); refine goesL_ (some 6) rfl rfl Try.func86 kr rfl #[.agg #[.int .i64 a0_0, .int .i64 a0_1, .slice A0_2 l0_2.length c0_2]] rfl Q0 ?_; (with_reducible refine (spec_RLogOk.calls k a0_0 a0_1 _ _ l0_2 false _ ?side1 ?side2 A5.out).mono ?_); (case side1 => exact Q11); (case side2 => exact HC0_2.out); rintro e w12 ⟨rfl, hb⟩; refine ⟨_, rfl, ?_⟩; replace BK288 := am (bb_ BK288.out u9_9 hb); replace HB := am (below_step Q2 hb); (try clear hb); (try clear hb2); (try clear hk); (try clear hi)))
     go_meet
     case rel => exact ⟨_, (true), Q3, H', ⟨by first | omega | exact Nat.le_refl _⟩, ⟨u9_9⟩, ⟨Q2⟩⟩
   subst c6
   rw [if_pos rfl] at H
   replace H := Option.bind_eq_some_iff.mp H
   obtain ⟨t290, A70, H⟩ := H
   replace H : (spec_TermAt.j0 k a1 (!t290) a0_0 a0_1 l0_2) = some r := H
   have A7 := am A70
   clear A70
   have H' := am H
   clear H
   obtain ⟨hcz8_0, hcz8_1, hcz8_2⟩ := bc3 w4 BK288.out
   go_wp2_with (first | ((with_reducible refine gate_callee (f := 86) rfl ?_); refine goesL_ (some 6) rfl rfl Try.func86 kr rfl #[.agg #[.int .i64 a0_0, .int .i64 a0_1, .slice A0_2 l0_2.length c0_2]] rfl Q0 ?_; (with_reducible refine (spec_RLogOk.calls k a0_0 a0_1 _ _ l0_2 true _ ?side1 ?side2 A5.out).mono ?_); (case side1 => exact Q11); (case side2 => exact HC0_2.out); rintro e w9 ⟨rfl, hb⟩; refine ⟨_, rfl, ?_⟩; replace BK288 := am (bb_ BK288.out u9_9 hb); replace HB := am (below_step Q2 hb); (try clear hb); (try clear hb2); (try clear hk); (try clear hi); obtain ⟨hcz10_0, hcz10_1, hcz10_2⟩ := bc3 w9 BK288.out) | (go_at_call 63; (with_reducible refine (spec_l01In.calls a1 a0_0 (wrap64 (a0_0 + (l0_2.length : Int))) t290 _ A7.out).mono ?_); rintro e w' ⟨rfl, ⟨nd, rfl⟩⟩))
   go_meet
   case rel => exact ⟨_, (!t290), Q3, H', ⟨by first | omega | exact Nat.le_refl _⟩, ⟨u9_9⟩, ⟨Q2⟩⟩
 clear HC3
 obtain ⟨kq, x20_2, rfl, HA, HJ2, BK288, HB⟩ := hcut
 cases kq with
 | zero => exact absurd HA.out (by simp [spec_TermAt.j0])
 | succ kj2 =>
   have H := HA.out
   clear HA
   simp only [spec_TermAt.j0] at H
   by_cases c13 : x20_2 = true
   · subst c13
     rw [if_pos rfl] at H
     obtain rfl := sj H
     go_wp2
     go_ret
     exact ⟨er, Q2⟩
   replace c13 := Bool.eq_false_iff.mpr c13
   subst c13
   rw [nf] at H
   by_cases c14 : a1 = a0_0
   · rw [if_pos c14] at H
     have c14b0 : (a1 == a0_0) = true := beq_iff_eq.mpr c14
     have c14b1 : (a1 != a0_0) = false := bne_eq_false_iff_eq.mpr c14
     clear c14
     obtain rfl := sj H
     obtain ⟨hcz15_0, hcz15_1, hcz15_2⟩ := bc3 wc BK288.out
     go_wp2
     go_ret
     exact ⟨er, Q2⟩
   rw [if_neg c14] at H
   have c14b0 : (a1 == a0_0) = false := beq_eq_false_iff_ne.mpr c14
   have c14b1 : (a1 != a0_0) = true := bne_iff_ne.mpr c14
   obtain ⟨ji16, hji16⟩ : ∃ j_ : Int, (wrap64 ((wrap64 (a1 - a0_0)) - 1)) = j_ := ⟨_, rfl⟩
   replace H : (if 0 ≤ (ji16) then (if (ji16) < (l0_2.length : Int) then (some ((rd_T85 l0_2 (ji16)).f0)) else (none)) else (none)) = some r := by first | (rw [hji16] at H; exact H) | (simp only [hji16] at H ⊢; exact H)
   have hji16w : (IntKind.i64.wrap ((wrap64 (a1 - a0_0)) - 1)) = ji16 := (i64_w _).trans hji16
   by_cases c17 : 0 ≤ (ji16)
   rotate_left
   · rw [if_neg c17] at H
     exact absurd H (by simp)
   rw [if_pos c17] at H
   have c17b0 : decide (0 ≤ (ji16)) = true := decide_eq_true c17
   clear c17
   by_cases c18 : (ji16) < (l0_2.length : Int)
   rotate_left
   · rw [if_neg c18] at H
     exact absurd H (by simp)
   rw [if_pos c18] at H
   have c18b0 : decide ((ji16) < (l0_2.length : Int)) = true := decide_eq_true c18
   clear c18
   obtain rfl := sj H
   obtain ⟨hcz19_0, hcz19_1, hcz19_2⟩ := bc3 wc BK288.out
   have p291 : 0 ≤ ((ji16) : Int) := of_decide_eq_true Q1
   have q291 : (ji16) < (l0_2.length : Int) := of_decide_eq_true Q1
   obtain ⟨ad291, e291, hx291_0, hx291_1⟩ := at_T85 HR0_2.out (ji16) p291 q291
   cases e291
   replace hx291_0 := cm HB.out hx291_0
   replace hx291_1 := cm HB.out hx291_1
   replace p291 := eq_true p291
   replace q291 := eq_true q291
   go_wp2
   go_ret
   exact ⟨by first | rfl | (simp [errW_none, errW_some] <;> rfl) | (simp only [← hji16]; first | rfl | (simp [errW_none, errW_some] <;> rfl)) | (simp [*, errW_none, errW_some] <;> rfl), Q2⟩
def spec_l06Ids.l0 : Nat → List Int → Int → Option (Bool)
 | 0, _, _ => none
 | k + 1, x0, x3 => if x3 < (x0.length : Int) then (if 0 ≤ x3 then ((spec_l01In.f (rd x0 x3) 0 99).bind fun t293 => (if t293 = true then (if x3 > 0 then (if 0 ≤ (wrap64 (x3 - 1)) then (if (wrap64 (x3 - 1)) < (x0.length : Int) then (if (rd x0 (wrap64 (x3 - 1))) ≥ (rd x0 x3) then (some false) else (spec_l06Ids.l0 k x0 (wrap64 (x3 + 1)))) else (none)) else (none)) else (spec_l06Ids.l0 k x0 (wrap64 (x3 + 1)))) else (some false))) else (none)) else (some (decide ((x0.length : Int) ≤ 7)))
def spec_l06Ids.f (k : Nat) (l0 : List Int) : Option (Bool) := spec_l06Ids.l0 k l0 0
theorem spec_l06Ids.mono_l : ∀ k, (∀ y0 y1, LeO (spec_l06Ids.l0 k y0 y1) (spec_l06Ids.l0 (k + 1) y0 y1))
 | 0 => fun _ _ r h => by simp [spec_l06Ids.l0] at h
 | k + 1 => by
   have ih0 := spec_l06Ids.mono_l k
   · intro y0 y1
     unfold spec_l06Ids.l0
     repeat' first
     | (with_reducible exact ih0 _ _)
     | (with_reducible exact LeO.refl _)
     | (with_reducible exact LeO.none _)
     | (with_reducible refine LeO.ite ?_ ?_)
     | (with_reducible refine LeO.bind ?_ (fun _ => ?_))
     | exact ih0 _ _
     | exact LeO.none _
     | refine LeO.ite ?_ ?_
     | refine LeO.bind ?_ (fun _ => ?_)
theorem spec_l06Ids.mono : ∀ a0 k, LeO (spec_l06Ids.f k a0) (spec_l06Ids.f (k + 1) a0) := by
 intro a0 k
 have ih0 := spec_l06Ids.mono_l k
 unfold spec_l06Ids.f
 repeat' first
     | (with_reducible exact ih0 _ _)
     | (with_reducible exact LeO.refl _)
     | (with_reducible exact LeO.none _)
     | (with_reducible refine LeO.ite ?_ ?_)
     | (with_reducible refine LeO.bind ?_ (fun _ => ?_))
     | exact ih0 _ _
     | exact LeO.none _
     | refine LeO.ite ?_ ?_
     | refine LeO.bind ?_ (fun _ => ?_)
set_option maxHeartbeats 8000000 in
set_option maxRecDepth 100000 in
theorem spec_l06Ids.calls (k : Nat) (A0 : Option Addr) (c0 : Nat) (l0 : List Int) (r : Bool) (w : World) (hr0 : Kd.C (Kd.int .i64) w A0 l0.length l0) (hc0 : l0.length ≤ c0) (h : spec_l06Ids.f k l0 = some r) :
   Calls Try.prog 112 #[.slice A0 l0.length c0] w fun e w' => e = .returned (.bool r) ∧ Drawn0 w w' := by
 have HR0 := am hr0
 have HC0 := am hc0
 clear hr0 hc0
 have H : (spec_l06Ids.l0 k l0 0) = some r := h
 clear h
 have H' := am H
 clear H
 go_enter Try.func112, Try.ntmps112
 go_wp2
 repeat (go_quiet (fail); try go_wp2)
 go_loopg [3] k (fun kq v3 w' => ∃ (x3_1 : Int), v3 = .int .i64 x3_1 ∧ Aside0 (spec_l06Ids.l0 kq l0 x3_1 = some r) ∧ Aside0 (kq ≤ k) ∧ Drawn0 w w')
 case atStart => exact ⟨(0), Q3, H', ⟨Nat.le_refl _⟩, Q4⟩
 clear H'
 obtain ⟨x3_1, rfl, HA, HK1, ⟨m1, rfl⟩⟩ := hrel
 cases gk with
 | zero => exact absurd HA.out (by simp [spec_l06Ids.l0])
 | succ k1 =>
   have H := HA.out
   clear HA
   simp only [spec_l06Ids.l0] at H
   by_cases c2 : x3_1 < (l0.length : Int)
   rotate_left
   · rw [if_neg c2] at H
     have c2b0 : decide (x3_1 < (l0.length : Int)) = false := decide_eq_false c2
     clear c2
     obtain rfl := sj H
     go_wp2
     repeat (go_quiet (fail); try go_wp2)
     go_ret
     exact ⟨by first | rfl | (simp; done) | (simp [*]; done), Q4⟩
   rw [if_pos c2] at H
   have c2b0 : decide (x3_1 < (l0.length : Int)) = true := decide_eq_true c2
   clear c2
   by_cases c3 : 0 ≤ x3_1
   rotate_left
   · rw [if_neg c3] at H
     exact absurd H (by simp)
   rw [if_pos c3] at H
   have c3b0 : decide (0 ≤ x3_1) = true := decide_eq_true c3
   clear c3
   replace H := Option.bind_eq_some_iff.mp H
   obtain ⟨t293, A40, H⟩ := H
   have A4 := am A40
   clear A40
   by_cases c5 : t293 = true
   rotate_left
   · replace c5 := Bool.eq_false_iff.mpr c5
     subst c5
     rw [nf] at H
     obtain rfl := sj H
     have p292 : 0 ≤ (x3_1 : Int) := of_decide_eq_true Q1
     have q292 : x3_1 < (l0.length : Int) := of_decide_eq_true Q1
     obtain ⟨ad292, e292, hx292_0⟩ := Kd.at_int HR0.out x3_1 p292 q292
     cases e292
     replace p292 := eq_true p292
     replace q292 := eq_true q292
     go_wp2_with (first | (first | (go_at_call 63; (with_reducible refine (spec_l01In.calls (rd l0 x3_1) 0 99 false _ A4.out).mono ?_); rintro e w' ⟨rfl, ⟨nd, rfl⟩⟩; (try first | exact ⟨rfl, _, World.drewN_drewN _ _ _⟩ | exact ⟨rfl, _, Eq.trans (World.drewN_drewN _ _ _) (congrArg (World.drewN _) (Nat.add_assoc _ _ _))⟩))) | go_quiet (first | (go_at_call 63; (with_reducible refine (spec_l01In.calls (rd l0 x3_1) 0 99 false _ A4.out).mono ?_); rintro e w' ⟨rfl, ⟨nd, rfl⟩⟩; (try first | exact ⟨rfl, _, World.drewN_drewN _ _ _⟩ | exact ⟨rfl, _, Eq.trans (World.drewN_drewN _ _ _) (congrArg (World.drewN _) (Nat.add_assoc _ _ _))⟩))))
     go_ret
     exact ⟨by first | rfl | (simp; done) | (simp [*]; done), Q4⟩
   subst c5
   rw [if_pos rfl] at H
   by_cases c6 : x3_1 > 0
   rotate_left
   · rw [if_neg c6] at H
     have c6b0 : decide (0 < x3_1) = false := decide_eq_false c6
     clear c6
     have H' := am H
     clear H
     have p292 : 0 ≤ (x3_1 : Int) := of_decide_eq_true Q1
     have q292 : x3_1 < (l0.length : Int) := of_decide_eq_true Q1
     obtain ⟨ad292, e292, hx292_0⟩ := Kd.at_int HR0.out x3_1 p292 q292
     cases e292
     replace p292 := eq_true p292
     replace q292 := eq_true q292
     go_wp2_with (first | (first | (go_at_call 63; (with_reducible refine (spec_l01In.calls (rd l0 x3_1) 0 99 true _ A4.out).mono ?_); rintro e w' ⟨rfl, ⟨nd, rfl⟩⟩; (try first | exact ⟨rfl, _, World.drewN_drewN _ _ _⟩ | exact ⟨rfl, _, Eq.trans (World.drewN_drewN _ _ _) (congrArg (World.drewN _) (Nat.add_assoc _ _ _))⟩))) | go_quiet (first | (go_at_call 63; (with_reducible refine (spec_l01In.calls (rd l0 x3_1) 0 99 true _ A4.out).mono ?_); rintro e w' ⟨rfl, ⟨nd, rfl⟩⟩; (try first | exact ⟨rfl, _, World.drewN_drewN _ _ _⟩ | exact ⟨rfl, _, Eq.trans (World.drewN_drewN _ _ _) (congrArg (World.drewN _) (Nat.add_assoc _ _ _))⟩))))
     go_roundg k1
     case measure => have := HK1.out; omega
     case rel => exact ⟨(wrap64 (x3_1 + 1)), Q3, H', ⟨by have := HK1.out; omega⟩, Q4⟩
   rw [if_pos c6] at H
   have c6b0 : decide (0 < x3_1) = true := decide_eq_true c6
   clear c6
   obtain ⟨ji7, hji7⟩ : ∃ j_ : Int, (wrap64 (x3_1 - 1)) = j_ := ⟨_, rfl⟩
   replace H : (if 0 ≤ (ji7) then (if (ji7) < (l0.length : Int) then (if (rd l0 (ji7)) ≥ (rd l0 x3_1) then (some false) else (spec_l06Ids.l0 k1 l0 (wrap64 (x3_1 + 1)))) else (none)) else (none)) = some r := by first | (rw [hji7] at H; exact H) | (simp only [hji7] at H ⊢; exact H)
   (try rw [hji7] at A4)
   have hji7w : (IntKind.i64.wrap (x3_1 - 1)) = ji7 := (i64_w _).trans hji7
   by_cases c8 : 0 ≤ (ji7)
   rotate_left
   · rw [if_neg c8] at H
     exact absurd H (by simp)
   rw [if_pos c8] at H
   have c8b0 : decide (0 ≤ (ji7)) = true := decide_eq_true c8
   clear c8
   by_cases c9 : (ji7) < (l0.length : Int)
   rotate_left
   · rw [if_neg c9] at H
     exact absurd H (by simp)
   rw [if_pos c9] at H
   have c9b0 : decide ((ji7) < (l0.length : Int)) = true := decide_eq_true c9
   clear c9
   have H9 := am H
   clear H
   have p292 : 0 ≤ (x3_1 : Int) := of_decide_eq_true Q1
   have q292 : x3_1 < (l0.length : Int) := of_decide_eq_true Q1
   obtain ⟨ad292, e292, hx292_0⟩ := Kd.at_int HR0.out x3_1 p292 q292
   cases e292
   replace p292 := eq_true p292
   replace q292 := eq_true q292
   go_upto_if 31 with (first | (go_at_call 63; (with_reducible refine (spec_l01In.calls (rd l0 x3_1) 0 99 true _ A4.out).mono ?_); rintro e w' ⟨rfl, ⟨nd, rfl⟩⟩; (try first | exact ⟨rfl, _, World.drewN_drewN _ _ _⟩ | exact ⟨rfl, _, Eq.trans (World.drewN_drewN _ _ _) (congrArg (World.drewN _) (Nat.add_assoc _ _ _))⟩); have p294 : 0 ≤ ((ji7) : Int) := of_decide_eq_true Q1; have q294 : (ji7) < (l0.length : Int) := of_decide_eq_true Q1; obtain ⟨ad294, e294, hx294_0⟩ := Kd.at_int HR0.out (ji7) p294 q294; obtain rfl : ad292 = ad294 := (by injection e294); replace p294 := eq_true p294; replace q294 := eq_true q294; have p295 : 0 ≤ (x3_1 : Int) := of_decide_eq_true Q1; have q295 : x3_1 < (l0.length : Int) := of_decide_eq_true Q1; obtain ⟨ad295, e295, hx295_0⟩ := Kd.at_int HR0.out x3_1 p295 q295; obtain rfl : ad292 = ad295 := (by injection e295); replace p295 := eq_true p295; replace q295 := eq_true q295))
   repeat (go_quiet (first | (go_at_call 63; (with_reducible refine (spec_l01In.calls (rd l0 x3_1) 0 99 true _ A4.out).mono ?_); rintro e w' ⟨rfl, ⟨nd, rfl⟩⟩; (try first | exact ⟨rfl, _, World.drewN_drewN _ _ _⟩ | exact ⟨rfl, _, Eq.trans (World.drewN_drewN _ _ _) (congrArg (World.drewN _) (Nat.add_assoc _ _ _))⟩); have p294 : 0 ≤ ((ji7) : Int) := of_decide_eq_true Q1; have q294 : (ji7) < (l0.length : Int) := of_decide_eq_true Q1; obtain ⟨ad294, e294, hx294_0⟩ := Kd.at_int HR0.out (ji7) p294 q294; obtain rfl : ad292 = ad294 := (by injection e294); replace p294 := eq_true p294; replace q294 := eq_true q294; have p295 : 0 ≤ (x3_1 : Int) := of_decide_eq_true Q1; have q295 : x3_1 < (l0.length : Int) := of_decide_eq_true Q1; obtain ⟨ad295, e295, hx295_0⟩ := Kd.at_int HR0.out x3_1 p295 q295; obtain rfl : ad292 = ad295 := (by injection e295); replace p295 := eq_true p295; replace q295 := eq_true q295)); go_upto_if 31 with (first | (go_at_call 63; (with_reducible refine (spec_l01In.calls (rd l0 x3_1) 0 99 true _ A4.out).mono ?_); rintro e w' ⟨rfl, ⟨nd, rfl⟩⟩; (try first | exact ⟨rfl, _, World.drewN_drewN _ _ _⟩ | exact ⟨rfl, _, Eq.trans (World.drewN_drewN _ _ _) (congrArg (World.drewN _) (Nat.add_assoc _ _ _))⟩); have p294 : 0 ≤ ((ji7) : Int) := of_decide_eq_true Q1; have q294 : (ji7) < (l0.length : Int) := of_decide_eq_true Q1; obtain ⟨ad294, e294, hx294_0⟩ := Kd.at_int HR0.out (ji7) p294 q294; obtain rfl : ad292 = ad294 := (by injection e294); replace p294 := eq_true p294; replace q294 := eq_true q294; have p295 : 0 ≤ (x3_1 : Int) := of_decide_eq_true Q1; have q295 : x3_1 < (l0.length : Int) := of_decide_eq_true Q1; obtain ⟨ad295, e295, hx295_0⟩ := Kd.at_int HR0.out x3_1 p295 q295; obtain rfl : ad292 = ad295 := (by injection e295); replace p295 := eq_true p295; replace q295 := eq_true q295)))
   have H := H9.out
   clear H9
   by_cases c10 : (rd l0 (ji7)) ≥ (rd l0 x3_1)
   · rw [if_pos c10] at H
     have c10b0 : decide ((rd l0 x3_1) ≤ (rd l0 (ji7))) = true := decide_eq_true c10
     clear c10
     (first | rw [c10b0] | (simp only [i64_w, i32_w]; rw [c10b0]) | skip)
     obtain rfl := sj H
     go_wp2
     repeat (go_quiet (fail); try go_wp2)
     go_ret
     exact ⟨by first | rfl | (simp; done) | (simp only [← hji7] <;> (first | rfl | simp)) | (simp [*]; done), Q4⟩
   rw [if_neg c10] at H
   have c10b0 : decide ((rd l0 x3_1) ≤ (rd l0 (ji7))) = false := decide_eq_false c10
   clear c10
   (first | rw [c10b0] | (simp only [i64_w, i32_w]; rw [c10b0]) | skip)
   have H' := am H
   clear H
   go_wp2
   repeat (go_quiet (fail); try go_wp2)
   go_roundg k1
   case measure => have := HK1.out; omega
   case rel => exact ⟨(wrap64 (x3_1 + 1)), Q3, H', ⟨by have := HK1.out; omega⟩, Q4⟩
def spec_l06Set.f (k : Nat) (l0 : List Int) : Option (Bool) := (spec_l06Ids.f k l0).bind fun t296 => (if t296 = true then (some (decide ((l0.length : Int) > 0))) else (some false))
theorem spec_l06Set.mono : ∀ a0 k, LeO (spec_l06Set.f k a0) (spec_l06Set.f (k + 1) a0) := by
 intro a0 k
 unfold spec_l06Set.f
 repeat' first
     | (with_reducible exact spec_l06Ids.mono _ _)
     | (with_reducible exact LeO.refl _)
     | (with_reducible exact LeO.none _)
     | (with_reducible refine LeO.ite ?_ ?_)
     | (with_reducible refine LeO.bind ?_ (fun _ => ?_))
     | exact spec_l06Ids.mono _ _
     | exact LeO.none _
     | refine LeO.ite ?_ ?_
     | refine LeO.bind ?_ (fun _ => ?_)
set_option maxHeartbeats 8000000 in
set_option maxRecDepth 100000 in
theorem spec_l06Set.calls (k : Nat) (A0 : Option Addr) (c0 : Nat) (l0 : List Int) (r : Bool) (w : World) (hr0 : Kd.C (Kd.int .i64) w A0 l0.length l0) (hc0 : l0.length ≤ c0) (h : spec_l06Set.f k l0 = some r) :
   Calls Try.prog 74 #[.slice A0 l0.length c0] w fun e w' => e = .returned (.bool r) ∧ Drawn0 w w' := by
 have HR0 := am hr0
 have HC0 := am hc0
 clear hr0 hc0
 have H : ((spec_l06Ids.f k l0).bind fun t296 => (if t296 = true then (some (decide ((l0.length : Int) > 0))) else (some false))) = some r := h
 clear h
 replace H := Option.bind_eq_some_iff.mp H
 obtain ⟨t296, A20, H⟩ := H
 replace H : (if t296 = true then (some (decide ((l0.length : Int) > 0))) else (some false)) = some r := H
 have A2 := am A20
 clear A20
 by_cases c3 : t296 = true
 · subst c3
   rw [if_pos rfl] at H
   obtain rfl := sj H
   go_enter Try.func74, Try.ntmps74
   go_wp2_with (first | ((with_reducible refine gate_callee (f := 112) rfl ?_); refine goesL_ (some 4) rfl rfl Try.func112 kr rfl #[.slice A0 l0.length c0] rfl Q0 ?_; (with_reducible refine (spec_l06Ids.calls k _ _ l0 true _ ?side1 ?side2 A2.out).mono ?_); (case side1 => exact u9_11); (case side2 => exact HC0.out); rintro e w' ⟨rfl, ⟨nd, rfl⟩⟩; refine ⟨_, rfl, ?_⟩))
   go_ret
   exact ⟨by first | rfl | (simp; done) | (simp [*]; done), Q4⟩
 replace c3 := Bool.eq_false_iff.mpr c3
 subst c3
 rw [nf] at H
 obtain rfl := sj H
 go_enter Try.func74, Try.ntmps74
 go_wp2_with (first | ((with_reducible refine gate_callee (f := 112) rfl ?_); refine goesL_ (some 4) rfl rfl Try.func112 kr rfl #[.slice A0 l0.length c0] rfl Q0 ?_; (with_reducible refine (spec_l06Ids.calls k _ _ l0 false _ ?side1 ?side2 A2.out).mono ?_); (case side1 => exact u9_11); (case side2 => exact HC0.out); rintro e w' ⟨rfl, ⟨nd, rfl⟩⟩; refine ⟨_, rfl, ?_⟩))
 go_ret
 exact ⟨by first | rfl | (simp; done) | (simp [*]; done), Q4⟩
end Go.Proofs.Ytkcadcoohmofcaa.QFnExactSettled
