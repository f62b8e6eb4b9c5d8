-- Printed by the session's own program wip/prx.py.
import Derived.Test.YtkcadcoohmofcaaSqFnExactPropose
import Derived.Test.YtkcadcoohmofcaaQFnExactProposex0
import Derived.Test.YtkcadcoohmofcaaQFnExactProposex4
namespace Go.Proofs.Ytkcadcoohmofcaa.QFnExactPropose
open Go.RowKit Go.Proofs.YtkcadcoohmofcaaW.PrintWords Go.Proofs.YtkcadcoohmofcaaW.PrintLast Go.Proofs.YtkcadcoohmofcaaW.PrintMore Go.Proofs.Ytkcadcoohmofcaa.SqFnExactPropose
attribute [local go_sem] max2_int min2_int max_two min_two max_three min_three max_four min_four Go.Proofs.Ytkcadcoohmofcaa.Set.isSome_setCell
set_option linter.unusedVariables false
set_option linter.unusedSimpArgs false

-- squeezed
theorem u5_5 {P : Prop} (h : P := by (with_reducible repeat (first | refine blk_drewN ?_ _ | refine blk_drew ?_ | refine blk_alloc ?_ _)); exact BK190.out) : P := h
theorem u5_9 {P : Prop} (h : P := by (with_reducible repeat (first | refine blk_drewN ?_ _ | refine blk_drew ?_ | refine blk_alloc ?_ _)); exact BK199.out) : P := h
theorem u5_11 {P : Prop} (h : P := by repeat (first | exact HR0.out | (with_reducible refine Kd.C_alloc ?_ _) | (with_reducible refine Kd.C_drewN ?_ _) | (with_reducible refine Kd.C_drew ?_))) : P := h
/-! ### spec_RLogOk: function 86 -/
mutual
def spec_RLogOk.j0 : Nat → Bool → Int → Int → List (S85) → Option (Bool)
 | 0, _, _, _, _ => none
 | k + 1, x29, x191000, x191001, x191002 => if x29 = true then (some false) else (spec_RLogOk.l0 k x191001 0 x191000 x191001 x191002)
def spec_RLogOk.l0 : Nat → Int → Int → Int → Int → List (S85) → Option (Bool)
 | 0, _, _, _, _, _ => none
 | k + 1, x3, x4, x191000, x191001, x191002 => if x4 < (x191002.length : Int) then (if 0 ≤ x4 then ((spec_l05Entry.f ((rd_T85 x191002 x4).f0) ((rd_T85 x191002 x4).f1)).bind fun t194 => (if t194 = true then (if ((rd_T85 x191002 x4).f0) < x3 then (some false) else (spec_RLogOk.l0 k ((rd_T85 x191002 x4).f0) (wrap64 (x4 + 1)) x191000 x191001 x191002)) else (some false))) else (none)) else (some true)
end
def spec_RLogOk.f (k : Nat) (a0_0 : Int) (a0_1 : Int) (l0_2 : List (S85)) : Option (Bool) := (spec_l01In.f a0_0 0 1000000).bind fun t191 => (if t191 = true then ((spec_l01In.f a0_1 0 1000000).bind fun t192 => (if t192 = true then (if ((a0_0 == 0) != (a0_1 == 0)) = true then (spec_RLogOk.j0 k true a0_0 a0_1 l0_2) else (spec_RLogOk.j0 k (decide ((l0_2.length : Int) > 60)) a0_0 a0_1 l0_2)) else (spec_RLogOk.j0 k true a0_0 a0_1 l0_2))) else (spec_RLogOk.j0 k true a0_0 a0_1 l0_2))
theorem spec_RLogOk.mono_l : ∀ k, (∀ y0 y1 y2 y3, LeO (spec_RLogOk.j0 k y0 y1 y2 y3) (spec_RLogOk.j0 (k + 1) y0 y1 y2 y3)) ∧ (∀ y0 y1 y2 y3 y4, LeO (spec_RLogOk.l0 k y0 y1 y2 y3 y4) (spec_RLogOk.l0 (k + 1) y0 y1 y2 y3 y4))
 | 0 => ⟨fun _ _ _ _ r h => by simp [spec_RLogOk.j0] at h, fun _ _ _ _ _ r h => by simp [spec_RLogOk.l0] at h⟩
 | k + 1 => by
   obtain ⟨ih0, ih1⟩ := spec_RLogOk.mono_l k
   refine ⟨?_, ?_⟩ <;> intros <;> (first | unfold spec_RLogOk.j0 | unfold spec_RLogOk.l0) <;> repeat' first
   | (with_reducible exact ih0 _ _ _ _)
   | (with_reducible exact ih1 _ _ _ _ _)
   | (with_reducible exact LeO.refl _)
   | (with_reducible exact LeO.none _)
   | (with_reducible refine LeO.ite ?_ ?_)
   | (with_reducible refine LeO.bind ?_ (fun _ => ?_))
   | exact ih0 _ _ _ _
   | exact ih1 _ _ _ _ _
   | exact LeO.none _
   | refine LeO.ite ?_ ?_
   | refine LeO.bind ?_ (fun _ => ?_)
theorem spec_RLogOk.mono : ∀ a0 a1 a2 k, LeO (spec_RLogOk.f k a0 a1 a2) (spec_RLogOk.f (k + 1) a0 a1 a2) := by
 intro a0 a1 a2 k
 obtain ⟨ih0, ih1⟩ := spec_RLogOk.mono_l k
 unfold spec_RLogOk.f
 repeat' first
     | (with_reducible exact ih0 _ _ _ _)
     | (with_reducible exact ih1 _ _ _ _ _)
     | (with_reducible exact LeO.refl _)
     | (with_reducible exact LeO.none _)
     | (with_reducible refine LeO.ite ?_ ?_)
     | (with_reducible refine LeO.bind ?_ (fun _ => ?_))
     | exact ih0 _ _ _ _
     | exact ih1 _ _ _ _ _
     | exact LeO.none _
     | refine LeO.ite ?_ ?_
     | refine LeO.bind ?_ (fun _ => ?_)
set_option maxHeartbeats 8000000 in
set_option maxRecDepth 100000 in
theorem spec_RLogOk.calls (k : Nat) (a0_0 : Int) (a0_1 : Int) (A0_2 : Option Addr) (c0_2 : Nat) (l0_2 : List (S85)) (r : Bool) (w : World) (hr0_2 : Kd.C k85 w A0_2 l0_2.length l0_2) (hc0_2 : l0_2.length ≤ c0_2) (h : spec_RLogOk.f k a0_0 a0_1 l0_2 = some r) :
   Calls Try.prog 86 #[.agg #[.int .i64 a0_0, .int .i64 a0_1, .slice A0_2 l0_2.length c0_2]] w fun e w' => e = .returned (.bool r) ∧ Below w.heap.size w w' := by
 have hu34 := Try.underlying34
 have hu85 := Try.underlying85
 have HR0_2 := am hr0_2
 have HC0_2 := am hc0_2
 clear hr0_2 hc0_2
 have HB := am (Below.refl w.heap.size w)
 have H : ((spec_l01In.f a0_0 0 1000000).bind fun t191 => (if t191 = true then ((spec_l01In.f a0_1 0 1000000).bind fun t192 => (if t192 = true then (if ((a0_0 == 0) != (a0_1 == 0)) = true then (spec_RLogOk.j0 k true a0_0 a0_1 l0_2) else (spec_RLogOk.j0 k (decide ((l0_2.length : Int) > 60)) a0_0 a0_1 l0_2)) else (spec_RLogOk.j0 k true a0_0 a0_1 l0_2))) else (spec_RLogOk.j0 k true a0_0 a0_1 l0_2))) = some r := h
 clear h
 have HC2 := am H
 clear H
 go_enter Try.func86, Try.ntmps86
 go_upto_region 1 with (first | ((with_reducible refine gate_dst (N := 1) rfl ?_); (try (refine gate_guard (by rfl) ?_; dsimp only)); refine box_event ?hg (N := 1) ?hd (cs := #[.int .i64 a0_0, .int .i64 a0_1, .slice A0_2 l0_2.length c0_2]) (t := 34) ?hr ?_; (case hd => rfl); (case hg => rfl); (case hr => first | (go_simp; done) | (go_simp; rfl)); intro gb190 hg w3 hbox hb; have BK190 := am (hbox); have GW190 := am ((by rw [hg]; exact (below_size Q1) : w.heap.size ≤ gb190)); have GE190 := am ((by rw [hg]; exact (below_size Q1) : w.heap.size ≤ gb190)); replace HB := am (below_step Q1 hb); clear hb hbox hg))
 (try simp only [Act.put, la, lb, lc])
 go_cut [29] (fun v29 wc => ∃ (kq : Nat) (x29_1 : Bool), v29 = .bool x29_1 ∧ Aside0 (spec_RLogOk.j0 kq x29_1 a0_0 a0_1 l0_2 = some r) ∧ Aside0 (kq ≤ k) ∧ Aside0 (wc.heap[gb190]? = some (.cells #[.int .i64 a0_0, .int .i64 a0_1, (.slice A0_2 l0_2.length c0_2)] 34 (0, 0))) ∧ Aside0 (Below w.heap.size w wc))
 case first =>
   have H := HC2.out
   clear HC2
   replace H := Option.bind_eq_some_iff.mp H
   obtain ⟨t191, A40, H⟩ := H
   have A4 := am A40
   clear A40
   by_cases c5 : t191 = true
   rotate_left
   · replace c5 := Bool.eq_false_iff.mpr c5
     subst c5
     rw [nf] at H
     have H' := am H
     clear H
     obtain ⟨hcz12_0, hcz12_1, hcz12_2⟩ := bc3 w3 BK190.out
     go_wp2_with (first | ((with_reducible refine gate_callee (f := 63) rfl ?_); refine goesL_ (some 7) rfl rfl Try.func63 kr rfl #[.int .i64 a0_0, .int .i64 0, .int .i64 1000000] rfl Q3 ?_; (with_reducible refine (spec_l01In.calls a0_0 0 1000000 false _ A4.out).mono ?_); rintro e w' ⟨rfl, ⟨nd, rfl⟩⟩; refine ⟨_, rfl, ?_⟩))
     go_meet
     case rel => exact ⟨_, (true), Q2, H', ⟨by first | omega | exact Nat.le_refl _⟩, ⟨u5_5⟩, ⟨Q1⟩⟩
   subst c5
   rw [if_pos rfl] at H
   replace H := Option.bind_eq_some_iff.mp H
   obtain ⟨t192, A60, H⟩ := H
   have A6 := am A60
   clear A60
   by_cases c7 : t192 = true
   rotate_left
   · replace c7 := Bool.eq_false_iff.mpr c7
     subst c7
     rw [nf] at H
     have H' := am H
     clear H
     obtain ⟨hcz11_0, hcz11_1, hcz11_2⟩ := bc3 w3 BK190.out
     go_wp2_with (first | ((with_reducible refine gate_callee (f := 63) rfl ?_); refine goesL_ (some 7) rfl rfl Try.func63 kr rfl #[.int .i64 a0_0, .int .i64 0, .int .i64 1000000] rfl Q3 ?_; (with_reducible refine (spec_l01In.calls a0_0 0 1000000 true _ A4.out).mono ?_); rintro e w' ⟨rfl, ⟨nd, rfl⟩⟩; refine ⟨_, rfl, ?_⟩) | (go_at_call 63; (with_reducible refine (spec_l01In.calls a0_1 0 1000000 false _ A6.out).mono ?_); rintro e w' ⟨rfl, ⟨nd, rfl⟩⟩))
     go_meet
     case rel => exact ⟨_, (true), Q2, H', ⟨by first | omega | exact Nat.le_refl _⟩, ⟨u5_5⟩, ⟨Q1⟩⟩
   subst c7
   rw [if_pos rfl] at H
   by_cases c8 : ((a0_0 == 0) != (a0_1 == 0)) = true
   rotate_left
   · rw [if_neg c8] at H
     have c8b0 : ((a0_0 == 0) != (a0_1 == 0)) = false := by simpa using c8
     (try (have c8b1 : decide ((a0_0 == 0) = (a0_1 == 0)) = true := by simpa using c8))
     (try (have c8b2 : ((a0_0 == 0) == (a0_1 == 0)) = true := by simpa using c8))
     clear c8
     (first | rw [c8b0] | (simp only [i64_w, i32_w]; rw [c8b0]) | rw [show (!(_ == _)) = _ from c8b0] | skip)
     have H' := am H
     clear H
     obtain ⟨hcz10_0, hcz10_1, hcz10_2⟩ := bc3 w3 BK190.out
     go_wp2_with (first | ((with_reducible refine gate_callee (f := 63) rfl ?_); refine goesL_ (some 7) rfl rfl Try.func63 kr rfl #[.int .i64 a0_0, .int .i64 0, .int .i64 1000000] rfl Q3 ?_; (with_reducible refine (spec_l01In.calls a0_0 0 1000000 true _ A4.out).mono ?_); rintro e w' ⟨rfl, ⟨nd, rfl⟩⟩; refine ⟨_, rfl, ?_⟩) | (go_at_call 63; (with_reducible refine (spec_l01In.calls a0_1 0 1000000 true _ A6.out).mono ?_); rintro e w' ⟨rfl, ⟨nd, rfl⟩⟩))
     go_meet
     case rel => exact ⟨_, (decide ((l0_2.length : Int) > 60)), Q2, H', ⟨by first | omega | exact Nat.le_refl _⟩, ⟨u5_5⟩, ⟨Q1⟩⟩
   rw [if_pos c8] at H
   have c8b0 : ((a0_0 == 0) != (a0_1 == 0)) = true := c8
   (try (have c8b1 : decide ((a0_0 == 0) = (a0_1 == 0)) = false := by simpa using c8))
   (try (have c8b2 : ((a0_0 == 0) == (a0_1 == 0)) = false := by simpa using c8))
   (try (have c8b3 : ¬ ((a0_0 == 0) = (a0_1 == 0)) := by simpa using c8))
   clear c8
   (first | rw [c8b0] | (simp only [i64_w, i32_w]; rw [c8b0]) | rw [show (!(_ == _)) = _ from c8b0] | skip)
   have H' := am H
   clear H
   obtain ⟨hcz9_0, hcz9_1, hcz9_2⟩ := bc3 w3 BK190.out
   go_wp2_with (first | ((with_reducible refine gate_callee (f := 63) rfl ?_); refine goesL_ (some 7) rfl rfl Try.func63 kr rfl #[.int .i64 a0_0, .int .i64 0, .int .i64 1000000] rfl Q3 ?_; (with_reducible refine (spec_l01In.calls a0_0 0 1000000 true _ A4.out).mono ?_); rintro e w' ⟨rfl, ⟨nd, rfl⟩⟩; refine ⟨_, rfl, ?_⟩) | (go_at_call 63; (with_reducible refine (spec_l01In.calls a0_1 0 1000000 true _ A6.out).mono ?_); rintro e w' ⟨rfl, ⟨nd, rfl⟩⟩))
   go_meet
   case rel => exact ⟨_, (true), Q2, H', ⟨by first | omega | exact Nat.le_refl _⟩, ⟨u5_5⟩, ⟨Q1⟩⟩
 clear HC2
 obtain ⟨kq, x29_1, rfl, HA, HJ1, BK190, HB⟩ := hcut
 cases kq with
 | zero => exact absurd HA.out (by simp [spec_RLogOk.j0])
 | succ kj1 =>
   have H := HA.out
   clear HA
   simp only [spec_RLogOk.j0] at H
   by_cases c13 : x29_1 = true
   · subst c13
     rw [if_pos rfl] at H
     obtain rfl := sj H
     go_wp2
     go_ret
     exact ⟨er, Q1⟩
   replace c13 := Bool.eq_false_iff.mpr c13
   subst c13
   rw [nf] at H
   have H' := am H
   clear H
   obtain ⟨hcz14_0, hcz14_1, hcz14_2⟩ := bc3 wc BK190.out
   go_wp2
   go_loopg [3, 4] kj1 (fun kq v3 v4 w' => ∃ (x3_2 : Int) (x4_2 : Int), v3 = .int .i64 x3_2 ∧ v4 = .int .i64 x4_2 ∧ Aside0 (spec_RLogOk.l0 kq x3_2 x4_2 a0_0 a0_1 l0_2 = some r) ∧ Aside0 (kq ≤ kj1) ∧ Aside0 (w'.heap[gb190]? = some (.cells #[.int .i64 a0_0, .int .i64 a0_1, (.slice A0_2 l0_2.length c0_2)] 34 (0, 0))) ∧ Aside0 (Below w.heap.size w w'))
   case atStart => exact ⟨(a0_1), (0), Q2, Q2, H', ⟨Nat.le_refl _⟩, ⟨u5_5⟩, ⟨Q1⟩⟩
   clear H'
   try clear c13
   try clear hcz14_0
   try clear hcz14_1
   try clear hcz14_2
   obtain ⟨x3_2, x4_2, rfl, rfl, HA, HK2, BK190, HB⟩ := hrel
   cases gk with
   | zero => exact absurd HA.out (by simp [spec_RLogOk.l0])
   | succ k2 =>
     have H := HA.out
     clear HA
     simp only [spec_RLogOk.l0] at H
     by_cases c15 : x4_2 < (l0_2.length : Int)
     rotate_left
     · rw [if_neg c15] at H
       have c15b0 : decide (x4_2 < (l0_2.length : Int)) = false := decide_eq_false c15
       clear c15
       obtain rfl := sj H
       obtain ⟨hcz26_0, hcz26_1, hcz26_2⟩ := bc3 wr BK190.out
       go_wp2
       go_ret
       exact ⟨er, Q1⟩
     rw [if_pos c15] at H
     have c15b0 : decide (x4_2 < (l0_2.length : Int)) = true := decide_eq_true c15
     clear c15
     by_cases c16 : 0 ≤ x4_2
     rotate_left
     · rw [if_neg c16] at H
       exact absurd H (by simp)
     rw [if_pos c16] at H
     have c16b0 : decide (0 ≤ x4_2) = true := decide_eq_true c16
     clear c16
     replace H := Option.bind_eq_some_iff.mp H
     obtain ⟨t194, A170, H⟩ := H
     have A17 := am A170
     clear A170
     by_cases c18 : t194 = true
     rotate_left
     · replace c18 := Bool.eq_false_iff.mpr c18
       subst c18
       rw [nf] at H
       obtain rfl := sj H
       obtain ⟨hcz24_0, hcz24_1, hcz24_2⟩ := bc3 wr BK190.out
       have p193 : 0 ≤ (x4_2 : Int) := of_decide_eq_true Q0
       have q193 : x4_2 < (l0_2.length : Int) := of_decide_eq_true Q0
       obtain ⟨ad193, e193, hx193_0, hx193_1⟩ := at_T85 HR0_2.out x4_2 p193 q193
       cases e193
       replace hx193_0 := cm HB.out hx193_0
       replace hx193_1 := cm HB.out hx193_1
       replace p193 := eq_true p193
       replace q193 := eq_true q193
       go_wp2_with (first | ((with_reducible refine gate_callee (f := 64) rfl ?_); refine goesL_ (some 44) rfl rfl Try.func64 kr rfl #[.agg #[.int .i64 ((rd_T85 l0_2 x4_2).f0), .string ((rd_T85 l0_2 x4_2).f1)]] rfl Q3 ?_; (with_reducible refine (spec_l05Entry.calls ((rd_T85 l0_2 x4_2).f0) ((rd_T85 l0_2 x4_2).f1) false _ A17.out).mono ?_); rintro e w25 ⟨rfl, hb⟩; refine ⟨_, rfl, ?_⟩; replace BK190 := am (blk_below (g := gb190) (o := .cells #[.int .i64 a0_0, .int .i64 a0_1, .slice (some ad193) l0_2.length c0_2] 34 (0, 0)) u5_5 hb); replace HB := am (below_step Q1 hb); (try clear hb); (try clear hb2); (try clear hk); (try clear hi)))
       go_ret
       exact ⟨er, Q1⟩
     subst c18
     rw [if_pos rfl] at H
     have H9 := am H
     clear H
     obtain ⟨hcz19_0, hcz19_1, hcz19_2⟩ := bc3 wr BK190.out
     have p193 : 0 ≤ (x4_2 : Int) := of_decide_eq_true Q0
     have q193 : x4_2 < (l0_2.length : Int) := of_decide_eq_true Q0
     obtain ⟨ad193, e193, hx193_0, hx193_1⟩ := at_T85 HR0_2.out x4_2 p193 q193
     cases e193
     replace hx193_0 := cm HB.out hx193_0
     replace hx193_1 := cm HB.out hx193_1
     replace p193 := eq_true p193
     replace q193 := eq_true q193
     go_upto_if 55 with (first | ((with_reducible refine gate_callee (f := 64) rfl ?_); refine goesL_ (some 44) rfl rfl Try.func64 kr rfl #[.agg #[.int .i64 ((rd_T85 l0_2 x4_2).f0), .string ((rd_T85 l0_2 x4_2).f1)]] rfl Q3 ?_; (with_reducible refine (spec_l05Entry.calls ((rd_T85 l0_2 x4_2).f0) ((rd_T85 l0_2 x4_2).f1) true _ A17.out).mono ?_); rintro e w20 ⟨rfl, hb⟩; refine ⟨_, rfl, ?_⟩; replace BK190 := am (blk_below (g := gb190) (o := .cells #[.int .i64 a0_0, .int .i64 a0_1, .slice (some ad193) l0_2.length c0_2] 34 (0, 0)) u5_5 hb); replace HB := am (below_step Q1 hb); (try clear hb); (try clear hb2); (try clear hk); (try clear hi); obtain ⟨hcz21_0, hcz21_1, hcz21_2⟩ := bc3 w20 BK190.out; have p195 : 0 ≤ (x4_2 : Int) := of_decide_eq_true Q0; have q195 : x4_2 < (l0_2.length : Int) := of_decide_eq_true Q0; obtain ⟨ad195, e195, hx195_0, hx195_1⟩ := at_T85 HR0_2.out x4_2 p195 q195; obtain rfl : ad193 = ad195 := (by injection e195); replace hx195_0 := cm HB.out hx195_0; replace hx195_1 := cm HB.out hx195_1; replace p195 := eq_true p195; replace q195 := eq_true q195))
     have H := H9.out
     clear H9
     by_cases c22 : ((rd_T85 l0_2 x4_2).f0) < x3_2
     · rw [if_pos c22] at H
       have c22b0 : decide (((rd_T85 l0_2 x4_2).f0) < x3_2) = true := decide_eq_true c22
       clear c22
       (first | rw [c22b0] | (simp only [i64_w, i32_w]; rw [c22b0]) | skip)
       obtain rfl := sj H
       go_wp2
       go_ret
       exact ⟨er, Q1⟩
     rw [if_neg c22] at H
     have c22b0 : decide (((rd_T85 l0_2 x4_2).f0) < x3_2) = false := decide_eq_false c22
     clear c22
     (first | rw [c22b0] | (simp only [i64_w, i32_w]; rw [c22b0]) | skip)
     have H' := am H
     clear H
     obtain ⟨hcz23_0, hcz23_1, hcz23_2⟩ := bc3 w20 BK190.out
     have p196 : 0 ≤ (x4_2 : Int) := of_decide_eq_true Q0
     have q196 : x4_2 < (l0_2.length : Int) := of_decide_eq_true Q0
     obtain ⟨ad196, e196, hx196_0, hx196_1⟩ := at_T85 HR0_2.out x4_2 p196 q196
     obtain rfl : ad193 = ad196 := (by injection e196)
     replace hx196_0 := cm HB.out hx196_0
     replace hx196_1 := cm HB.out hx196_1
     replace p196 := eq_true p196
     replace q196 := eq_true q196
     go_wp2
     go_roundg k2
     case measure => have := HJ1.out; have := HK2.out; omega
     case rel => exact ⟨((rd_T85 l0_2 x4_2).f0), (wrap64 (x4_2 + 1)), Q2, Q2, H', ⟨(by have := HJ1.out; have := HK2.out; omega)⟩, ⟨u5_5⟩, ⟨Q1⟩⟩

/-! ### spec_LastIndex: function 72 -/
def spec_LastIndex.f (k : Nat) (a0_0 : Int) (a0_1 : Int) (l0_2 : List (S85)) : Option (Int) := (spec_RLogOk.f k a0_0 a0_1 l0_2).bind fun t198 => (if t198 = true then (some (wrap64 (a0_0 + (l0_2.length : Int)))) else (some (-1)))
theorem spec_LastIndex.mono : ∀ a0 a1 a2 k, LeO (spec_LastIndex.f k a0 a1 a2) (spec_LastIndex.f (k + 1) a0 a1 a2) := by
 intro a0 a1 a2 k
 unfold spec_LastIndex.f
 repeat' first
     | (with_reducible exact spec_RLogOk.mono _ _ _ _)
     | (with_reducible exact LeO.refl _)
     | (with_reducible exact LeO.none _)
     | (with_reducible refine LeO.ite ?_ ?_)
     | (with_reducible refine LeO.bind ?_ (fun _ => ?_))
     | exact spec_RLogOk.mono _ _ _ _
     | exact LeO.none _
     | refine LeO.ite ?_ ?_
     | refine LeO.bind ?_ (fun _ => ?_)
set_option maxHeartbeats 8000000 in
set_option maxRecDepth 100000 in
theorem spec_LastIndex.calls (k : Nat) (a0_0 : Int) (a0_1 : Int) (A0_2 : Option Addr) (c0_2 : Nat) (l0_2 : List (S85)) (r : Int) (w : World) (hr0_2 : Kd.C k85 w A0_2 l0_2.length l0_2) (hc0_2 : l0_2.length ≤ c0_2) (h : spec_LastIndex.f k a0_0 a0_1 l0_2 = some r) :
   Calls Try.prog 72 #[.agg #[.int .i64 a0_0, .int .i64 a0_1, .slice A0_2 l0_2.length c0_2]] w fun e w' => e = .returned (.int .i64 r) ∧ Below w.heap.size w w' := by
 have hu34 := Try.underlying34
 have HR0_2 := am hr0_2
 have HC0_2 := am hc0_2
 clear hr0_2 hc0_2
 have HB := am (Below.refl w.heap.size w)
 have H : ((spec_RLogOk.f k a0_0 a0_1 l0_2).bind fun t198 => (if t198 = true then (some (wrap64 (a0_0 + (l0_2.length : Int)))) else (some (-1)))) = some r := h
 clear h
 replace H := Option.bind_eq_some_iff.mp H
 obtain ⟨t198, A20, H⟩ := H
 replace H : (if t198 = true then (some (wrap64 (a0_0 + (l0_2.length : Int)))) else (some (-1))) = some r := H
 have A2 := am A20
 clear A20
 have H9 := am H
 clear H
 go_enter Try.func72, Try.ntmps72
 go_upto_if 5 with (first | ((with_reducible refine gate_dst (N := 1) rfl ?_); refine box_event ?hg (N := 1) ?hd (cs := #[.int .i64 a0_0, .int .i64 a0_1, .slice A0_2 l0_2.length c0_2]) (t := 34) ?hr ?_; (case hd => rfl); (case hg => rfl); (case hr => first | (go_simp; done) | (go_simp; rfl)); intro gb197 hg w3 hbox hb; have BK197 := am (hbox); have GW197 := am ((by rw [hg]; exact (below_size Q1) : w.heap.size ≤ gb197)); have GE197 := am ((by rw [hg]; exact (below_size Q1) : w.heap.size ≤ gb197)); replace HB := am (below_step Q1 hb); clear hb hbox hg; obtain ⟨hcz4_0, hcz4_1, hcz4_2⟩ := bc3 w3 BK197.out) | ((with_reducible refine gate_callee (f := 86) rfl ?_); refine goesL_ (some 4) rfl rfl Try.func86 kr rfl #[.agg #[.int .i64 a0_0, .int .i64 a0_1, .slice A0_2 l0_2.length c0_2]] rfl Q3 ?_; (with_reducible refine (spec_RLogOk.calls k a0_0 a0_1 _ _ l0_2 t198 _ ?side1 ?side2 A2.out).mono ?_); (case side1 => exact Q5); (case side2 => exact HC0_2.out); rintro e w5 ⟨rfl, hb⟩; refine ⟨_, rfl, ?_⟩; replace BK197 := am (blk_below (g := gb197) (o := .cells #[.int .i64 a0_0, .int .i64 a0_1, .slice A0_2 l0_2.length c0_2] 34 (0, 0)) (by (with_reducible repeat (first | refine blk_drewN ?_ _ | refine blk_drew ?_ | refine blk_alloc ?_ _)); exact BK197.out) hb); replace HB := am (below_step Q1 hb); (try clear hb); (try clear hb2); (try clear hk); (try clear hi)))
 have H := H9.out
 clear H9
 by_cases c6 : t198 = true
 rotate_left
 · replace c6 := Bool.eq_false_iff.mpr c6
   subst c6
   rw [nf] at H
   obtain rfl := sj H
   go_wp2
   go_ret
   exact ⟨er, Q1⟩
 subst c6
 rw [if_pos rfl] at H
 obtain rfl := sj H
 obtain ⟨hcz7_0, hcz7_1, hcz7_2⟩ := bc3 w5 BK197.out
 go_wp2
 go_ret
 exact ⟨er, Q1⟩

/-! ### spec_TermAt: function 73 -/
def spec_TermAt.j0 : Nat → Int → Bool → Int → Int → List (S85) → Option (Int)
 | 0, _, _, _, _, _ => none
 | k + 1, x1, x20, x200000, x200001, x200002 => if x20 = true then (some (-1)) else (if x1 = x200000 then (some x200001) else (if 0 ≤ (wrap64 ((wrap64 (x1 - x200000)) - 1)) then (if (wrap64 ((wrap64 (x1 - x200000)) - 1)) < (x200002.length : Int) then (some ((rd_T85 x200002 (wrap64 ((wrap64 (x1 - x200000)) - 1))).f0)) else (none)) else (none)))
def spec_TermAt.f (k : Nat) (a0_0 : Int) (a0_1 : Int) (l0_2 : List (S85)) (a1 : Int) : Option (Int) := (spec_RLogOk.f k a0_0 a0_1 l0_2).bind fun t200 => (if t200 = true then ((spec_l01In.f a1 a0_0 (wrap64 (a0_0 + (l0_2.length : Int)))).bind fun t201 => (spec_TermAt.j0 k a1 (!t201) a0_0 a0_1 l0_2)) else (spec_TermAt.j0 k a1 true a0_0 a0_1 l0_2))
theorem spec_TermAt.mono_l : ∀ k, (∀ y0 y1 y2 y3 y4, LeO (spec_TermAt.j0 k y0 y1 y2 y3 y4) (spec_TermAt.j0 (k + 1) y0 y1 y2 y3 y4))
 | 0 => fun _ _ _ _ _ r h => by simp [spec_TermAt.j0] at h
 | k + 1 => by
   have ih0 := spec_TermAt.mono_l k
   · intro y0 y1 y2 y3 y4
     unfold spec_TermAt.j0
     repeat' first
     | (with_reducible exact ih0 _ _ _ _ _)
     | (with_reducible exact spec_RLogOk.mono _ _ _ _)
     | (with_reducible exact LeO.refl _)
     | (with_reducible exact LeO.none _)
     | (with_reducible refine LeO.ite ?_ ?_)
     | (with_reducible refine LeO.bind ?_ (fun _ => ?_))
     | exact ih0 _ _ _ _ _
     | exact spec_RLogOk.mono _ _ _ _
     | exact LeO.none _
     | refine LeO.ite ?_ ?_
     | refine LeO.bind ?_ (fun _ => ?_)
theorem spec_TermAt.mono : ∀ a0 a1 a2 a3 k, LeO (spec_TermAt.f k a0 a1 a2 a3) (spec_TermAt.f (k + 1) a0 a1 a2 a3) := by
 intro a0 a1 a2 a3 k
 have ih0 := spec_TermAt.mono_l k
 unfold spec_TermAt.f
 repeat' first
     | (with_reducible exact ih0 _ _ _ _ _)
     | (with_reducible exact spec_RLogOk.mono _ _ _ _)
     | (with_reducible exact LeO.refl _)
     | (with_reducible exact LeO.none _)
     | (with_reducible refine LeO.ite ?_ ?_)
     | (with_reducible refine LeO.bind ?_ (fun _ => ?_))
     | exact ih0 _ _ _ _ _
     | exact spec_RLogOk.mono _ _ _ _
     | exact LeO.none _
     | refine LeO.ite ?_ ?_
     | refine LeO.bind ?_ (fun _ => ?_)
set_option maxHeartbeats 8000000 in
set_option maxRecDepth 100000 in
theorem spec_TermAt.calls (k : Nat) (a0_0 : Int) (a0_1 : Int) (A0_2 : Option Addr) (c0_2 : Nat) (l0_2 : List (S85)) (a1 : Int) (r : Int) (w : World) (hr0_2 : Kd.C k85 w A0_2 l0_2.length l0_2) (hc0_2 : l0_2.length ≤ c0_2) (h : spec_TermAt.f k a0_0 a0_1 l0_2 a1 = some r) :
   Calls Try.prog 73 #[.agg #[.int .i64 a0_0, .int .i64 a0_1, .slice A0_2 l0_2.length c0_2], .int .i64 a1] w fun e w' => e = .returned (.int .i64 r) ∧ Below w.heap.size w w' := by
 have hu34 := Try.underlying34
 have HR0_2 := am hr0_2
 have HC0_2 := am hc0_2
 clear hr0_2 hc0_2
 have HB := am (Below.refl w.heap.size w)
 have H : ((spec_RLogOk.f k a0_0 a0_1 l0_2).bind fun t200 => (if t200 = true then ((spec_l01In.f a1 a0_0 (wrap64 (a0_0 + (l0_2.length : Int)))).bind fun t201 => (spec_TermAt.j0 k a1 (!t201) a0_0 a0_1 l0_2)) else (spec_TermAt.j0 k a1 true a0_0 a0_1 l0_2))) = some r := h
 clear h
 have HC3 := am H
 clear H
 go_enter Try.func73, Try.ntmps73
 go_upto_region 1 with (first | ((with_reducible refine gate_dst (N := 2) rfl ?_); (try (refine gate_guard (by rfl) ?_; dsimp only)); refine box_event ?hg (N := 2) ?hd (cs := #[.int .i64 a0_0, .int .i64 a0_1, .slice A0_2 l0_2.length c0_2]) (t := 34) ?hr ?_; (case hd => rfl); (case hg => rfl); (case hr => first | (go_simp; done) | (go_simp; rfl)); intro gb199 hg w4 hbox hb; have BK199 := am (hbox); have GW199 := am ((by rw [hg]; exact (below_size Q1) : w.heap.size ≤ gb199)); have GE199 := am ((by rw [hg]; exact (below_size Q1) : w.heap.size ≤ gb199)); replace HB := am (below_step Q1 hb); clear hb hbox hg))
 (try simp only [Act.put, la, lb, lc])
 go_cut [20] (fun v20 wc => ∃ (kq : Nat) (x20_2 : Bool), v20 = .bool x20_2 ∧ Aside0 (spec_TermAt.j0 kq a1 x20_2 a0_0 a0_1 l0_2 = some r) ∧ Aside0 (kq ≤ k) ∧ Aside0 (wc.heap[gb199]? = some (.cells #[.int .i64 a0_0, .int .i64 a0_1, (.slice A0_2 l0_2.length c0_2)] 34 (0, 0))) ∧ Aside0 (Below w.heap.size w wc))
 case first =>
   have H := HC3.out
   clear HC3
   replace H := Option.bind_eq_some_iff.mp H
   obtain ⟨t200, A50, H⟩ := H
   have A5 := am A50
   clear A50
   by_cases c6 : t200 = true
   rotate_left
   · replace c6 := Bool.eq_false_iff.mpr c6
     subst c6
     rw [nf] at H
     have H' := am H
     clear H
     obtain ⟨hcz11_0, hcz11_1, hcz11_2⟩ := bc3 w4 BK199.out
     go_wp2_with (first | ((with_reducible refine gate_callee (f := 86) rfl ?_); refine goesL_ (some 6) rfl rfl Try.func86 kr rfl #[.agg #[.int .i64 a0_0, .int .i64 a0_1, .slice A0_2 l0_2.length c0_2]] rfl Q3 ?_; (with_reducible refine (spec_RLogOk.calls k a0_0 a0_1 _ _ l0_2 false _ ?side1 ?side2 A5.out).mono ?_); (case side1 => exact Q5); (case side2 => exact HC0_2.out); rintro e w12 ⟨rfl, hb⟩; refine ⟨_, rfl, ?_⟩; replace BK199 := am (blk_below (g := gb199) (o := .cells #[.int .i64 a0_0, .int .i64 a0_1, .slice A0_2 l0_2.length c0_2] 34 (0, 0)) u5_9 hb); replace HB := am (below_step Q1 hb); (try clear hb); (try clear hb2); (try clear hk); (try clear hi)))
     go_meet
     case rel => exact ⟨_, (true), Q2, H', ⟨by first | omega | exact Nat.le_refl _⟩, ⟨u5_9⟩, ⟨Q1⟩⟩
   subst c6
   rw [if_pos rfl] at H
   replace H := Option.bind_eq_some_iff.mp H
   obtain ⟨t201, A70, H⟩ := H
   replace H : (spec_TermAt.j0 k a1 (!t201) a0_0 a0_1 l0_2) = some r := H
   have A7 := am A70
   clear A70
   have H' := am H
   clear H
   obtain ⟨hcz8_0, hcz8_1, hcz8_2⟩ := bc3 w4 BK199.out
   go_wp2_with (first | ((with_reducible refine gate_callee (f := 86) rfl ?_); refine goesL_ (some 6) rfl rfl Try.func86 kr rfl #[.agg #[.int .i64 a0_0, .int .i64 a0_1, .slice A0_2 l0_2.length c0_2]] rfl Q3 ?_; (with_reducible refine (spec_RLogOk.calls k a0_0 a0_1 _ _ l0_2 true _ ?side1 ?side2 A5.out).mono ?_); (case side1 => exact Q5); (case side2 => exact HC0_2.out); rintro e w9 ⟨rfl, hb⟩; refine ⟨_, rfl, ?_⟩; replace BK199 := am (blk_below (g := gb199) (o := .cells #[.int .i64 a0_0, .int .i64 a0_1, .slice A0_2 l0_2.length c0_2] 34 (0, 0)) u5_9 hb); replace HB := am (below_step Q1 hb); (try clear hb); (try clear hb2); (try clear hk); (try clear hi); obtain ⟨hcz10_0, hcz10_1, hcz10_2⟩ := bc3 w9 BK199.out) | (go_at_call 63; (with_reducible refine (spec_l01In.calls a1 a0_0 (wrap64 (a0_0 + (l0_2.length : Int))) t201 _ A7.out).mono ?_); rintro e w' ⟨rfl, ⟨nd, rfl⟩⟩))
   go_meet
   case rel => exact ⟨_, (!t201), Q2, H', ⟨by first | omega | exact Nat.le_refl _⟩, ⟨u5_9⟩, ⟨Q1⟩⟩
 clear HC3
 obtain ⟨kq, x20_2, rfl, HA, HJ2, BK199, HB⟩ := hcut
 cases kq with
 | zero => exact absurd HA.out (by simp [spec_TermAt.j0])
 | succ kj2 =>
   have H := HA.out
   clear HA
   simp only [spec_TermAt.j0] at H
   by_cases c13 : x20_2 = true
   · subst c13
     rw [if_pos rfl] at H
     obtain rfl := sj H
     go_wp2
     go_ret
     exact ⟨er, Q1⟩
   replace c13 := Bool.eq_false_iff.mpr c13
   subst c13
   rw [nf] at H
   by_cases c14 : a1 = a0_0
   · rw [if_pos c14] at H
     have c14b0 : (a1 == a0_0) = true := beq_iff_eq.mpr c14
     have c14b1 : (a1 != a0_0) = false := bne_eq_false_iff_eq.mpr c14
     clear c14
     obtain rfl := sj H
     obtain ⟨hcz15_0, hcz15_1, hcz15_2⟩ := bc3 wc BK199.out
     go_wp2
     go_ret
     exact ⟨er, Q1⟩
   rw [if_neg c14] at H
   have c14b0 : (a1 == a0_0) = false := beq_eq_false_iff_ne.mpr c14
   have c14b1 : (a1 != a0_0) = true := bne_iff_ne.mpr c14
   obtain ⟨ji16, hji16⟩ : ∃ j_ : Int, (wrap64 ((wrap64 (a1 - a0_0)) - 1)) = j_ := ⟨_, rfl⟩
   replace H : (if 0 ≤ (ji16) then (if (ji16) < (l0_2.length : Int) then (some ((rd_T85 l0_2 (ji16)).f0)) else (none)) else (none)) = some r := by first | (rw [hji16] at H; exact H) | (simp only [hji16] at H ⊢; exact H)
   have hji16w : (IntKind.i64.wrap ((wrap64 (a1 - a0_0)) - 1)) = ji16 := (i64_w _).trans hji16
   by_cases c17 : 0 ≤ (ji16)
   rotate_left
   · rw [if_neg c17] at H
     exact absurd H (by simp)
   rw [if_pos c17] at H
   have c17b0 : decide (0 ≤ (ji16)) = true := decide_eq_true c17
   clear c17
   by_cases c18 : (ji16) < (l0_2.length : Int)
   rotate_left
   · rw [if_neg c18] at H
     exact absurd H (by simp)
   rw [if_pos c18] at H
   have c18b0 : decide ((ji16) < (l0_2.length : Int)) = true := decide_eq_true c18
   clear c18
   obtain rfl := sj H
   obtain ⟨hcz19_0, hcz19_1, hcz19_2⟩ := bc3 wc BK199.out
   have p202 : 0 ≤ ((ji16) : Int) := of_decide_eq_true Q0
   have q202 : (ji16) < (l0_2.length : Int) := of_decide_eq_true Q0
   obtain ⟨ad202, e202, hx202_0, hx202_1⟩ := at_T85 HR0_2.out (ji16) p202 q202
   cases e202
   replace hx202_0 := cm HB.out hx202_0
   replace hx202_1 := cm HB.out hx202_1
   replace p202 := eq_true p202
   replace q202 := eq_true q202
   go_wp2
   go_ret
   exact ⟨by first | rfl | (simp [errW_none, errW_some] <;> rfl) | (simp only [← hji16]; first | rfl | (simp [errW_none, errW_some] <;> rfl)) | (simp [*, errW_none, errW_some] <;> rfl), Q1⟩

/-! ### spec_l06Ids: function 112 -/
def spec_l06Ids.l0 : Nat → List Int → Int → Option (Bool)
 | 0, _, _ => none
 | k + 1, x0, x3 => if x3 < (x0.length : Int) then (if 0 ≤ x3 then ((spec_l01In.f (rd x0 x3) 0 99).bind fun t204 => (if t204 = true then (if x3 > 0 then (if 0 ≤ (wrap64 (x3 - 1)) then (if (wrap64 (x3 - 1)) < (x0.length : Int) then (if (rd x0 (wrap64 (x3 - 1))) ≥ (rd x0 x3) then (some false) else (spec_l06Ids.l0 k x0 (wrap64 (x3 + 1)))) else (none)) else (none)) else (spec_l06Ids.l0 k x0 (wrap64 (x3 + 1)))) else (some false))) else (none)) else (some (decide ((x0.length : Int) ≤ 7)))
def spec_l06Ids.f (k : Nat) (l0 : List Int) : Option (Bool) := spec_l06Ids.l0 k l0 0
theorem spec_l06Ids.mono_l : ∀ k, (∀ y0 y1, LeO (spec_l06Ids.l0 k y0 y1) (spec_l06Ids.l0 (k + 1) y0 y1))
 | 0 => fun _ _ r h => by simp [spec_l06Ids.l0] at h
 | k + 1 => by
   have ih0 := spec_l06Ids.mono_l k
   · intro y0 y1
     unfold spec_l06Ids.l0
     repeat' first
     | (with_reducible exact ih0 _ _)
     | (with_reducible exact LeO.refl _)
     | (with_reducible exact LeO.none _)
     | (with_reducible refine LeO.ite ?_ ?_)
     | (with_reducible refine LeO.bind ?_ (fun _ => ?_))
     | exact ih0 _ _
     | exact LeO.none _
     | refine LeO.ite ?_ ?_
     | refine LeO.bind ?_ (fun _ => ?_)
theorem spec_l06Ids.mono : ∀ a0 k, LeO (spec_l06Ids.f k a0) (spec_l06Ids.f (k + 1) a0) := by
 intro a0 k
 have ih0 := spec_l06Ids.mono_l k
 unfold spec_l06Ids.f
 repeat' first
     | (with_reducible exact ih0 _ _)
     | (with_reducible exact LeO.refl _)
     | (with_reducible exact LeO.none _)
     | (with_reducible refine LeO.ite ?_ ?_)
     | (with_reducible refine LeO.bind ?_ (fun _ => ?_))
     | exact ih0 _ _
     | exact LeO.none _
     | refine LeO.ite ?_ ?_
     | refine LeO.bind ?_ (fun _ => ?_)
set_option maxHeartbeats 8000000 in
set_option maxRecDepth 100000 in
theorem spec_l06Ids.calls (k : Nat) (A0 : Option Addr) (c0 : Nat) (l0 : List Int) (r : Bool) (w : World) (hr0 : Kd.C (Kd.int .i64) w A0 l0.length l0) (hc0 : l0.length ≤ c0) (h : spec_l06Ids.f k l0 = some r) :
   Calls Try.prog 112 #[.slice A0 l0.length c0] w fun e w' => e = .returned (.bool r) ∧ Drawn0 w w' := by
 have HR0 := am hr0
 have HC0 := am hc0
 clear hr0 hc0
 have H : (spec_l06Ids.l0 k l0 0) = some r := h
 clear h
 have H' := am H
 clear H
 go_enter Try.func112, Try.ntmps112
 go_wp2
 repeat (go_quiet (fail); try go_wp2)
 go_loopg [3] k (fun kq v3 w' => ∃ (x3_1 : Int), v3 = .int .i64 x3_1 ∧ Aside0 (spec_l06Ids.l0 kq l0 x3_1 = some r) ∧ Aside0 (kq ≤ k) ∧ Drawn0 w w')
 case atStart => exact ⟨(0), Q2, H', ⟨Nat.le_refl _⟩, Q4⟩
 clear H'
 obtain ⟨x3_1, rfl, HA, HK1, ⟨m1, rfl⟩⟩ := hrel
 cases gk with
 | zero => exact absurd HA.out (by simp [spec_l06Ids.l0])
 | succ k1 =>
   have H := HA.out
   clear HA
   simp only [spec_l06Ids.l0] at H
   by_cases c2 : x3_1 < (l0.length : Int)
   rotate_left
   · rw [if_neg c2] at H
     have c2b0 : decide (x3_1 < (l0.length : Int)) = false := decide_eq_false c2
     clear c2
     obtain rfl := sj H
     go_wp2
     repeat (go_quiet (fail); try go_wp2)
     go_ret
     exact ⟨by first | rfl | (simp; done) | (simp [*]; done), Q4⟩
   rw [if_pos c2] at H
   have c2b0 : decide (x3_1 < (l0.length : Int)) = true := decide_eq_true c2
   clear c2
   by_cases c3 : 0 ≤ x3_1
   rotate_left
   · rw [if_neg c3] at H
     exact absurd H (by simp)
   rw [if_pos c3] at H
   have c3b0 : decide (0 ≤ x3_1) = true := decide_eq_true c3
   clear c3
   replace H := Option.bind_eq_some_iff.mp H
   obtain ⟨t204, A40, H⟩ := H
   have A4 := am A40
   clear A40
   by_cases c5 : t204 = true
   rotate_left
   · replace c5 := Bool.eq_false_iff.mpr c5
     subst c5
     rw [nf] at H
     obtain rfl := sj H
     have p203 : 0 ≤ (x3_1 : Int) := of_decide_eq_true Q0
     have q203 : x3_1 < (l0.length : Int) := of_decide_eq_true Q0
     obtain ⟨ad203, e203, hx203_0⟩ := Kd.at_int HR0.out x3_1 p203 q203
     cases e203
     replace p203 := eq_true p203
     replace q203 := eq_true q203
     go_wp2_with (first | (first | (go_at_call 63; (with_reducible refine (spec_l01In.calls (rd l0 x3_1) 0 99 false _ A4.out).mono ?_); rintro e w' ⟨rfl, ⟨nd, rfl⟩⟩; (try first | exact ⟨rfl, _, World.drewN_drewN _ _ _⟩ | exact ⟨rfl, _, Eq.trans (World.drewN_drewN _ _ _) (congrArg (World.drewN _) (Nat.add_assoc _ _ _))⟩))) | go_quiet (first | (go_at_call 63; (with_reducible refine (spec_l01In.calls (rd l0 x3_1) 0 99 false _ A4.out).mono ?_); rintro e w' ⟨rfl, ⟨nd, rfl⟩⟩; (try first | exact ⟨rfl, _, World.drewN_drewN _ _ _⟩ | exact ⟨rfl, _, Eq.trans (World.drewN_drewN _ _ _) (congrArg (World.drewN _) (Nat.add_assoc _ _ _))⟩))))
     go_ret
     exact ⟨by first | rfl | (simp; done) | (simp [*]; done), Q4⟩
   subst c5
   rw [if_pos rfl] at H
   by_cases c6 : x3_1 > 0
   rotate_left
   · rw [if_neg c6] at H
     have c6b0 : decide (0 < x3_1) = false := decide_eq_false c6
     clear c6
     have H' := am H
     clear H
     have p203 : 0 ≤ (x3_1 : Int) := of_decide_eq_true Q0
     have q203 : x3_1 < (l0.length : Int) := of_decide_eq_true Q0
     obtain ⟨ad203, e203, hx203_0⟩ := Kd.at_int HR0.out x3_1 p203 q203
     cases e203
     replace p203 := eq_true p203
     replace q203 := eq_true q203
     go_wp2_with (first | (first | (go_at_call 63; (with_reducible refine (spec_l01In.calls (rd l0 x3_1) 0 99 true _ A4.out).mono ?_); rintro e w' ⟨rfl, ⟨nd, rfl⟩⟩; (try first | exact ⟨rfl, _, World.drewN_drewN _ _ _⟩ | exact ⟨rfl, _, Eq.trans (World.drewN_drewN _ _ _) (congrArg (World.drewN _) (Nat.add_assoc _ _ _))⟩))) | go_quiet (first | (go_at_call 63; (with_reducible refine (spec_l01In.calls (rd l0 x3_1) 0 99 true _ A4.out).mono ?_); rintro e w' ⟨rfl, ⟨nd, rfl⟩⟩; (try first | exact ⟨rfl, _, World.drewN_drewN _ _ _⟩ | exact ⟨rfl, _, Eq.trans (World.drewN_drewN _ _ _) (congrArg (World.drewN _) (Nat.add_assoc _ _ _))⟩))))
     go_roundg k1
     case measure => have := HK1.out; omega
     case rel => exact ⟨(wrap64 (x3_1 + 1)), Q2, H', ⟨by have := HK1.out; omega⟩, Q4⟩
   rw [if_pos c6] at H
   have c6b0 : decide (0 < x3_1) = true := decide_eq_true c6
   clear c6
   obtain ⟨ji7, hji7⟩ : ∃ j_ : Int, (wrap64 (x3_1 - 1)) = j_ := ⟨_, rfl⟩
   replace H : (if 0 ≤ (ji7) then (if (ji7) < (l0.length : Int) then (if (rd l0 (ji7)) ≥ (rd l0 x3_1) then (some false) else (spec_l06Ids.l0 k1 l0 (wrap64 (x3_1 + 1)))) else (none)) else (none)) = some r := by first | (rw [hji7] at H; exact H) | (simp only [hji7] at H ⊢; exact H)
   (try rw [hji7] at A4)
   have hji7w : (IntKind.i64.wrap (x3_1 - 1)) = ji7 := (i64_w _).trans hji7
   by_cases c8 : 0 ≤ (ji7)
   rotate_left
   · rw [if_neg c8] at H
     exact absurd H (by simp)
   rw [if_pos c8] at H
   have c8b0 : decide (0 ≤ (ji7)) = true := decide_eq_true c8
   clear c8
   by_cases c9 : (ji7) < (l0.length : Int)
   rotate_left
   · rw [if_neg c9] at H
     exact absurd H (by simp)
   rw [if_pos c9] at H
   have c9b0 : decide ((ji7) < (l0.length : Int)) = true := decide_eq_true c9
   clear c9
   have H9 := am H
   clear H
   have p203 : 0 ≤ (x3_1 : Int) := of_decide_eq_true Q0
   have q203 : x3_1 < (l0.length : Int) := of_decide_eq_true Q0
   obtain ⟨ad203, e203, hx203_0⟩ := Kd.at_int HR0.out x3_1 p203 q203
   cases e203
   replace p203 := eq_true p203
   replace q203 := eq_true q203
   go_upto_if 31 with (first | (go_at_call 63; (with_reducible refine (spec_l01In.calls (rd l0 x3_1) 0 99 true _ A4.out).mono ?_); rintro e w' ⟨rfl, ⟨nd, rfl⟩⟩; (try first | exact ⟨rfl, _, World.drewN_drewN _ _ _⟩ | exact ⟨rfl, _, Eq.trans (World.drewN_drewN _ _ _) (congrArg (World.drewN _) (Nat.add_assoc _ _ _))⟩); have p205 : 0 ≤ ((ji7) : Int) := of_decide_eq_true Q0; have q205 : (ji7) < (l0.length : Int) := of_decide_eq_true Q0; obtain ⟨ad205, e205, hx205_0⟩ := Kd.at_int HR0.out (ji7) p205 q205; obtain rfl : ad203 = ad205 := (by injection e205); replace p205 := eq_true p205; replace q205 := eq_true q205; have p206 : 0 ≤ (x3_1 : Int) := of_decide_eq_true Q0; have q206 : x3_1 < (l0.length : Int) := of_decide_eq_true Q0; obtain ⟨ad206, e206, hx206_0⟩ := Kd.at_int HR0.out x3_1 p206 q206; obtain rfl : ad203 = ad206 := (by injection e206); replace p206 := eq_true p206; replace q206 := eq_true q206))
   repeat (go_quiet (first | (go_at_call 63; (with_reducible refine (spec_l01In.calls (rd l0 x3_1) 0 99 true _ A4.out).mono ?_); rintro e w' ⟨rfl, ⟨nd, rfl⟩⟩; (try first | exact ⟨rfl, _, World.drewN_drewN _ _ _⟩ | exact ⟨rfl, _, Eq.trans (World.drewN_drewN _ _ _) (congrArg (World.drewN _) (Nat.add_assoc _ _ _))⟩); have p205 : 0 ≤ ((ji7) : Int) := of_decide_eq_true Q0; have q205 : (ji7) < (l0.length : Int) := of_decide_eq_true Q0; obtain ⟨ad205, e205, hx205_0⟩ := Kd.at_int HR0.out (ji7) p205 q205; obtain rfl : ad203 = ad205 := (by injection e205); replace p205 := eq_true p205; replace q205 := eq_true q205; have p206 : 0 ≤ (x3_1 : Int) := of_decide_eq_true Q0; have q206 : x3_1 < (l0.length : Int) := of_decide_eq_true Q0; obtain ⟨ad206, e206, hx206_0⟩ := Kd.at_int HR0.out x3_1 p206 q206; obtain rfl : ad203 = ad206 := (by injection e206); replace p206 := eq_true p206; replace q206 := eq_true q206)); go_upto_if 31 with (first | (go_at_call 63; (with_reducible refine (spec_l01In.calls (rd l0 x3_1) 0 99 true _ A4.out).mono ?_); rintro e w' ⟨rfl, ⟨nd, rfl⟩⟩; (try first | exact ⟨rfl, _, World.drewN_drewN _ _ _⟩ | exact ⟨rfl, _, Eq.trans (World.drewN_drewN _ _ _) (congrArg (World.drewN _) (Nat.add_assoc _ _ _))⟩); have p205 : 0 ≤ ((ji7) : Int) := of_decide_eq_true Q0; have q205 : (ji7) < (l0.length : Int) := of_decide_eq_true Q0; obtain ⟨ad205, e205, hx205_0⟩ := Kd.at_int HR0.out (ji7) p205 q205; obtain rfl : ad203 = ad205 := (by injection e205); replace p205 := eq_true p205; replace q205 := eq_true q205; have p206 : 0 ≤ (x3_1 : Int) := of_decide_eq_true Q0; have q206 : x3_1 < (l0.length : Int) := of_decide_eq_true Q0; obtain ⟨ad206, e206, hx206_0⟩ := Kd.at_int HR0.out x3_1 p206 q206; obtain rfl : ad203 = ad206 := (by injection e206); replace p206 := eq_true p206; replace q206 := eq_true q206)))
   have H := H9.out
   clear H9
   by_cases c10 : (rd l0 (ji7)) ≥ (rd l0 x3_1)
   · rw [if_pos c10] at H
     have c10b0 : decide ((rd l0 x3_1) ≤ (rd l0 (ji7))) = true := decide_eq_true c10
     clear c10
     (first | rw [c10b0] | (simp only [i64_w, i32_w]; rw [c10b0]) | skip)
     obtain rfl := sj H
     go_wp2
     repeat (go_quiet (fail); try go_wp2)
     go_ret
     exact ⟨by first | rfl | (simp; done) | (simp only [← hji7] <;> (first | rfl | simp)) | (simp [*]; done), Q4⟩
   rw [if_neg c10] at H
   have c10b0 : decide ((rd l0 x3_1) ≤ (rd l0 (ji7))) = false := decide_eq_false c10
   clear c10
   (first | rw [c10b0] | (simp only [i64_w, i32_w]; rw [c10b0]) | skip)
   have H' := am H
   clear H
   go_wp2
   repeat (go_quiet (fail); try go_wp2)
   go_roundg k1
   case measure => have := HK1.out; omega
   case rel => exact ⟨(wrap64 (x3_1 + 1)), Q2, H', ⟨by have := HK1.out; omega⟩, Q4⟩

/-! ### spec_l06Set: function 74 -/
def spec_l06Set.f (k : Nat) (l0 : List Int) : Option (Bool) := (spec_l06Ids.f k l0).bind fun t207 => (if t207 = true then (some (decide ((l0.length : Int) > 0))) else (some false))
theorem spec_l06Set.mono : ∀ a0 k, LeO (spec_l06Set.f k a0) (spec_l06Set.f (k + 1) a0) := by
 intro a0 k
 unfold spec_l06Set.f
 repeat' first
     | (with_reducible exact spec_l06Ids.mono _ _)
     | (with_reducible exact LeO.refl _)
     | (with_reducible exact LeO.none _)
     | (with_reducible refine LeO.ite ?_ ?_)
     | (with_reducible refine LeO.bind ?_ (fun _ => ?_))
     | exact spec_l06Ids.mono _ _
     | exact LeO.none _
     | refine LeO.ite ?_ ?_
     | refine LeO.bind ?_ (fun _ => ?_)
set_option maxHeartbeats 8000000 in
set_option maxRecDepth 100000 in
theorem spec_l06Set.calls (k : Nat) (A0 : Option Addr) (c0 : Nat) (l0 : List Int) (r : Bool) (w : World) (hr0 : Kd.C (Kd.int .i64) w A0 l0.length l0) (hc0 : l0.length ≤ c0) (h : spec_l06Set.f k l0 = some r) :
   Calls Try.prog 74 #[.slice A0 l0.length c0] w fun e w' => e = .returned (.bool r) ∧ Drawn0 w w' := by
 have HR0 := am hr0
 have HC0 := am hc0
 clear hr0 hc0
 have H : ((spec_l06Ids.f k l0).bind fun t207 => (if t207 = true then (some (decide ((l0.length : Int) > 0))) else (some false))) = some r := h
 clear h
 replace H := Option.bind_eq_some_iff.mp H
 obtain ⟨t207, A20, H⟩ := H
 replace H : (if t207 = true then (some (decide ((l0.length : Int) > 0))) else (some false)) = some r := H
 have A2 := am A20
 clear A20
 by_cases c3 : t207 = true
 · subst c3
   rw [if_pos rfl] at H
   obtain rfl := sj H
   go_enter Try.func74, Try.ntmps74
   go_wp2_with (first | ((with_reducible refine gate_callee (f := 112) rfl ?_); refine goesL_ (some 4) rfl rfl Try.func112 kr rfl #[.slice A0 l0.length c0] rfl Q3 ?_; (with_reducible refine (spec_l06Ids.calls k _ _ l0 true _ ?side1 ?side2 A2.out).mono ?_); (case side1 => exact u5_11); (case side2 => exact HC0.out); rintro e w' ⟨rfl, ⟨nd, rfl⟩⟩; refine ⟨_, rfl, ?_⟩))
   go_ret
   exact ⟨by first | rfl | (simp; done) | (simp [*]; done), Q4⟩
 replace c3 := Bool.eq_false_iff.mpr c3
 subst c3
 rw [nf] at H
 obtain rfl := sj H
 go_enter Try.func74, Try.ntmps74
 go_wp2_with (first | ((with_reducible refine gate_callee (f := 112) rfl ?_); refine goesL_ (some 4) rfl rfl Try.func112 kr rfl #[.slice A0 l0.length c0] rfl Q3 ?_; (with_reducible refine (spec_l06Ids.calls k _ _ l0 false _ ?side1 ?side2 A2.out).mono ?_); (case side1 => exact u5_11); (case side2 => exact HC0.out); rintro e w' ⟨rfl, ⟨nd, rfl⟩⟩; refine ⟨_, rfl, ?_⟩))
 go_ret
 exact ⟨by first | rfl | (simp; done) | (simp [*]; done), Q4⟩

end Go.Proofs.Ytkcadcoohmofcaa.QFnExactPropose
