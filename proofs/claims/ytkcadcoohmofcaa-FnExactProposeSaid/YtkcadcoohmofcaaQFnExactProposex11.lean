-- Printed by the session's own program wip/prx.py.
import Derived.Test.YtkcadcoohmofcaaSqFnExactPropose
import Derived.Test.YtkcadcoohmofcaaQFnExactProposex0
import Derived.Test.YtkcadcoohmofcaaQFnExactProposex10
namespace Go.Proofs.Ytkcadcoohmofcaa.QFnExactPropose
open Go.RowKit Go.Proofs.YtkcadcoohmofcaaW.PrintWords Go.Proofs.YtkcadcoohmofcaaW.PrintLast Go.Proofs.YtkcadcoohmofcaaW.PrintMore Go.Proofs.Ytkcadcoohmofcaa.SqFnExactPropose
attribute [local go_sem] max2_int min2_int max_two min_two max_three min_three max_four min_four Go.Proofs.Ytkcadcoohmofcaa.Set.isSome_setCell
set_option linter.unusedVariables false
set_option linter.unusedSimpArgs false

-- squeezed
theorem u11_1 {P : Prop} (h : P := by (with_reducible repeat (first | refine blk_drewN ?_ _ | refine blk_drew ?_ | refine blk_alloc ?_ _)); exact BK315.out) : P := h
theorem u11_7 {P : Prop} (h : P := by (with_reducible repeat (first | refine blk_drewN ?_ _ | refine blk_drew ?_ | refine blk_alloc ?_ _)); refine blk_put (cs := #[.int .i64 ((rd_T85 l0_2 x44_2).f0), .string (⟨#[]⟩ : ByteArray)]) ?_ 1 _ rfl; (with_reducible repeat (first | refine blk_drewN ?_ _ | refine blk_drew ?_ | refine blk_alloc ?_ _)); refine blk_put (cs := #[.int .i64 0, .string (⟨#[]⟩ : ByteArray)]) ?_ 0 _ rfl; (with_reducible repeat (first | refine blk_drewN ?_ _ | refine blk_drew ?_ | refine blk_alloc ?_ _)); exact BK317.out) : P := h
theorem u11_8 {P : Prop} (h : P := by (with_reducible repeat (first | refine blk_drewN ?_ _ | refine blk_drew ?_ | refine blk_alloc ?_ _)); refine blk_far ?_ NB315_317.out _; (with_reducible repeat (first | refine blk_drewN ?_ _ | refine blk_drew ?_ | refine blk_alloc ?_ _)); refine blk_far ?_ NB315_317.out _; (with_reducible repeat (first | refine blk_drewN ?_ _ | refine blk_drew ?_ | refine blk_alloc ?_ _)); exact BK315.out) : P := h
/-! ### impl_isRLog: function 88 -/
mutual
def impl_isRLog.j0 : Nat → Bool → Int → Int → List (S85) → Option (Bool)
 | 0, _, _, _, _ => none
 | k + 1, x38, x316000, x316001, x316002 => if x38 = true then (some false) else (impl_isRLog.l0 k x316001 x316002 (x316002.length : Int) 0)
def impl_isRLog.l0 : Nat → Int → List (S85) → Int → Int → Option (Bool)
 | 0, _, _, _, _ => none
 | k + 1, x3, x42, x43, x44 => if x44 < x43 then (if 0 ≤ x44 then (if x44 < (x42.length : Int) then ((impl_isEntry.f ((rd_T85 x42 x44).f0) ((rd_T85 x42 x44).f1)).bind fun t318 => (if t318 = true then (if ((rd_T85 x42 x44).f0) < x3 then (some false) else (impl_isRLog.l0 k ((rd_T85 x42 x44).f0) x42 x43 (wrap64 (x44 + 1)))) else (some false))) else (none)) else (none)) else (some true)
end
def impl_isRLog.f (k : Nat) (a0_0 : Int) (a0_1 : Int) (l0_2 : List (S85)) : Option (Bool) := if a0_0 < 0 then (impl_isRLog.j0 k true a0_0 a0_1 l0_2) else (if a0_0 > 1000000 then (impl_isRLog.j0 k true a0_0 a0_1 l0_2) else (if a0_1 < 0 then (impl_isRLog.j0 k true a0_0 a0_1 l0_2) else (if a0_1 > 1000000 then (impl_isRLog.j0 k true a0_0 a0_1 l0_2) else (if ((a0_1 == 0) != (a0_0 == 0)) = true then (impl_isRLog.j0 k true a0_0 a0_1 l0_2) else (impl_isRLog.j0 k (decide ((l0_2.length : Int) > 60)) a0_0 a0_1 l0_2)))))
theorem impl_isRLog.mono_l : ∀ k, (∀ y0 y1 y2 y3, LeO (impl_isRLog.j0 k y0 y1 y2 y3) (impl_isRLog.j0 (k + 1) y0 y1 y2 y3)) ∧ (∀ y0 y1 y2 y3, LeO (impl_isRLog.l0 k y0 y1 y2 y3) (impl_isRLog.l0 (k + 1) y0 y1 y2 y3))
 | 0 => ⟨fun _ _ _ _ r h => by simp [impl_isRLog.j0] at h, fun _ _ _ _ r h => by simp [impl_isRLog.l0] at h⟩
 | k + 1 => by
   obtain ⟨ih0, ih1⟩ := impl_isRLog.mono_l k
   refine ⟨?_, ?_⟩ <;> intros <;> (first | unfold impl_isRLog.j0 | unfold impl_isRLog.l0) <;> repeat' first
   | (with_reducible exact ih0 _ _ _ _)
   | (with_reducible exact ih1 _ _ _ _)
   | (with_reducible exact LeO.refl _)
   | (with_reducible exact LeO.none _)
   | (with_reducible refine LeO.ite ?_ ?_)
   | (with_reducible refine LeO.bind ?_ (fun _ => ?_))
   | exact ih0 _ _ _ _
   | exact ih1 _ _ _ _
   | exact LeO.none _
   | refine LeO.ite ?_ ?_
   | refine LeO.bind ?_ (fun _ => ?_)
theorem impl_isRLog.mono : ∀ a0 a1 a2 k, LeO (impl_isRLog.f k a0 a1 a2) (impl_isRLog.f (k + 1) a0 a1 a2) := by
 intro a0 a1 a2 k
 obtain ⟨ih0, ih1⟩ := impl_isRLog.mono_l k
 unfold impl_isRLog.f
 repeat' first
     | (with_reducible exact ih0 _ _ _ _)
     | (with_reducible exact ih1 _ _ _ _)
     | (with_reducible exact LeO.refl _)
     | (with_reducible exact LeO.none _)
     | (with_reducible refine LeO.ite ?_ ?_)
     | (with_reducible refine LeO.bind ?_ (fun _ => ?_))
     | exact ih0 _ _ _ _
     | exact ih1 _ _ _ _
     | exact LeO.none _
     | refine LeO.ite ?_ ?_
     | refine LeO.bind ?_ (fun _ => ?_)
set_option maxHeartbeats 8000000 in
set_option maxRecDepth 100000 in
theorem impl_isRLog.calls (k : Nat) (a0_0 : Int) (a0_1 : Int) (A0_2 : Option Addr) (c0_2 : Nat) (l0_2 : List (S85)) (r : Bool) (w : World) (hr0_2 : Kd.C k85 w A0_2 l0_2.length l0_2) (hc0_2 : l0_2.length ≤ c0_2) (h : impl_isRLog.f k a0_0 a0_1 l0_2 = some r) :
   Calls Try.prog 88 #[.agg #[.int .i64 a0_0, .int .i64 a0_1, .slice A0_2 l0_2.length c0_2]] w fun e w' => e = .returned (.bool r) ∧ Below w.heap.size w w' := by
 have hu34 := Try.underlying34
 have hu85 := Try.underlying85
 have HR0_2 := am hr0_2
 have HC0_2 := am hc0_2
 clear hr0_2 hc0_2
 have HB := am (Below.refl w.heap.size w)
 have H : (if a0_0 < 0 then (impl_isRLog.j0 k true a0_0 a0_1 l0_2) else (if a0_0 > 1000000 then (impl_isRLog.j0 k true a0_0 a0_1 l0_2) else (if a0_1 < 0 then (impl_isRLog.j0 k true a0_0 a0_1 l0_2) else (if a0_1 > 1000000 then (impl_isRLog.j0 k true a0_0 a0_1 l0_2) else (if ((a0_1 == 0) != (a0_0 == 0)) = true then (impl_isRLog.j0 k true a0_0 a0_1 l0_2) else (impl_isRLog.j0 k (decide ((l0_2.length : Int) > 60)) a0_0 a0_1 l0_2)))))) = some r := h
 clear h
 have HC2 := am H
 clear H
 go_enter Try.func88, Try.ntmps88
 go_upto_region 1 with (first | ((with_reducible refine gate_dst (N := 1) rfl ?_); (try (refine gate_guard (by rfl) ?_; dsimp only)); refine box_event ?hg (N := 1) ?hd (cs := #[.int .i64 a0_0, .int .i64 a0_1, .slice A0_2 l0_2.length c0_2]) (t := 34) ?hr ?_; (case hd => rfl); (case hg => rfl); (case hr => first | (go_simp; done) | (go_simp; rfl)); intro gb315 hg w3 hbox hb; have BK315 := am (hbox); have GW315 := am ((by rw [hg]; exact (below_size Q1) : w.heap.size ≤ gb315)); have GE315 := am ((by rw [hg]; exact (below_size Q1) : w.heap.size ≤ gb315)); replace HB := am (below_step Q1 hb); clear hb hbox hg))
 (try simp only [Act.put, la, lb, lc])
 go_cut [38] (fun v38 wc => ∃ (kq : Nat) (x38_1 : Bool), v38 = .bool x38_1 ∧ Aside0 (impl_isRLog.j0 kq x38_1 a0_0 a0_1 l0_2 = some r) ∧ Aside0 (kq ≤ k) ∧ Aside0 (wc.heap[gb315]? = some (.cells #[.int .i64 a0_0, .int .i64 a0_1, (.slice A0_2 l0_2.length c0_2)] 34 (0, 0))) ∧ Aside0 (Below w.heap.size w wc))
 case first =>
   have H := HC2.out
   clear HC2
   by_cases c4 : a0_0 < 0
   · rw [if_pos c4] at H
     have c4b0 : decide (a0_0 < 0) = true := decide_eq_true c4
     clear c4
     (first | rw [c4b0] | (simp only [i64_w, i32_w]; rw [c4b0]) | skip)
     have H' := am H
     clear H
     obtain ⟨hcz5_0, hcz5_1, hcz5_2⟩ := bc3 w3 BK315.out
     go_wp2
     go_meet
     case rel => exact ⟨_, (true), Q2, H', ⟨by first | omega | exact Nat.le_refl _⟩, ⟨u11_1⟩, ⟨Q1⟩⟩
   rw [if_neg c4] at H
   have c4b0 : decide (a0_0 < 0) = false := decide_eq_false c4
   clear c4
   (first | rw [c4b0] | (simp only [i64_w, i32_w]; rw [c4b0]) | skip)
   by_cases c6 : a0_0 > 1000000
   · rw [if_pos c6] at H
     have c6b0 : decide (1000000 < a0_0) = true := decide_eq_true c6
     clear c6
     have H' := am H
     clear H
     obtain ⟨hcz7_0, hcz7_1, hcz7_2⟩ := bc3 w3 BK315.out
     go_wp2
     go_meet
     case rel => exact ⟨_, (true), Q2, H', ⟨by first | omega | exact Nat.le_refl _⟩, ⟨u11_1⟩, ⟨Q1⟩⟩
   rw [if_neg c6] at H
   have c6b0 : decide (1000000 < a0_0) = false := decide_eq_false c6
   clear c6
   by_cases c8 : a0_1 < 0
   · rw [if_pos c8] at H
     have c8b0 : decide (a0_1 < 0) = true := decide_eq_true c8
     clear c8
     have H' := am H
     clear H
     obtain ⟨hcz9_0, hcz9_1, hcz9_2⟩ := bc3 w3 BK315.out
     go_wp2
     go_meet
     case rel => exact ⟨_, (true), Q2, H', ⟨by first | omega | exact Nat.le_refl _⟩, ⟨u11_1⟩, ⟨Q1⟩⟩
   rw [if_neg c8] at H
   have c8b0 : decide (a0_1 < 0) = false := decide_eq_false c8
   clear c8
   by_cases c10 : a0_1 > 1000000
   · rw [if_pos c10] at H
     have c10b0 : decide (1000000 < a0_1) = true := decide_eq_true c10
     clear c10
     have H' := am H
     clear H
     obtain ⟨hcz11_0, hcz11_1, hcz11_2⟩ := bc3 w3 BK315.out
     go_wp2
     go_meet
     case rel => exact ⟨_, (true), Q2, H', ⟨by first | omega | exact Nat.le_refl _⟩, ⟨u11_1⟩, ⟨Q1⟩⟩
   rw [if_neg c10] at H
   have c10b0 : decide (1000000 < a0_1) = false := decide_eq_false c10
   clear c10
   by_cases c12 : ((a0_1 == 0) != (a0_0 == 0)) = true
   rotate_left
   · rw [if_neg c12] at H
     have c12b0 : ((a0_1 == 0) != (a0_0 == 0)) = false := by simpa using c12
     (try (have c12b1 : decide ((a0_1 == 0) = (a0_0 == 0)) = true := by simpa using c12))
     (try (have c12b2 : ((a0_1 == 0) == (a0_0 == 0)) = true := by simpa using c12))
     clear c12
     have H' := am H
     clear H
     obtain ⟨hcz14_0, hcz14_1, hcz14_2⟩ := bc3 w3 BK315.out
     go_wp2
     go_meet
     case rel => exact ⟨_, (decide ((l0_2.length : Int) > 60)), Q2, H', ⟨by first | omega | exact Nat.le_refl _⟩, ⟨u11_1⟩, ⟨Q1⟩⟩
   rw [if_pos c12] at H
   have c12b0 : ((a0_1 == 0) != (a0_0 == 0)) = true := c12
   (try (have c12b1 : decide ((a0_1 == 0) = (a0_0 == 0)) = false := by simpa using c12))
   (try (have c12b2 : ((a0_1 == 0) == (a0_0 == 0)) = false := by simpa using c12))
   (try (have c12b3 : ¬ ((a0_1 == 0) = (a0_0 == 0)) := by simpa using c12))
   clear c12
   have H' := am H
   clear H
   obtain ⟨hcz13_0, hcz13_1, hcz13_2⟩ := bc3 w3 BK315.out
   go_wp2
   go_meet
   case rel => exact ⟨_, (true), Q2, H', ⟨by first | omega | exact Nat.le_refl _⟩, ⟨u11_1⟩, ⟨Q1⟩⟩
 clear HC2
 obtain ⟨kq, x38_1, rfl, HA, HJ1, BK315, HB⟩ := hcut
 cases kq with
 | zero => exact absurd HA.out (by simp [impl_isRLog.j0])
 | succ kj1 =>
   have H := HA.out
   clear HA
   simp only [impl_isRLog.j0] at H
   by_cases c15 : x38_1 = true
   · subst c15
     rw [if_pos rfl] at H
     obtain rfl := sj H
     go_wp2
     go_ret
     exact ⟨er, Q1⟩
   replace c15 := Bool.eq_false_iff.mpr c15
   subst c15
   rw [nf] at H
   have H' := am H
   clear H
   obtain ⟨hcz16_0, hcz16_1, hcz16_2⟩ := bc3 wc BK315.out
   go_wp2
   go_loopg [3, 44] kj1 (fun kq v3 v44 w' => ∃ (x3_2 : Int) (x44_2 : Int), v3 = .int .i64 x3_2 ∧ v44 = .int .i64 x44_2 ∧ Aside0 (impl_isRLog.l0 kq x3_2 l0_2 (l0_2.length : Int) x44_2 = some r) ∧ Aside0 (kq ≤ kj1) ∧ Aside0 (w'.heap[gb315]? = some (.cells #[.int .i64 a0_0, .int .i64 a0_1, (.slice A0_2 l0_2.length c0_2)] 34 (0, 0))) ∧ Aside0 (Below w.heap.size w w'))
   case atStart => exact ⟨(a0_1), (0), Q2, Q2, H', ⟨Nat.le_refl _⟩, ⟨u11_1⟩, ⟨Q1⟩⟩
   clear H'
   try clear c15
   try clear hcz16_0
   try clear hcz16_1
   try clear hcz16_2
   obtain ⟨x3_2, x44_2, rfl, rfl, HA, HK2, BK315, HB⟩ := hrel
   cases gk with
   | zero => exact absurd HA.out (by simp [impl_isRLog.l0])
   | succ k2 =>
     have H := HA.out
     clear HA
     simp only [impl_isRLog.l0] at H
     by_cases c17 : x44_2 < (l0_2.length : Int)
     rotate_left
     · rw [if_neg c17] at H
       have c17b0 : decide (x44_2 < (l0_2.length : Int)) = false := decide_eq_false c17
       clear c17
       obtain rfl := sj H
       go_wp2
       go_ret
       exact ⟨er, Q1⟩
     rw [if_pos c17] at H
     have c17b0 : decide (x44_2 < (l0_2.length : Int)) = true := decide_eq_true c17
     clear c17
     by_cases c18 : 0 ≤ x44_2
     rotate_left
     · rw [if_neg c18] at H
       exact absurd H (by simp)
     rw [if_pos c18] at H
     have c18b0 : decide (0 ≤ x44_2) = true := decide_eq_true c18
     clear c18
     by_cases c19 : x44_2 < (l0_2.length : Int)
     rotate_left
     · rw [if_neg c19] at H
       exact absurd H (by simp)
     rw [if_pos c19] at H
     have c19b0 : decide (x44_2 < (l0_2.length : Int)) = true := decide_eq_true c19
     clear c19
     replace H := Option.bind_eq_some_iff.mp H
     obtain ⟨t318, A200, H⟩ := H
     have A20 := am A200
     clear A200
     by_cases c21 : t318 = true
     rotate_left
     · replace c21 := Bool.eq_false_iff.mpr c21
       subst c21
       rw [nf] at H
       obtain rfl := sj H
       have p316 : 0 ≤ (x44_2 : Int) := of_decide_eq_true Q0
       have q316 : x44_2 < (l0_2.length : Int) := of_decide_eq_true Q0
       obtain ⟨ad316, e316, hx316_0, hx316_1⟩ := at_T85 HR0_2.out x44_2 p316 q316
       cases e316
       replace hx316_0 := cm HB.out hx316_0
       replace hx316_1 := cm HB.out hx316_1
       replace p316 := eq_true p316
       replace q316 := eq_true q316
       go_wp2_with (first | ((with_reducible refine gate_dst (N := 5) rfl ?_); (try (refine gate_guard (by rfl) ?_; dsimp only)); refine box_event ?hg (N := 5) ?hd (cs := #[.int .i64 0, .string (⟨#[]⟩ : ByteArray)]) (t := 85) ?hr ?_; (case hd => rfl); (case hg => rfl); (case hr => first | (go_simp; done) | (go_simp; rfl)); intro gb317 hg w30 hbox hb; have BK317 := am (hbox); have GW317 := am ((by rw [hg]; exact (below_size Q1) : w.heap.size ≤ gb317)); have GE317 := am ((by rw [hg]; exact (below_size Q1) : w.heap.size ≤ gb317)); replace HB := am (below_step Q1 hb); have NB315_317 := am ((by rw [hg]; exact Nat.ne_of_lt (blk_lt (g := gb315) (o := .cells #[.int .i64 a0_0, .int .i64 a0_1, .slice (some ad316) l0_2.length c0_2] 34 (0, 0)) u11_1) : gb315 ≠ gb317)); have NB317_315 := am ((by rw [hg]; exact Nat.ne_of_gt (blk_lt (g := gb315) (o := .cells #[.int .i64 a0_0, .int .i64 a0_1, .slice (some ad316) l0_2.length c0_2] 34 (0, 0)) u11_1) : gb317 ≠ gb315)); replace BK315 := am (blk_below (g := gb315) (o := .cells #[.int .i64 a0_0, .int .i64 a0_1, .slice (some ad316) l0_2.length c0_2] 34 (0, 0)) u11_1 hb); clear hb hbox hg; have hnb31 := NB317_315.out; have hnc31 := NB315_317.out; obtain ⟨hcz32_0, hcz32_1, hfz32_0, hfz32_1⟩ := bc2f w30 BK317.out) | ((with_reducible refine gate_callee (f := 111) rfl ?_); refine goesL_ (some 49) rfl rfl Try.func111 kr rfl #[.agg #[.int .i64 ((rd_T85 l0_2 x44_2).f0), .string ((rd_T85 l0_2 x44_2).f1)]] rfl Q3 ?_; (with_reducible refine (impl_isEntry.calls ((rd_T85 l0_2 x44_2).f0) ((rd_T85 l0_2 x44_2).f1) false _ A20.out).mono ?_); rintro e w33 ⟨rfl, hb⟩; refine ⟨_, rfl, ?_⟩; replace BK315 := am (blk_below (g := gb315) (o := .cells #[.int .i64 a0_0, .int .i64 a0_1, .slice (some ad316) l0_2.length c0_2] 34 (0, 0)) u11_8 hb); replace BK317 := am (blk_below (g := gb317) (o := .cells #[.int .i64 ((rd_T85 l0_2 x44_2).f0), .string ((rd_T85 l0_2 x44_2).f1)] 85 (0, 0)) u11_7 hb); replace HB := am (below_step Q1 hb); (try clear hb); (try clear hb2); (try clear hk); (try clear hi)))
       go_ret
       exact ⟨er, Q1⟩
     subst c21
     rw [if_pos rfl] at H
     have H9 := am H
     clear H
     have p316 : 0 ≤ (x44_2 : Int) := of_decide_eq_true Q0
     have q316 : x44_2 < (l0_2.length : Int) := of_decide_eq_true Q0
     obtain ⟨ad316, e316, hx316_0, hx316_1⟩ := at_T85 HR0_2.out x44_2 p316 q316
     cases e316
     replace hx316_0 := cm HB.out hx316_0
     replace hx316_1 := cm HB.out hx316_1
     replace p316 := eq_true p316
     replace q316 := eq_true q316
     go_upto_if 56 with (first | ((with_reducible refine gate_dst (N := 5) rfl ?_); (try (refine gate_guard (by rfl) ?_; dsimp only)); refine box_event ?hg (N := 5) ?hd (cs := #[.int .i64 0, .string (⟨#[]⟩ : ByteArray)]) (t := 85) ?hr ?_; (case hd => rfl); (case hg => rfl); (case hr => first | (go_simp; done) | (go_simp; rfl)); intro gb317 hg w22 hbox hb; have BK317 := am (hbox); have GW317 := am ((by rw [hg]; exact (below_size Q1) : w.heap.size ≤ gb317)); have GE317 := am ((by rw [hg]; exact (below_size Q1) : w.heap.size ≤ gb317)); replace HB := am (below_step Q1 hb); have NB315_317 := am ((by rw [hg]; exact Nat.ne_of_lt (blk_lt (g := gb315) (o := .cells #[.int .i64 a0_0, .int .i64 a0_1, .slice (some ad316) l0_2.length c0_2] 34 (0, 0)) u11_1) : gb315 ≠ gb317)); have NB317_315 := am ((by rw [hg]; exact Nat.ne_of_gt (blk_lt (g := gb315) (o := .cells #[.int .i64 a0_0, .int .i64 a0_1, .slice (some ad316) l0_2.length c0_2] 34 (0, 0)) u11_1) : gb317 ≠ gb315)); replace BK315 := am (blk_below (g := gb315) (o := .cells #[.int .i64 a0_0, .int .i64 a0_1, .slice (some ad316) l0_2.length c0_2] 34 (0, 0)) u11_1 hb); clear hb hbox hg; have hnb23 := NB317_315.out; have hnc23 := NB315_317.out; obtain ⟨hcz24_0, hcz24_1, hfz24_0, hfz24_1⟩ := bc2f w22 BK317.out) | ((with_reducible refine gate_callee (f := 111) rfl ?_); refine goesL_ (some 49) rfl rfl Try.func111 kr rfl #[.agg #[.int .i64 ((rd_T85 l0_2 x44_2).f0), .string ((rd_T85 l0_2 x44_2).f1)]] rfl Q3 ?_; (with_reducible refine (impl_isEntry.calls ((rd_T85 l0_2 x44_2).f0) ((rd_T85 l0_2 x44_2).f1) true _ A20.out).mono ?_); rintro e w25 ⟨rfl, hb⟩; refine ⟨_, rfl, ?_⟩; replace BK315 := am (blk_below (g := gb315) (o := .cells #[.int .i64 a0_0, .int .i64 a0_1, .slice (some ad316) l0_2.length c0_2] 34 (0, 0)) u11_8 hb); replace BK317 := am (blk_below (g := gb317) (o := .cells #[.int .i64 ((rd_T85 l0_2 x44_2).f0), .string ((rd_T85 l0_2 x44_2).f1)] 85 (0, 0)) u11_7 hb); replace HB := am (below_step Q1 hb); (try clear hb); (try clear hb2); (try clear hk); (try clear hi); obtain ⟨hcz26_0, hcz26_1, hfz26_0, hfz26_1⟩ := bc2f w25 BK317.out))
     have H := H9.out
     clear H9
     by_cases c27 : ((rd_T85 l0_2 x44_2).f0) < x3_2
     · rw [if_pos c27] at H
       have c27b0 : decide (((rd_T85 l0_2 x44_2).f0) < x3_2) = true := decide_eq_true c27
       clear c27
       (first | rw [c27b0] | (simp only [i64_w, i32_w]; rw [c27b0]) | skip)
       obtain rfl := sj H
       go_wp2
       go_ret
       exact ⟨er, Q1⟩
     rw [if_neg c27] at H
     have c27b0 : decide (((rd_T85 l0_2 x44_2).f0) < x3_2) = false := decide_eq_false c27
     clear c27
     (first | rw [c27b0] | (simp only [i64_w, i32_w]; rw [c27b0]) | skip)
     have H' := am H
     clear H
     have hnb28 := NB317_315.out
     have hnc28 := NB315_317.out
     obtain ⟨hcz29_0, hcz29_1, hfz29_0, hfz29_1⟩ := bc2f w25 BK317.out
     go_wp2
     go_roundg k2
     case measure => have := HJ1.out; have := HK2.out; omega
     case rel => exact ⟨((rd_T85 l0_2 x44_2).f0), (wrap64 (x44_2 + 1)), Q2, Q2, H', ⟨(by have := HJ1.out; have := HK2.out; omega)⟩, ⟨u11_1⟩, ⟨Q1⟩⟩

/-! ### impl_RLog_last: function 89 -/
def impl_RLog_last.f (a0_0 : Int) (a0_1 : Int) (l0_2 : List (S85)) : Option (Int) := some (wrap64 (a0_0 + (l0_2.length : Int)))
set_option maxHeartbeats 8000000 in
set_option maxRecDepth 100000 in
theorem impl_RLog_last.calls (a0_0 : Int) (a0_1 : Int) (A0_2 : Option Addr) (c0_2 : Nat) (l0_2 : List (S85)) (r : Int) (w : World) (hr0_2 : Kd.C k85 w A0_2 l0_2.length l0_2) (hc0_2 : l0_2.length ≤ c0_2) (h : impl_RLog_last.f a0_0 a0_1 l0_2 = some r) :
   Calls Try.prog 89 #[.agg #[.int .i64 a0_0, .int .i64 a0_1, .slice A0_2 l0_2.length c0_2]] w fun e w' => e = .returned (.int .i64 r) ∧ Below w.heap.size w w' := by
 have hu34 := Try.underlying34
 have HR0_2 := am hr0_2
 have HC0_2 := am hc0_2
 clear hr0_2 hc0_2
 have HB := am (Below.refl w.heap.size w)
 have H : (some (wrap64 (a0_0 + (l0_2.length : Int)))) = some r := h
 clear h
 obtain rfl := sj H
 go_enter Try.func89, Try.ntmps89
 go_wp2_with (first | ((with_reducible refine gate_dst (N := 1) rfl ?_); refine box_event ?hg (N := 1) ?hd (cs := #[.int .i64 a0_0, .int .i64 a0_1, .slice A0_2 l0_2.length c0_2]) (t := 34) ?hr ?_; (case hd => rfl); (case hg => rfl); (case hr => first | (go_simp; done) | (go_simp; rfl)); intro gb319 hg w2 hbox hb; have BK319 := am (hbox); have GW319 := am ((by rw [hg]; exact (below_size Q1) : w.heap.size ≤ gb319)); have GE319 := am ((by rw [hg]; exact (below_size Q1) : w.heap.size ≤ gb319)); replace HB := am (below_step Q1 hb); clear hb hbox hg; obtain ⟨hcz3_0, hcz3_1, hcz3_2, hfz3_0, hfz3_1, hfz3_2⟩ := bc3f w2 BK319.out))
 go_ret
 exact ⟨er, (by repeat (first | (with_reducible first | exact HB.out | apply below_alloc | apply pw_below_drewN | apply below_drew1 | refine below_set ?_ GE319.out) | exact HB.out))⟩

/-! ### impl_RLog_term: function 92 -/
def impl_RLog_term.f (a0_0 : Int) (a0_1 : Int) (l0_2 : List (S85)) (a1 : Int) : Option (Int) := if a1 = a0_0 then (some a0_1) else (if 0 ≤ (wrap64 ((wrap64 (a1 - a0_0)) - 1)) then (if (wrap64 ((wrap64 (a1 - a0_0)) - 1)) < (l0_2.length : Int) then (some ((rd_T85 l0_2 (wrap64 ((wrap64 (a1 - a0_0)) - 1))).f0)) else (none)) else (none))
set_option maxHeartbeats 8000000 in
set_option maxRecDepth 100000 in
theorem impl_RLog_term.calls (a0_0 : Int) (a0_1 : Int) (A0_2 : Option Addr) (c0_2 : Nat) (l0_2 : List (S85)) (a1 : Int) (r : Int) (w : World) (hr0_2 : Kd.C k85 w A0_2 l0_2.length l0_2) (hc0_2 : l0_2.length ≤ c0_2) (h : impl_RLog_term.f a0_0 a0_1 l0_2 a1 = some r) :
   Calls Try.prog 92 #[.agg #[.int .i64 a0_0, .int .i64 a0_1, .slice A0_2 l0_2.length c0_2], .int .i64 a1] w fun e w' => e = .returned (.int .i64 r) ∧ Below w.heap.size w w' := by
 have hu34 := Try.underlying34
 have HR0_2 := am hr0_2
 have HC0_2 := am hc0_2
 clear hr0_2 hc0_2
 have HB := am (Below.refl w.heap.size w)
 have H : (if a1 = a0_0 then (some a0_1) else (if 0 ≤ (wrap64 ((wrap64 (a1 - a0_0)) - 1)) then (if (wrap64 ((wrap64 (a1 - a0_0)) - 1)) < (l0_2.length : Int) then (some ((rd_T85 l0_2 (wrap64 ((wrap64 (a1 - a0_0)) - 1))).f0)) else (none)) else (none))) = some r := h
 clear h
 have H9 := am H
 clear H
 go_enter Try.func92, Try.ntmps92
 go_upto_if 8 with (first | ((with_reducible refine gate_dst (N := 2) rfl ?_); refine box_event ?hg (N := 2) ?hd (cs := #[.int .i64 a0_0, .int .i64 a0_1, .slice A0_2 l0_2.length c0_2]) (t := 34) ?hr ?_; (case hd => rfl); (case hg => rfl); (case hr => first | (go_simp; done) | (go_simp; rfl)); intro gb320 hg w3 hbox hb; have BK320 := am (hbox); have GW320 := am ((by rw [hg]; exact (below_size Q1) : w.heap.size ≤ gb320)); have GE320 := am ((by rw [hg]; exact (below_size Q1) : w.heap.size ≤ gb320)); replace HB := am (below_step Q1 hb); clear hb hbox hg; obtain ⟨hcz4_0, hcz4_1, hcz4_2, hfz4_0, hfz4_1, hfz4_2⟩ := bc3f w3 BK320.out))
 have H := H9.out
 clear H9
 by_cases c5 : a1 = a0_0
 · rw [if_pos c5] at H
   have c5b0 : (a1 == a0_0) = true := beq_iff_eq.mpr c5
   have c5b1 : (a1 != a0_0) = false := bne_eq_false_iff_eq.mpr c5
   clear c5
   (first | rw [c5b0] | (simp only [i64_w, i32_w]; rw [c5b0]) | skip)
   obtain rfl := sj H
   obtain ⟨hcz6_0, hcz6_1, hcz6_2, hfz6_0, hfz6_1, hfz6_2⟩ := bc3f w3 BK320.out
   go_wp2
   go_ret
   exact ⟨er, Q1⟩
 rw [if_neg c5] at H
 have c5b0 : (a1 == a0_0) = false := beq_eq_false_iff_ne.mpr c5
 have c5b1 : (a1 != a0_0) = true := bne_iff_ne.mpr c5
 (first | rw [c5b0] | (simp only [i64_w, i32_w]; rw [c5b0]) | skip)
 obtain ⟨ji7, hji7⟩ : ∃ j_ : Int, (wrap64 ((wrap64 (a1 - a0_0)) - 1)) = j_ := ⟨_, rfl⟩
 replace H : (if 0 ≤ (ji7) then (if (ji7) < (l0_2.length : Int) then (some ((rd_T85 l0_2 (ji7)).f0)) else (none)) else (none)) = some r := by first | (rw [hji7] at H; exact H) | (simp only [hji7] at H ⊢; exact H)
 have hji7w : (IntKind.i64.wrap ((wrap64 (a1 - a0_0)) - 1)) = ji7 := (i64_w _).trans hji7
 by_cases c8 : 0 ≤ (ji7)
 rotate_left
 · rw [if_neg c8] at H
   exact absurd H (by simp)
 rw [if_pos c8] at H
 have c8b0 : decide (0 ≤ (ji7)) = true := decide_eq_true c8
 clear c8
 by_cases c9 : (ji7) < (l0_2.length : Int)
 rotate_left
 · rw [if_neg c9] at H
   exact absurd H (by simp)
 rw [if_pos c9] at H
 have c9b0 : decide ((ji7) < (l0_2.length : Int)) = true := decide_eq_true c9
 clear c9
 obtain rfl := sj H
 obtain ⟨hcz10_0, hcz10_1, hcz10_2, hfz10_0, hfz10_1, hfz10_2⟩ := bc3f w3 BK320.out
 have p321 : 0 ≤ ((ji7) : Int) := of_decide_eq_true Q0
 have q321 : (ji7) < (l0_2.length : Int) := of_decide_eq_true Q0
 obtain ⟨ad321, e321, hx321_0, hx321_1⟩ := at_T85 HR0_2.out (ji7) p321 q321
 cases e321
 replace hx321_0 := cm HB.out hx321_0
 replace hx321_1 := cm HB.out hx321_1
 replace p321 := eq_true p321
 replace q321 := eq_true q321
 go_wp2
 go_ret
 exact ⟨by first | rfl | (simp [errW_none, errW_some] <;> rfl) | (simp only [← hji7]; first | rfl | (simp [errW_none, errW_some] <;> rfl)) | (simp [*, errW_none, errW_some] <;> rfl), Q1⟩

/-! ### impl_areIds: function 113 -/
def impl_areIds.l0 : Nat → List Int → List Int → Int → Int → Option (Bool)
 | 0, _, _, _, _ => none
 | k + 1, x0, x5, x6, x7 => if x7 < x6 then (if 0 ≤ x7 then (if x7 < (x5.length : Int) then (if (rd x5 x7) < 0 then (some false) else (if (rd x5 x7) > 99 then (some false) else (if x7 > 0 then (if 0 ≤ (wrap64 (x7 - 1)) then (if (wrap64 (x7 - 1)) < (x0.length : Int) then (if (rd x0 (wrap64 (x7 - 1))) ≥ (rd x5 x7) then (some false) else (impl_areIds.l0 k x0 x5 x6 (wrap64 (x7 + 1)))) else (none)) else (none)) else (impl_areIds.l0 k x0 x5 x6 (wrap64 (x7 + 1)))))) else (none)) else (none)) else (some (decide ((x0.length : Int) ≤ 7)))
def impl_areIds.f (k : Nat) (l0 : List Int) : Option (Bool) := impl_areIds.l0 k l0 l0 (l0.length : Int) 0
theorem impl_areIds.mono_l : ∀ k, (∀ y0 y1 y2 y3, LeO (impl_areIds.l0 k y0 y1 y2 y3) (impl_areIds.l0 (k + 1) y0 y1 y2 y3))
 | 0 => fun _ _ _ _ r h => by simp [impl_areIds.l0] at h
 | k + 1 => by
   have ih0 := impl_areIds.mono_l k
   · intro y0 y1 y2 y3
     unfold impl_areIds.l0
     repeat' first
     | (with_reducible exact ih0 _ _ _ _)
     | (with_reducible exact LeO.refl _)
     | (with_reducible exact LeO.none _)
     | (with_reducible refine LeO.ite ?_ ?_)
     | (with_reducible refine LeO.bind ?_ (fun _ => ?_))
     | exact ih0 _ _ _ _
     | exact LeO.none _
     | refine LeO.ite ?_ ?_
     | refine LeO.bind ?_ (fun _ => ?_)
theorem impl_areIds.mono : ∀ a0 k, LeO (impl_areIds.f k a0) (impl_areIds.f (k + 1) a0) := by
 intro a0 k
 have ih0 := impl_areIds.mono_l k
 unfold impl_areIds.f
 repeat' first
     | (with_reducible exact ih0 _ _ _ _)
     | (with_reducible exact LeO.refl _)
     | (with_reducible exact LeO.none _)
     | (with_reducible refine LeO.ite ?_ ?_)
     | (with_reducible refine LeO.bind ?_ (fun _ => ?_))
     | exact ih0 _ _ _ _
     | exact LeO.none _
     | refine LeO.ite ?_ ?_
     | refine LeO.bind ?_ (fun _ => ?_)
set_option maxHeartbeats 8000000 in
set_option maxRecDepth 100000 in
theorem impl_areIds.calls (k : Nat) (A0 : Option Addr) (c0 : Nat) (l0 : List Int) (r : Bool) (w : World) (hr0 : Kd.C (Kd.int .i64) w A0 l0.length l0) (hc0 : l0.length ≤ c0) (h : impl_areIds.f k l0 = some r) :
   Calls Try.prog 113 #[.slice A0 l0.length c0] w fun e w' => e = .returned (.bool r) ∧ Drawn0 w w' := by
 have HR0 := am hr0
 have HC0 := am hc0
 clear hr0 hc0
 have H : (impl_areIds.l0 k l0 l0 (l0.length : Int) 0) = some r := h
 clear h
 have H' := am H
 clear H
 go_enter Try.func113, Try.ntmps113
 go_wp2
 go_loopg [7] k (fun kq v7 w' => ∃ (x7_1 : Int), v7 = .int .i64 x7_1 ∧ Aside0 (impl_areIds.l0 kq l0 l0 (l0.length : Int) x7_1 = some r) ∧ Aside0 (kq ≤ k) ∧ Drawn0 w w')
 case atStart => exact ⟨(0), Q2, H', ⟨Nat.le_refl _⟩, Q4⟩
 clear H'
 obtain ⟨x7_1, rfl, HA, HK1, ⟨m1, rfl⟩⟩ := hrel
 cases gk with
 | zero => exact absurd HA.out (by simp [impl_areIds.l0])
 | succ k1 =>
   have H := HA.out
   clear HA
   simp only [impl_areIds.l0] at H
   by_cases c2 : x7_1 < (l0.length : Int)
   rotate_left
   · rw [if_neg c2] at H
     have c2b0 : decide (x7_1 < (l0.length : Int)) = false := decide_eq_false c2
     clear c2
     obtain rfl := sj H
     go_wp2
     go_ret
     exact ⟨by first | rfl | (simp; done) | (simp [*]; done), Q4⟩
   rw [if_pos c2] at H
   have c2b0 : decide (x7_1 < (l0.length : Int)) = true := decide_eq_true c2
   clear c2
   by_cases c3 : 0 ≤ x7_1
   rotate_left
   · rw [if_neg c3] at H
     exact absurd H (by simp)
   rw [if_pos c3] at H
   have c3b0 : decide (0 ≤ x7_1) = true := decide_eq_true c3
   clear c3
   by_cases c4 : x7_1 < (l0.length : Int)
   rotate_left
   · rw [if_neg c4] at H
     exact absurd H (by simp)
   rw [if_pos c4] at H
   have c4b0 : decide (x7_1 < (l0.length : Int)) = true := decide_eq_true c4
   clear c4
   by_cases c5 : (rd l0 x7_1) < 0
   · rw [if_pos c5] at H
     have c5b0 : decide ((rd l0 x7_1) < 0) = true := decide_eq_true c5
     clear c5
     obtain rfl := sj H
     have p322 : 0 ≤ (x7_1 : Int) := of_decide_eq_true Q0
     have q322 : x7_1 < (l0.length : Int) := of_decide_eq_true Q0
     obtain ⟨ad322, e322, hx322_0⟩ := Kd.at_int HR0.out x7_1 p322 q322
     cases e322
     replace p322 := eq_true p322
     replace q322 := eq_true q322
     go_wp2
     go_ret
     exact ⟨by first | rfl | (simp; done) | (simp [*]; done), Q4⟩
   rw [if_neg c5] at H
   have c5b0 : decide ((rd l0 x7_1) < 0) = false := decide_eq_false c5
   clear c5
   by_cases c6 : (rd l0 x7_1) > 99
   · rw [if_pos c6] at H
     have c6b0 : decide (99 < (rd l0 x7_1)) = true := decide_eq_true c6
     clear c6
     obtain rfl := sj H
     have p322 : 0 ≤ (x7_1 : Int) := of_decide_eq_true Q0
     have q322 : x7_1 < (l0.length : Int) := of_decide_eq_true Q0
     obtain ⟨ad322, e322, hx322_0⟩ := Kd.at_int HR0.out x7_1 p322 q322
     cases e322
     replace p322 := eq_true p322
     replace q322 := eq_true q322
     go_wp2
     go_ret
     exact ⟨by first | rfl | (simp; done) | (simp [*]; done), Q4⟩
   rw [if_neg c6] at H
   have c6b0 : decide (99 < (rd l0 x7_1)) = false := decide_eq_false c6
   clear c6
   by_cases c7 : x7_1 > 0
   rotate_left
   · rw [if_neg c7] at H
     have c7b0 : decide (0 < x7_1) = false := decide_eq_false c7
     clear c7
     have H' := am H
     clear H
     have p322 : 0 ≤ (x7_1 : Int) := of_decide_eq_true Q0
     have q322 : x7_1 < (l0.length : Int) := of_decide_eq_true Q0
     obtain ⟨ad322, e322, hx322_0⟩ := Kd.at_int HR0.out x7_1 p322 q322
     cases e322
     replace p322 := eq_true p322
     replace q322 := eq_true q322
     go_wp2
     go_roundg k1
     case measure => have := HK1.out; omega
     case rel => exact ⟨(wrap64 (x7_1 + 1)), Q2, H', ⟨by have := HK1.out; omega⟩, Q4⟩
   rw [if_pos c7] at H
   have c7b0 : decide (0 < x7_1) = true := decide_eq_true c7
   clear c7
   obtain ⟨ji8, hji8⟩ : ∃ j_ : Int, (wrap64 (x7_1 - 1)) = j_ := ⟨_, rfl⟩
   replace H : (if 0 ≤ (ji8) then (if (ji8) < (l0.length : Int) then (if (rd l0 (ji8)) ≥ (rd l0 x7_1) then (some false) else (impl_areIds.l0 k1 l0 l0 (l0.length : Int) (wrap64 (x7_1 + 1)))) else (none)) else (none)) = some r := by first | (rw [hji8] at H; exact H) | (simp only [hji8] at H ⊢; exact H)
   have hji8w : (IntKind.i64.wrap (x7_1 - 1)) = ji8 := (i64_w _).trans hji8
   by_cases c9 : 0 ≤ (ji8)
   rotate_left
   · rw [if_neg c9] at H
     exact absurd H (by simp)
   rw [if_pos c9] at H
   have c9b0 : decide (0 ≤ (ji8)) = true := decide_eq_true c9
   clear c9
   by_cases c10 : (ji8) < (l0.length : Int)
   rotate_left
   · rw [if_neg c10] at H
     exact absurd H (by simp)
   rw [if_pos c10] at H
   have c10b0 : decide ((ji8) < (l0.length : Int)) = true := decide_eq_true c10
   clear c10
   have H9 := am H
   clear H
   have p322 : 0 ≤ (x7_1 : Int) := of_decide_eq_true Q0
   have q322 : x7_1 < (l0.length : Int) := of_decide_eq_true Q0
   obtain ⟨ad322, e322, hx322_0⟩ := Kd.at_int HR0.out x7_1 p322 q322
   cases e322
   replace p322 := eq_true p322
   replace q322 := eq_true q322
   have p323 : 0 ≤ ((ji8) : Int) := of_decide_eq_true Q0
   have q323 : (ji8) < (l0.length : Int) := of_decide_eq_true Q0
   obtain ⟨ad323, e323, hx323_0⟩ := Kd.at_int HR0.out (ji8) p323 q323
   obtain rfl : ad322 = ad323 := (by injection e323)
   replace p323 := eq_true p323
   replace q323 := eq_true q323
   go_upto_if 30 with (fail)
   have H := H9.out
   clear H9
   by_cases c11 : (rd l0 (ji8)) ≥ (rd l0 x7_1)
   · rw [if_pos c11] at H
     have c11b0 : decide ((rd l0 x7_1) ≤ (rd l0 (ji8))) = true := decide_eq_true c11
     clear c11
     (first | rw [c11b0] | (simp only [i64_w, i32_w]; rw [c11b0]) | skip)
     obtain rfl := sj H
     go_wp2
     go_ret
     exact ⟨by first | rfl | (simp; done) | (simp only [← hji8] <;> (first | rfl | simp)) | (simp [*]; done), Q4⟩
   rw [if_neg c11] at H
   have c11b0 : decide ((rd l0 x7_1) ≤ (rd l0 (ji8))) = false := decide_eq_false c11
   clear c11
   (first | rw [c11b0] | (simp only [i64_w, i32_w]; rw [c11b0]) | skip)
   have H' := am H
   clear H
   go_wp2
   go_roundg k1
   case measure => have := HK1.out; omega
   case rel => exact ⟨(wrap64 (x7_1 + 1)), Q2, H', ⟨by have := HK1.out; omega⟩, Q4⟩

/-! ### slices_Index_int_int: function 123 -/
def slices_Index_int_int.l0 : Nat → List Int → Int → Int → Int → Option (Int)
 | 0, _, _, _, _ => none
 | k + 1, x0, x1, x7, x8 => if x8 < x7 then (if 0 ≤ x8 then (if x8 < (x0.length : Int) then (if x1 = (rd x0 x8) then (some x8) else (slices_Index_int_int.l0 k x0 x1 x7 (wrap64 (x8 + 1)))) else (none)) else (none)) else (some (-1))
def slices_Index_int_int.f (k : Nat) (l0 : List Int) (a1 : Int) : Option (Int) := slices_Index_int_int.l0 k l0 a1 (l0.length : Int) 0
theorem slices_Index_int_int.mono_l : ∀ k, (∀ y0 y1 y2 y3, LeO (slices_Index_int_int.l0 k y0 y1 y2 y3) (slices_Index_int_int.l0 (k + 1) y0 y1 y2 y3))
 | 0 => fun _ _ _ _ r h => by simp [slices_Index_int_int.l0] at h
 | k + 1 => by
   have ih0 := slices_Index_int_int.mono_l k
   · intro y0 y1 y2 y3
     unfold slices_Index_int_int.l0
     repeat' first
     | (with_reducible exact ih0 _ _ _ _)
     | (with_reducible exact LeO.refl _)
     | (with_reducible exact LeO.none _)
     | (with_reducible refine LeO.ite ?_ ?_)
     | (with_reducible refine LeO.bind ?_ (fun _ => ?_))
     | exact ih0 _ _ _ _
     | exact LeO.none _
     | refine LeO.ite ?_ ?_
     | refine LeO.bind ?_ (fun _ => ?_)
theorem slices_Index_int_int.mono : ∀ a0 a1 k, LeO (slices_Index_int_int.f k a0 a1) (slices_Index_int_int.f (k + 1) a0 a1) := by
 intro a0 a1 k
 have ih0 := slices_Index_int_int.mono_l k
 unfold slices_Index_int_int.f
 repeat' first
     | (with_reducible exact ih0 _ _ _ _)
     | (with_reducible exact LeO.refl _)
     | (with_reducible exact LeO.none _)
     | (with_reducible refine LeO.ite ?_ ?_)
     | (with_reducible refine LeO.bind ?_ (fun _ => ?_))
     | exact ih0 _ _ _ _
     | exact LeO.none _
     | refine LeO.ite ?_ ?_
     | refine LeO.bind ?_ (fun _ => ?_)
set_option maxHeartbeats 8000000 in
set_option maxRecDepth 100000 in
theorem slices_Index_int_int.calls (k : Nat) (A0 : Option Addr) (c0 : Nat) (l0 : List Int) (a1 : Int) (r : Int) (w : World) (hr0 : Kd.C (Kd.int .i64) w A0 l0.length l0) (hc0 : l0.length ≤ c0) (h : slices_Index_int_int.f k l0 a1 = some r) :
   Calls Try.prog 123 #[.slice A0 l0.length c0, .int .i64 a1] w fun e w' => e = .returned (.int .i64 r) ∧ Drawn0 w w' := by
 have HR0 := am hr0
 have HC0 := am hc0
 clear hr0 hc0
 have H : (slices_Index_int_int.l0 k l0 a1 (l0.length : Int) 0) = some r := h
 clear h
 have H' := am H
 clear H
 go_enter Try.func123, Try.ntmps123
 go_wp2
 go_loopg [8] k (fun kq v8 w' => ∃ (x8_1 : Int), v8 = .int .i64 x8_1 ∧ Aside0 (slices_Index_int_int.l0 kq l0 a1 (l0.length : Int) x8_1 = some r) ∧ Aside0 (kq ≤ k) ∧ Drawn0 w w')
 case atStart => exact ⟨(0), Q2, H', ⟨Nat.le_refl _⟩, Q4⟩
 clear H'
 obtain ⟨x8_1, rfl, HA, HK1, ⟨m1, rfl⟩⟩ := hrel
 cases gk with
 | zero => exact absurd HA.out (by simp [slices_Index_int_int.l0])
 | succ k1 =>
   have H := HA.out
   clear HA
   simp only [slices_Index_int_int.l0] at H
   by_cases c3 : x8_1 < (l0.length : Int)
   rotate_left
   · rw [if_neg c3] at H
     have c3b0 : decide (x8_1 < (l0.length : Int)) = false := decide_eq_false c3
     clear c3
     obtain rfl := sj H
     go_wp2
     go_ret
     exact ⟨by first | rfl | (simp; done) | (simp [*]; done), Q4⟩
   rw [if_pos c3] at H
   have c3b0 : decide (x8_1 < (l0.length : Int)) = true := decide_eq_true c3
   clear c3
   by_cases c4 : 0 ≤ x8_1
   rotate_left
   · rw [if_neg c4] at H
     exact absurd H (by simp)
   rw [if_pos c4] at H
   have c4b0 : decide (0 ≤ x8_1) = true := decide_eq_true c4
   clear c4
   by_cases c5 : x8_1 < (l0.length : Int)
   rotate_left
   · rw [if_neg c5] at H
     exact absurd H (by simp)
   rw [if_pos c5] at H
   have c5b0 : decide (x8_1 < (l0.length : Int)) = true := decide_eq_true c5
   clear c5
   have H9 := am H
   clear H
   have p324 : 0 ≤ (x8_1 : Int) := of_decide_eq_true Q0
   have q324 : x8_1 < (l0.length : Int) := of_decide_eq_true Q0
   obtain ⟨ad324, e324, hx324_0⟩ := Kd.at_int HR0.out x8_1 p324 q324
   cases e324
   replace p324 := eq_true p324
   replace q324 := eq_true q324
   go_upto_if 16 with (fail)
   have H := H9.out
   clear H9
   by_cases c6 : a1 = (rd l0 x8_1)
   · rw [if_pos c6] at H
     have c6b0 : (a1 == (rd l0 x8_1)) = true := beq_iff_eq.mpr c6
     have c6b1 : (a1 != (rd l0 x8_1)) = false := bne_eq_false_iff_eq.mpr c6
     clear c6
     (first | rw [c6b0] | (simp only [i64_w, i32_w]; rw [c6b0]) | skip)
     obtain rfl := sj H
     go_wp2
     go_ret
     exact ⟨by first | rfl | (simp; done) | (simp [*]; done), Q4⟩
   rw [if_neg c6] at H
   have c6b0 : (a1 == (rd l0 x8_1)) = false := beq_eq_false_iff_ne.mpr c6
   have c6b1 : (a1 != (rd l0 x8_1)) = true := bne_iff_ne.mpr c6
   (first | rw [c6b0] | (simp only [i64_w, i32_w]; rw [c6b0]) | skip)
   have H' := am H
   clear H
   go_wp2
   go_roundg k1
   case measure => have := HK1.out; omega
   case rel => exact ⟨(wrap64 (x8_1 + 1)), Q2, H', ⟨by have := HK1.out; omega⟩, Q4⟩

/-! ### slices_Contains_int_int: function 114 -/
def slices_Contains_int_int.f (k : Nat) (l0 : List Int) (a1 : Int) : Option (Bool) := (slices_Index_int_int.f k l0 a1).bind fun t325 => (some (decide (t325 ≥ 0)))
theorem slices_Contains_int_int.mono : ∀ a0 a1 k, LeO (slices_Contains_int_int.f k a0 a1) (slices_Contains_int_int.f (k + 1) a0 a1) := by
 intro a0 a1 k
 unfold slices_Contains_int_int.f
 repeat' first
     | (with_reducible exact slices_Index_int_int.mono _ _ _)
     | (with_reducible exact LeO.refl _)
     | (with_reducible exact LeO.none _)
     | (with_reducible refine LeO.ite ?_ ?_)
     | (with_reducible refine LeO.bind ?_ (fun _ => ?_))
     | exact slices_Index_int_int.mono _ _ _
     | exact LeO.none _
     | refine LeO.ite ?_ ?_
     | refine LeO.bind ?_ (fun _ => ?_)
set_option maxHeartbeats 8000000 in
set_option maxRecDepth 100000 in
theorem slices_Contains_int_int.calls (k : Nat) (A0 : Option Addr) (c0 : Nat) (l0 : List Int) (a1 : Int) (r : Bool) (w : World) (hr0 : Kd.C (Kd.int .i64) w A0 l0.length l0) (hc0 : l0.length ≤ c0) (h : slices_Contains_int_int.f k l0 a1 = some r) :
   Calls Try.prog 114 #[.slice A0 l0.length c0, .int .i64 a1] w fun e w' => e = .returned (.bool r) ∧ Drawn0 w w' := by
 have HR0 := am hr0
 have HC0 := am hc0
 clear hr0 hc0
 have H : ((slices_Index_int_int.f k l0 a1).bind fun t325 => (some (decide (t325 ≥ 0)))) = some r := h
 clear h
 replace H := Option.bind_eq_some_iff.mp H
 obtain ⟨t325, A30, H⟩ := H
 replace H : (some (decide (t325 ≥ 0))) = some r := H
 have A3 := am A30
 clear A30
 obtain rfl := sj H
 go_enter Try.func114, Try.ntmps114
 go_wp2_with (first | ((with_reducible refine gate_callee (f := 123) rfl ?_); refine goesL_ (some 7) rfl rfl Try.func123 kr rfl #[.slice A0 l0.length c0, .int .i64 a1] rfl Q3 ?_; (with_reducible refine (slices_Index_int_int.calls k _ _ l0 a1 t325 _ ?side1 ?side2 A3.out).mono ?_); (case side1 => exact (by repeat (first | exact HR0.out | (with_reducible refine Kd.C_alloc ?_ _) | (with_reducible refine Kd.C_drewN ?_ _) | (with_reducible refine Kd.C_drew ?_)))); (case side2 => exact HC0.out); rintro e w' ⟨rfl, ⟨nd, rfl⟩⟩; refine ⟨_, rfl, ?_⟩))
 go_ret
 exact ⟨by first | rfl | (simp; done) | (simp [*]; done), Q4⟩

/-! ### slices_Max_int_int: function 115 -/
def slices_Max_int_int.f (l0 : List Int) : Option Int := if 0 < l0.length then some (Lib.maxOf l0) else none
set_option maxHeartbeats 2000000 in
set_option maxRecDepth 100000 in
theorem slices_Max_int_int.calls (A0 : Option Addr) (c0 : Nat) (l0 : List Int) (r : Int) (w : World) (hr0 : Kd.C (Kd.int .i64) w A0 l0.length l0) (hc0 : l0.length ≤ c0) (h : slices_Max_int_int.f l0 = some r) :
   Calls Try.prog 115 #[.slice A0 l0.length c0] w fun e w' => e = .returned (.int .i64 r) ∧ ∃ nd, w' = w.drewN nd := by
 unfold slices_Max_int_int.f at h
 by_cases h0 : 0 < l0.length
 rotate_left
 · rw [if_neg h0] at h; cases h
 rw [if_pos h0] at h
 obtain rfl := Option.some.inj h
 have hn : l0.length ≤ 9223372036854775807 := hr0.2.1
 have HR := am hr0
 have H1 : Aside0 (rd l0 0 = Lib.maxOf (l0.take 1)) := ⟨by rw [Lib.maxOf_one]; rfl⟩
 have HS : Aside0 (∀ k : Int, 0 < k → k < (l0.length : Int) → max (Lib.maxOf (l0.take k.toNat)) (rd l0 k) = Lib.maxOf (l0.take (k + 1).toNat)) := ⟨fun k h1 h2 => by
   rw [show (k + 1).toNat = k.toNat + 1 by omega, Lib.maxOf_step l0 k.toNat (by omega) (by omega)]
   rfl⟩
 obtain ⟨ad, rfl, hx⟩ := Kd.at_int hr0 0 (by omega) (by omega)
 have hx0 : w.cell? ad = some (.int .i64 (rd l0 0)) := hx
 clear hr0 hx
 go_enter Try.func115, Try.ntmps115
 go_wp2
 go_loopg [3, 4] l0.length (fun gg s3 s4 wr => ∃ k : Int, 0 < k ∧ k ≤ l0.length ∧ l0.length - k.toNat ≤ gg ∧ s4 = .int .i64 k ∧ s3 = .int .i64 (Lib.maxOf (l0.take k.toNat)) ∧ wr = w)
 case atStart => exact ⟨1, by omega, by omega, by omega, rfl, congrArg (Value.int .i64) H1.out, rfl⟩
 obtain ⟨k, hk0, hk, hg, rfl, rfl, rfl⟩ := hrel
 by_cases hlt : k < (l0.length : Int)
 rotate_left
 · go_wp2
   go_ret
   have e : k.toNat = l0.length := by omega
   rw [e, List.take_of_length_le (Nat.le_refl _)]
   exact ⟨rfl, 0, rfl⟩
 obtain ⟨ad', e, hx1⟩ := Kd.at_int HR.out k (by omega) hlt
 cases e
 have HE := am (HS.out k hk0 hlt)
 go_wp2
 all_goals (go_roundg (l0.length - (k + 1).toNat); (case measure => omega); (case rel => exact ⟨k + 1, by omega, by omega, by omega, by go_num, by rw [← HE.out]; congr 1; omega, rfl⟩))


end Go.Proofs.Ytkcadcoohmofcaa.QFnExactPropose
