-- Printed by the session's own program wip/prx.py.
import Derived.Test.YtkcadcoohmofcaaSqFnExactSafeGroup
import Derived.Test.YtkcadcoohmofcaaQFnExactSafeGroupx0
import Derived.Test.YtkcadcoohmofcaaQFnExactSafeGroupx9
namespace Go.Proofs.Ytkcadcoohmofcaa.QFnExactSafeGroup
open Go.RowKit Go.Proofs.YtkcadcoohmofcaaW.PrintWords Go.Proofs.YtkcadcoohmofcaaW.PrintLast Go.Proofs.YtkcadcoohmofcaaW.PrintMore Go.Proofs.Ytkcadcoohmofcaa.SqFnExactSafeGroup
attribute [local go_sem] max2_int min2_int max_two min_two max_three min_three max_four min_four Go.Proofs.Ytkcadcoohmofcaa.Set.isSome_setCell
set_option linter.unusedVariables false
set_option linter.unusedSimpArgs false

-- squeezed
theorem u13_1 {P : Prop} (h : P := by (with_reducible repeat (first | refine blk_drewN ?_ _ | refine blk_drew ?_ | refine blk_alloc ?_ _)); exact BK290.out) : P := h
theorem u13_2 {P : Prop} (h : P := by (with_reducible repeat (first | refine blk_drewN ?_ _ | refine blk_drew ?_ | refine blk_alloc ?_ _)); exact BK291.out) : P := h
theorem u13_9 {P : Prop} (h : P := by have := HK1.out; first | omega | exact Nat.le_refl _) : P := h
/-! ### spec_Agree: function 101 -/
mutual
def spec_Agree.l0 : Nat → Int → Int → Int → List (S85) → Int → Int → List (S85) → Option (Int)
 | 0, _, _, _, _, _, _, _ => none
 | k + 1, x5, x291000, x291001, x291002, x292000, x292001, x292002 => if x5 ≥ 0 then (if x5 ≥ x291000 then ((spec_RLogOk.f k x292000 x292001 x292002).bind fun t293 => (spec_Agree.j1 k x5 t293 x291000 x291001 x291002 x292000 x292001 x292002)) else (spec_Agree.j1 k x5 false x291000 x291001 x291002 x292000 x292001 x292002)) else (spec_Agree.j1 k x5 false x291000 x291001 x291002 x292000 x292001 x292002)
def spec_Agree.j1 : Nat → Int → Bool → Int → Int → List (S85) → Int → Int → List (S85) → Option (Int)
 | 0, _, _, _, _, _, _, _, _ => none
 | k + 1, x5, x19, x291000, x291001, x291002, x292000, x292001, x292002 => if x19 = true then ((spec_TermAt.f k x292000 x292001 x292002 x5).bind fun t294 => (if t294 ≥ 0 then ((spec_TermAt.f k x291000 x291001 x291002 x5).bind fun t295 => ((spec_TermAt.f k x292000 x292001 x292002 x5).bind fun t296 => (if t295 = t296 then (some x5) else (spec_Agree.l0 k (wrap64 (x5 - 1)) x291000 x291001 x291002 x292000 x292001 x292002)))) else (spec_Agree.l0 k (wrap64 (x5 - 1)) x291000 x291001 x291002 x292000 x292001 x292002))) else (some (-1))
end
def spec_Agree.f (k : Nat) (a0_0 : Int) (a0_1 : Int) (l0_2 : List (S85)) (a1_0 : Int) (a1_1 : Int) (l1_2 : List (S85)) : Option (Int) := (spec_LastIndex.f k a0_0 a0_1 l0_2).bind fun t292 => (spec_Agree.l0 k t292 a0_0 a0_1 l0_2 a1_0 a1_1 l1_2)
theorem spec_Agree.mono_l : ∀ k, (∀ y0 y1 y2 y3 y4 y5 y6, LeO (spec_Agree.l0 k y0 y1 y2 y3 y4 y5 y6) (spec_Agree.l0 (k + 1) y0 y1 y2 y3 y4 y5 y6)) ∧ (∀ y0 y1 y2 y3 y4 y5 y6 y7, LeO (spec_Agree.j1 k y0 y1 y2 y3 y4 y5 y6 y7) (spec_Agree.j1 (k + 1) y0 y1 y2 y3 y4 y5 y6 y7))
 | 0 => ⟨fun _ _ _ _ _ _ _ r h => by simp [spec_Agree.l0] at h, fun _ _ _ _ _ _ _ _ r h => by simp [spec_Agree.j1] at h⟩
 | k + 1 => by
   obtain ⟨ih0, ih1⟩ := spec_Agree.mono_l k
   refine ⟨?_, ?_⟩ <;> intros <;> (first | unfold spec_Agree.l0 | unfold spec_Agree.j1) <;> repeat' first
   | (with_reducible exact ih0 _ _ _ _ _ _ _)
   | (with_reducible exact ih1 _ _ _ _ _ _ _ _)
   | (with_reducible exact spec_LastIndex.mono _ _ _ _)
   | (with_reducible exact spec_RLogOk.mono _ _ _ _)
   | (with_reducible exact spec_TermAt.mono _ _ _ _ _)
   | (with_reducible exact LeO.refl _)
   | (with_reducible exact LeO.none _)
   | (with_reducible refine LeO.ite ?_ ?_)
   | (with_reducible refine LeO.bind ?_ (fun _ => ?_))
   | exact ih0 _ _ _ _ _ _ _
   | exact ih1 _ _ _ _ _ _ _ _
   | exact spec_LastIndex.mono _ _ _ _
   | exact spec_RLogOk.mono _ _ _ _
   | exact spec_TermAt.mono _ _ _ _ _
   | exact LeO.none _
   | refine LeO.ite ?_ ?_
   | refine LeO.bind ?_ (fun _ => ?_)
theorem spec_Agree.mono : ∀ a0 a1 a2 a3 a4 a5 k, LeO (spec_Agree.f k a0 a1 a2 a3 a4 a5) (spec_Agree.f (k + 1) a0 a1 a2 a3 a4 a5) := by
 intro a0 a1 a2 a3 a4 a5 k
 obtain ⟨ih0, ih1⟩ := spec_Agree.mono_l k
 unfold spec_Agree.f
 repeat' first
     | (with_reducible exact ih0 _ _ _ _ _ _ _)
     | (with_reducible exact ih1 _ _ _ _ _ _ _ _)
     | (with_reducible exact spec_LastIndex.mono _ _ _ _)
     | (with_reducible exact spec_RLogOk.mono _ _ _ _)
     | (with_reducible exact spec_TermAt.mono _ _ _ _ _)
     | (with_reducible exact LeO.refl _)
     | (with_reducible exact LeO.none _)
     | (with_reducible refine LeO.ite ?_ ?_)
     | (with_reducible refine LeO.bind ?_ (fun _ => ?_))
     | exact ih0 _ _ _ _ _ _ _
     | exact ih1 _ _ _ _ _ _ _ _
     | exact spec_LastIndex.mono _ _ _ _
     | exact spec_RLogOk.mono _ _ _ _
     | exact spec_TermAt.mono _ _ _ _ _
     | exact LeO.none _
     | refine LeO.ite ?_ ?_
     | refine LeO.bind ?_ (fun _ => ?_)
def spec_Agree.T4 : Bool × List (List Nat × List Nat) := (true, [([], []), ([], []), ([0, 1], [0, 1]), ([2], [2]), ([3, 2], [3]), ([4], [4]), ([4], [4]), ([5, 6, 4, 4], [4, 5, 6]), ([4], [4]), ([4], [4]), ([8, 9, 7, 4], [4, 8, 9]), ([7, 10, 4], [4, 7, 10]), ([4, 11], [4, 11])])
def spec_Agree.B4 : List Nat := [0, 0, 3, 7, 15, 31, 31, 127, 31, 31, 1023, 2047, 4095]
theorem spec_Agree.tab4 : rtab .any (opsOf Try.f101 4) = spec_Agree.T4 := by kernel_rfl
theorem spec_Agree.bits4 : waitsOk spec_Agree.T4.2 spec_Agree.B4 = true := by kernel_rfl
set_option maxHeartbeats 8000000 in
set_option maxRecDepth 100000 in
theorem spec_Agree.calls (k : Nat) (a0_0 : Int) (a0_1 : Int) (A0_2 : Option Addr) (c0_2 : Nat) (l0_2 : List (S85)) (a1_0 : Int) (a1_1 : Int) (A1_2 : Option Addr) (c1_2 : Nat) (l1_2 : List (S85)) (r : Int) (w : World) (hr0_2 : Kd.C k85 w A0_2 l0_2.length l0_2) (hc0_2 : l0_2.length ≤ c0_2) (hr1_2 : Kd.C k85 w A1_2 l1_2.length l1_2) (hc1_2 : l1_2.length ≤ c1_2) (h : spec_Agree.f k a0_0 a0_1 l0_2 a1_0 a1_1 l1_2 = some r) :
   Calls Try.prog 101 #[.agg #[.int .i64 a0_0, .int .i64 a0_1, .slice A0_2 l0_2.length c0_2], .agg #[.int .i64 a1_0, .int .i64 a1_1, .slice A1_2 l1_2.length c1_2]] w fun e w' => e = .returned (.int .i64 r) ∧ Below w.heap.size w w' := by
 have hu34 := Try.underlying34
 have HR0_2 := am hr0_2
 have HC0_2 := am hc0_2
 clear hr0_2 hc0_2
 have HR1_2 := am hr1_2
 have HC1_2 := am hc1_2
 clear hr1_2 hc1_2
 have HB := am (Below.refl w.heap.size w)
 have H : ((spec_LastIndex.f k a0_0 a0_1 l0_2).bind fun t292 => (spec_Agree.l0 k t292 a0_0 a0_1 l0_2 a1_0 a1_1 l1_2)) = some r := h
 clear h
 replace H := Option.bind_eq_some_iff.mp H
 obtain ⟨t292, A30, H⟩ := H
 replace H : (spec_Agree.l0 k t292 a0_0 a0_1 l0_2 a1_0 a1_1 l1_2) = some r := H
 have A3 := am A30
 clear A30
 have H' := am H
 clear H
 go_enter Try.func101, Try.ntmps101
 go_wp2_with (first | ((with_reducible refine gate_dst (N := 2) rfl ?_); refine box_event ?hg (N := 2) ?hd (cs := #[.int .i64 a0_0, .int .i64 a0_1, .slice A0_2 l0_2.length c0_2]) (t := 34) ?hr ?_; (case hd => rfl); (case hg => rfl); (case hr => first | (go_simp; done) | (go_simp; rfl)); intro gb290 hg w4 hbox hb; have BK290 := am (hbox); have GW290 := am ((by rw [hg]; exact (below_size q2) : w.heap.size ≤ gb290)); have GE290 := am ((by rw [hg]; exact (below_size q2) : w.heap.size ≤ gb290)); replace HB := am (below_step q2 hb); clear hb hbox hg) | ((with_reducible refine gate_dst (N := 3) rfl ?_); refine box_event ?hg (N := 3) ?hd (cs := #[.int .i64 a1_0, .int .i64 a1_1, .slice A1_2 l1_2.length c1_2]) (t := 34) ?hr ?_; (case hd => rfl); (case hg => rfl); (case hr => first | (go_simp; done) | (go_simp; rfl)); intro gb291 hg w5 hbox hb; have BK291 := am (hbox); have GW291 := am ((by rw [hg]; exact (below_size q2) : w.heap.size ≤ gb291)); have GE291 := am ((by rw [hg]; exact (below_size q2) : w.heap.size ≤ gb291)); replace HB := am (below_step q2 hb); have NB290_291 := am ((by rw [hg]; exact Nat.ne_of_lt (blk_lt (g := gb290) (o := .cells #[.int .i64 a0_0, .int .i64 a0_1, .slice A0_2 l0_2.length c0_2] 34 (0, 0)) u13_1) : gb290 ≠ gb291)); have NB291_290 := am ((by rw [hg]; exact Nat.ne_of_gt (blk_lt (g := gb290) (o := .cells #[.int .i64 a0_0, .int .i64 a0_1, .slice A0_2 l0_2.length c0_2] 34 (0, 0)) u13_1) : gb291 ≠ gb290)); replace BK290 := am (blk_below (g := gb290) (o := .cells #[.int .i64 a0_0, .int .i64 a0_1, .slice A0_2 l0_2.length c0_2] 34 (0, 0)) u13_1 hb); clear hb hbox hg; have hnb6 := NB290_291.out; have hnc6 := NB291_290.out; obtain ⟨hcz7_0, hcz7_1, hcz7_2⟩ := bc3 w5 BK290.out) | ((with_reducible refine gate_callee (f := 72) rfl ?_); refine goesL_ (some 7) rfl rfl Try.func72 kr rfl #[.agg #[.int .i64 a0_0, .int .i64 a0_1, .slice A0_2 l0_2.length c0_2]] rfl q0 ?_; (with_reducible refine (spec_LastIndex.calls k a0_0 a0_1 _ _ l0_2 t292 _ ?side1 ?side2 A3.out).mono ?_); (case side1 => exact q5); (case side2 => exact HC0_2.out); rintro e w8 ⟨rfl, hb⟩; refine ⟨_, rfl, ?_⟩; replace BK290 := am (blk_below (g := gb290) (o := .cells #[.int .i64 a0_0, .int .i64 a0_1, .slice A0_2 l0_2.length c0_2] 34 (0, 0)) u13_1 hb); replace BK291 := am (blk_below (g := gb291) (o := .cells #[.int .i64 a1_0, .int .i64 a1_1, .slice A1_2 l1_2.length c1_2] 34 (0, 0)) u13_2 hb); replace HB := am (below_step q2 hb); (try clear hb); (try clear hb2); (try clear hk); (try clear hi)))
 go_loopg [5] k (fun kq v5 w' => ∃ (x5_1 : Int), v5 = .int .i64 x5_1 ∧ Aside0 (spec_Agree.l0 kq x5_1 a0_0 a0_1 l0_2 a1_0 a1_1 l1_2 = some r) ∧ Aside0 (kq ≤ k) ∧ Aside0 (w'.heap[gb290]? = some (.cells #[.int .i64 a0_0, .int .i64 a0_1, (.slice A0_2 l0_2.length c0_2)] 34 (0, 0))) ∧ Aside0 (w'.heap[gb291]? = some (.cells #[.int .i64 a1_0, .int .i64 a1_1, (.slice A1_2 l1_2.length c1_2)] 34 (0, 0))) ∧ Aside0 (Below w.heap.size w w'))
 case atStart => exact ⟨(t292), q3, H', ⟨Nat.le_refl _⟩, ⟨u13_1⟩, ⟨u13_2⟩, ⟨q2⟩⟩
 clear H'
 try clear hcz7_0
 try clear hcz7_1
 try clear hcz7_2
 obtain ⟨x5_1, rfl, HA, HK1, BK290, BK291, HB⟩ := hrel
 cases gk with
 | zero => exact absurd HA.out (by simp [spec_Agree.l0])
 | succ k1 =>
   have H := HA.out
   clear HA
   simp only [spec_Agree.l0] at H
   have HC9 := am H
   clear H
   go_upto_region 2 with (fail)
   go_cut [19] (fun v19 wc => ∃ (kq : Nat) (x19_8 : Bool), v19 = .bool x19_8 ∧ Aside0 (spec_Agree.j1 kq x5_1 x19_8 a0_0 a0_1 l0_2 a1_0 a1_1 l1_2 = some r) ∧ Aside0 (kq ≤ k1) ∧ Aside0 (wc.heap[gb290]? = some (.cells #[.int .i64 a0_0, .int .i64 a0_1, (.slice A0_2 l0_2.length c0_2)] 34 (0, 0))) ∧ Aside0 (wc.heap[gb291]? = some (.cells #[.int .i64 a1_0, .int .i64 a1_1, (.slice A1_2 l1_2.length c1_2)] 34 (0, 0))) ∧ Aside0 (Below w.heap.size w wc))
   case first =>
     have H := HC9.out
     clear HC9
     by_cases c10 : x5_1 ≥ 0
     rotate_left
     · rw [if_neg c10] at H
       have c10b0 : decide (0 ≤ x5_1) = false := decide_eq_false c10
       clear c10
       (first | rw [c10b0] | (simp only [i64_w, i32_w]; rw [c10b0]) | skip)
       have H' := am H
       clear H
       go_wp2
       go_meet
       case rel => exact ⟨_, (false), q3, H', ⟨u13_9⟩, ⟨u13_1⟩, ⟨u13_2⟩, ⟨q2⟩⟩
     rw [if_pos c10] at H
     have c10b0 : decide (0 ≤ x5_1) = true := decide_eq_true c10
     clear c10
     (first | rw [c10b0] | (simp only [i64_w, i32_w]; rw [c10b0]) | skip)
     by_cases c11 : x5_1 ≥ a0_0
     rotate_left
     · rw [if_neg c11] at H
       have c11b0 : decide (a0_0 ≤ x5_1) = false := decide_eq_false c11
       clear c11
       have H' := am H
       clear H
       have hnb17 := NB290_291.out
       have hnc17 := NB291_290.out
       obtain ⟨hcz18_0, hcz18_1, hcz18_2⟩ := bc3 wr BK290.out
       go_wp2
       go_meet
       case rel => exact ⟨_, (false), q3, H', ⟨u13_9⟩, ⟨u13_1⟩, ⟨u13_2⟩, ⟨q2⟩⟩
     rw [if_pos c11] at H
     have c11b0 : decide (a0_0 ≤ x5_1) = true := decide_eq_true c11
     clear c11
     replace H := Option.bind_eq_some_iff.mp H
     obtain ⟨t293, A120, H⟩ := H
     replace H : (spec_Agree.j1 k1 x5_1 t293 a0_0 a0_1 l0_2 a1_0 a1_1 l1_2) = some r := H
     have A12 := am A120
     clear A120
     have H' := am H
     clear H
     have hnb13 := NB290_291.out
     have hnc13 := NB291_290.out
     obtain ⟨hcz14_0, hcz14_1, hcz14_2⟩ := bc3 wr BK290.out
     obtain ⟨hcz15_0, hcz15_1, hcz15_2, hfz15_0, hfz15_1, hfz15_2⟩ := bc3f wr BK291.out
     go_wp2_with (first | (go_at_call 86; (with_reducible refine (spec_RLogOk.calls k1 a1_0 a1_1 _ _ l1_2 t293 _ ?side1 ?side2 A12.out).mono ?_); (case side1 => exact q9); (case side2 => exact HC1_2.out); rintro e w16 ⟨rfl, hb⟩; replace BK290 := am (blk_below (g := gb290) (o := .cells #[.int .i64 a0_0, .int .i64 a0_1, .slice A0_2 l0_2.length c0_2] 34 (0, 0)) u13_1 hb); replace BK291 := am (blk_below (g := gb291) (o := .cells #[.int .i64 a1_0, .int .i64 a1_1, .slice A1_2 l1_2.length c1_2] 34 (0, 0)) u13_2 hb); replace HB := am (below_step q2 hb); (try clear hb); (try clear hb2); (try clear hk); (try clear hi)))
     go_meet
     case rel => exact ⟨_, (t293), q3, H', ⟨u13_9⟩, ⟨u13_1⟩, ⟨u13_2⟩, ⟨q2⟩⟩
   clear HC9
   try clear hcz7_0
   try clear hcz7_1
   try clear hcz7_2
   obtain ⟨kq, x19_8, rfl, HA, HJ8, BK290, BK291, HB⟩ := hcut
   cases kq with
   | zero => exact absurd HA.out (by simp [spec_Agree.j1])
   | succ kj8 =>
     have H := HA.out
     clear HA
     simp only [spec_Agree.j1] at H
     by_cases c19 : x19_8 = true
     rotate_left
     · replace c19 := Bool.eq_false_iff.mpr c19
       subst c19
       rw [nf] at H
       obtain rfl := sj H
       go_wp2
       go_ret
       exact ⟨er, q2⟩
     subst c19
     rw [if_pos rfl] at H
     replace H := Option.bind_eq_some_iff.mp H
     obtain ⟨t294, A200, H⟩ := H
     have A20 := am A200
     clear A200
     by_cases c21 : t294 ≥ 0
     rotate_left
     · rw [if_neg c21] at H
       have c21b0 : decide (0 ≤ t294) = false := decide_eq_false c21
       clear c21
       have H' := am H
       clear H
       try go_wp2
       replace BK290 := am (blk_drew BK290.out)
       replace BK291 := am (blk_drew BK291.out)
       replace HB := am (below_drew1 HB.out)
       refine start_ (n := 13) (S := fun w' => w'.cell? ⟨gb291, 0, none⟩ = some (.int .i64 a1_0) ∧ w'.cell? ⟨gb291, 1, none⟩ = some (.int .i64 a1_1) ∧ w'.cell? ⟨gb291, 2, none⟩ = some (.slice A1_2 l1_2.length c1_2)) (ds := []) b0_13 kr rfl rfl ⟨(blk_cell BK291.out 0).trans rfl, (blk_cell BK291.out 1).trans rfl, (blk_cell BK291.out 2).trans rfl⟩ (fun hHeld => ?_); refine with_tabW spec_Agree.tab4 spec_Agree.bits4 (fun HT_ HW_ => ?_)
       generalize wc.drew = w29 at BK290 BK291 HB hHeld ⊢
       refine pV 1 23 #[false, true, false, false, false, false, false, false, false, false, false, false, false] ?_
       refine tV 0 22 (bt 2 13) ?_
       refine one_ (i := 2) (N := some 24) #[true, true, true, false, false, false, false, false, false, false, false, false, false] rfl rfl (one_of HT_.out kr) (by decide) (fun K hK => ?_)
       refine goes_ Try.func73 kr rfl #[.agg #[.int .i64 a1_0, .int .i64 a1_1, .slice A1_2 l1_2.length c1_2], .int .i64 x5_1] (by rfl) rfl rfl q0 ?_
       with_reducible refine (spec_TermAt.calls kj8 a1_0 a1_1 _ _ l1_2 x5_1 t294 _ ?side1 ?side2 A20.out).mono ?_
       (case side1 => exact q9)
       (case side2 => exact HC1_2.out)
       rintro e w30 ⟨rfl, hb⟩
       refine ⟨_, rfl, ?_⟩
       replace BK290 := am (blk_below (g := gb290) (o := .cells #[.int .i64 a0_0, .int .i64 a0_1, .slice A0_2 l0_2.length c0_2] 34 (0, 0)) u13_1 hb)
       replace BK291 := am (blk_below (g := gb291) (o := .cells #[.int .i64 a1_0, .int .i64 a1_1, .slice A1_2 l1_2.length c1_2] 34 (0, 0)) u13_2 hb)
       replace HB := am (below_step q2 hb)
       (try clear hb)
       (try clear hb2)
       (try clear hk)
       (try clear hi)
       refine hK.out _ _ ⟨(blk_cell BK291.out 0).trans rfl, (blk_cell BK291.out 1).trans rfl, (blk_cell BK291.out 2).trans rfl⟩ (fun hHeld => ?_)
       clear hK K
       refine norm_ (a' := ?_) ?_ ?_
       rotate_left
       · show Act.put _ (some 24) _ = _
         simp only [Act.put, la, lb, lc, i64_w, i32_w]
         rfl
       refine pV 3 25 (bt 4 13) ?_
       refine pV 4 26 (bt 5 13) ?_
       refine pU 5 27 (bt 6 13) ?_
       refine pU 6 28 (bt 7 13) ?_
       refine pU 7 29 (bt 8 13) ?_
       refine pU 8 30 (bt 9 13) ?_
       refine pU 9 31 (bt 10 13) ?_
       refine pU 10 32 (bt 11 13) ?_
       refine pU 11 33 (bt 12 13) ?_
       refine pV 12 34 (bt 13 13) ?_
       refine done_ (done_of HT_.out kr) ?_
       try go_wp2
       go_roundg kj8
       case measure => have := HK1.out; have := HJ8.out; omega
       case rel => exact ⟨(wrap64 (x5_1 - 1)), q3, H', ⟨(by have := HK1.out; have := HJ8.out; omega)⟩, ⟨u13_1⟩, ⟨u13_2⟩, ⟨q2⟩⟩
     rw [if_pos c21] at H
     have c21b0 : decide (0 ≤ t294) = true := decide_eq_true c21
     clear c21
     replace H := Option.bind_eq_some_iff.mp H
     obtain ⟨t295, A220, H⟩ := H
     have A22 := am A220
     clear A220
     replace H := Option.bind_eq_some_iff.mp H
     obtain ⟨t296, A230, H⟩ := H
     have A23 := am A230
     clear A230
     have H9 := am H
     clear H
     try go_wp2
     replace BK290 := am (blk_drew BK290.out)
     replace BK291 := am (blk_drew BK291.out)
     replace HB := am (below_drew1 HB.out)
     refine start_ (n := 13) (S := fun w' => w'.cell? ⟨gb291, 0, none⟩ = some (.int .i64 a1_0) ∧ w'.cell? ⟨gb291, 1, none⟩ = some (.int .i64 a1_1) ∧ w'.cell? ⟨gb291, 2, none⟩ = some (.slice A1_2 l1_2.length c1_2) ∧ w'.cell? ⟨gb290, 0, none⟩ = some (.int .i64 a0_0) ∧ w'.cell? ⟨gb290, 1, none⟩ = some (.int .i64 a0_1) ∧ w'.cell? ⟨gb290, 2, none⟩ = some (.slice A0_2 l0_2.length c0_2)) (ds := []) b0_13 kr rfl rfl ⟨(blk_cell BK291.out 0).trans rfl, (blk_cell BK291.out 1).trans rfl, (blk_cell BK291.out 2).trans rfl, (blk_cell BK290.out 0).trans rfl, (blk_cell BK290.out 1).trans rfl, (blk_cell BK290.out 2).trans rfl⟩ (fun hHeld => ?_); refine with_tabW spec_Agree.tab4 spec_Agree.bits4 (fun HT_ HW_ => ?_)
     generalize wc.drew = w24 at BK290 BK291 HB hHeld ⊢
     refine pV 1 23 #[false, true, false, false, false, false, false, false, false, false, false, false, false] ?_
     refine tV 0 22 (bt 2 13) ?_
     refine one_ (i := 2) (N := some 24) #[true, true, true, false, false, false, false, false, false, false, false, false, false] rfl rfl (one_of HT_.out kr) (by decide) (fun K hK => ?_)
     refine goes_ Try.func73 kr rfl #[.agg #[.int .i64 a1_0, .int .i64 a1_1, .slice A1_2 l1_2.length c1_2], .int .i64 x5_1] (by rfl) rfl rfl q0 ?_
     with_reducible refine (spec_TermAt.calls kj8 a1_0 a1_1 _ _ l1_2 x5_1 t294 _ ?side1 ?side2 A20.out).mono ?_
     (case side1 => exact q9)
     (case side2 => exact HC1_2.out)
     rintro e w25 ⟨rfl, hb⟩
     refine ⟨_, rfl, ?_⟩
     replace BK290 := am (blk_below (g := gb290) (o := .cells #[.int .i64 a0_0, .int .i64 a0_1, .slice A0_2 l0_2.length c0_2] 34 (0, 0)) u13_1 hb)
     replace BK291 := am (blk_below (g := gb291) (o := .cells #[.int .i64 a1_0, .int .i64 a1_1, .slice A1_2 l1_2.length c1_2] 34 (0, 0)) u13_2 hb)
     replace HB := am (below_step q2 hb)
     (try clear hb)
     (try clear hb2)
     (try clear hk)
     (try clear hi)
     refine hK.out _ _ ⟨(blk_cell BK291.out 0).trans rfl, (blk_cell BK291.out 1).trans rfl, (blk_cell BK291.out 2).trans rfl, (blk_cell BK290.out 0).trans rfl, (blk_cell BK290.out 1).trans rfl, (blk_cell BK290.out 2).trans rfl⟩ (fun hHeld => ?_)
     clear hK K
     refine norm_ (a' := ?_) ?_ ?_
     rotate_left
     · show Act.put _ (some 24) _ = _
       simp only [Act.put, la, lb, lc, i64_w, i32_w]
       rfl
     refine pV 3 25 (bt 4 13) ?_
     refine pV 4 26 (bt 5 13) ?_
     refine pV 6 28 #[true, true, true, true, true, false, true, false, false, false, false, false, false] ?_
     refine pV 9 31 #[true, true, true, true, true, false, true, false, false, true, false, false, false] ?_
     refine tV 5 27 #[true, true, true, true, true, true, true, false, false, true, false, false, false] ?_
     refine tV 8 30 #[true, true, true, true, true, true, true, false, true, true, false, false, false] ?_
     refine one_ (i := 7) (N := some 29) b10_13 rfl rfl (one_of HT_.out kr) (by decide) (fun K hK => ?_)
     refine goes_ Try.func73 kr rfl #[.agg #[.int .i64 a0_0, .int .i64 a0_1, .slice A0_2 l0_2.length c0_2], .int .i64 x5_1] (by rfl) rfl rfl q0 ?_
     with_reducible refine (spec_TermAt.calls kj8 a0_0 a0_1 _ _ l0_2 x5_1 t295 _ ?side1 ?side2 A22.out).mono ?_
     (case side1 => exact q5)
     (case side2 => exact HC0_2.out)
     rintro e w26 ⟨rfl, hb⟩
     refine ⟨_, rfl, ?_⟩
     replace BK290 := am (blk_below (g := gb290) (o := .cells #[.int .i64 a0_0, .int .i64 a0_1, .slice A0_2 l0_2.length c0_2] 34 (0, 0)) u13_1 hb)
     replace BK291 := am (blk_below (g := gb291) (o := .cells #[.int .i64 a1_0, .int .i64 a1_1, .slice A1_2 l1_2.length c1_2] 34 (0, 0)) u13_2 hb)
     replace HB := am (below_step q2 hb)
     (try clear hb)
     (try clear hb2)
     (try clear hk)
     (try clear hi)
     refine hK.out _ _ ⟨(blk_cell BK291.out 0).trans rfl, (blk_cell BK291.out 1).trans rfl, (blk_cell BK291.out 2).trans rfl, (blk_cell BK290.out 0).trans rfl, (blk_cell BK290.out 1).trans rfl, (blk_cell BK290.out 2).trans rfl⟩ (fun hHeld => ?_)
     clear hK K
     refine norm_ (a' := ?_) ?_ ?_
     rotate_left
     · show Act.put _ (some 29) _ = _
       simp only [Act.put, la, lb, lc, i64_w, i32_w]
       rfl
     refine one_ (i := 10) (N := some 32) b11_13 rfl rfl (one_of HT_.out kr) (by decide) (fun K hK => ?_)
     refine goes_ Try.func73 kr rfl #[.agg #[.int .i64 a1_0, .int .i64 a1_1, .slice A1_2 l1_2.length c1_2], .int .i64 x5_1] (by rfl) rfl rfl q0 ?_
     with_reducible refine (spec_TermAt.calls kj8 a1_0 a1_1 _ _ l1_2 x5_1 t296 _ ?side1 ?side2 A23.out).mono ?_
     (case side1 => exact q9)
     (case side2 => exact HC1_2.out)
     rintro e w27 ⟨rfl, hb⟩
     refine ⟨_, rfl, ?_⟩
     replace BK290 := am (blk_below (g := gb290) (o := .cells #[.int .i64 a0_0, .int .i64 a0_1, .slice A0_2 l0_2.length c0_2] 34 (0, 0)) u13_1 hb)
     replace BK291 := am (blk_below (g := gb291) (o := .cells #[.int .i64 a1_0, .int .i64 a1_1, .slice A1_2 l1_2.length c1_2] 34 (0, 0)) u13_2 hb)
     replace HB := am (below_step q2 hb)
     (try clear hb)
     (try clear hb2)
     (try clear hk)
     (try clear hi)
     refine hK.out _ _ ⟨(blk_cell BK291.out 0).trans rfl, (blk_cell BK291.out 1).trans rfl, (blk_cell BK291.out 2).trans rfl, (blk_cell BK290.out 0).trans rfl, (blk_cell BK290.out 1).trans rfl, (blk_cell BK290.out 2).trans rfl⟩ (fun hHeld => ?_)
     clear hK K
     refine norm_ (a' := ?_) ?_ ?_
     rotate_left
     · show Act.put _ (some 32) _ = _
       simp only [Act.put, la, lb, lc, i64_w, i32_w]
       rfl
     refine pV 11 33 (bt 12 13) ?_
     refine pV 12 34 (bt 13 13) ?_
     refine done_ (done_of HT_.out kr) ?_
     go_upto_if 34 with (fail)
     have H := H9.out
     clear H9
     by_cases c28 : t295 = t296
     · rw [if_pos c28] at H
       have c28b0 : (t295 == t296) = true := beq_iff_eq.mpr c28
       have c28b1 : (t295 != t296) = false := bne_eq_false_iff_eq.mpr c28
       clear c28
       (first | rw [c28b0] | (simp only [i64_w, i32_w]; rw [c28b0]) | skip)
       obtain rfl := sj H
       go_wp2
       go_ret
       exact ⟨er, q2⟩
     rw [if_neg c28] at H
     have c28b0 : (t295 == t296) = false := beq_eq_false_iff_ne.mpr c28
     have c28b1 : (t295 != t296) = true := bne_iff_ne.mpr c28
     (first | rw [c28b0] | (simp only [i64_w, i32_w]; rw [c28b0]) | skip)
     have H' := am H
     clear H
     go_wp2
     go_roundg kj8
     case measure => have := HK1.out; have := HJ8.out; omega
     case rel => exact ⟨(wrap64 (x5_1 - 1)), q3, H', ⟨(by have := HK1.out; have := HJ8.out; omega)⟩, ⟨u13_1⟩, ⟨u13_2⟩, ⟨q2⟩⟩

end Go.Proofs.Ytkcadcoohmofcaa.QFnExactSafeGroup
