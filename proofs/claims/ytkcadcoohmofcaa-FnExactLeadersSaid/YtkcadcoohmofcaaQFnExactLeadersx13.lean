-- Printed by the session's own program wip/prx.py.
import Derived.Test.YtkcadcoohmofcaaSqFnExactLeaders
import Derived.Test.YtkcadcoohmofcaaQFnExactLeadersx0
import Derived.Test.YtkcadcoohmofcaaQFnExactLeadersx12
namespace Go.Proofs.Ytkcadcoohmofcaa.QFnExactLeaders
open Go.RowKit Go.Proofs.YtkcadcoohmofcaaW.PrintWords Go.Proofs.YtkcadcoohmofcaaW.PrintLast Go.Proofs.YtkcadcoohmofcaaW.PrintMore Go.Proofs.Ytkcadcoohmofcaa.SqFnExactLeaders
attribute [local go_sem] max2_int min2_int max_two min_two max_three min_three max_four min_four Go.Proofs.Ytkcadcoohmofcaa.Set.isSome_setCell
set_option linter.unusedVariables false
set_option linter.unusedSimpArgs false

-- squeezed
theorem u13_2 {P : Prop} (h : P := by (with_reducible repeat (first | refine blk_drewN ?_ _ | refine blk_drew ?_ | refine blk_alloc ?_ _)); exact BK330.out) : P := h
theorem u13_5 {P : Prop} (h : P := by (with_reducible repeat (first | refine blk_drewN ?_ _ | refine blk_drew ?_ | refine blk_alloc ?_ _)); exact BK320.out) : P := h
theorem u13_7 {P : Prop} (h : P := by (with_reducible repeat (first | refine blk_drewN ?_ _ | refine blk_drew ?_ | refine blk_alloc ?_ _)); refine blk_put (cs := #[.int .i64 ((rd_T85 l0_2 x44_2).f0), .string (⟨#[]⟩ : ByteArray)]) ?_ 1 _ rfl; (with_reducible repeat (first | refine blk_drewN ?_ _ | refine blk_drew ?_ | refine blk_alloc ?_ _)); refine blk_put (cs := #[.int .i64 0, .string (⟨#[]⟩ : ByteArray)]) ?_ 0 _ rfl; (with_reducible repeat (first | refine blk_drewN ?_ _ | refine blk_drew ?_ | refine blk_alloc ?_ _)); exact BK332.out) : P := h
theorem u13_8 {P : Prop} (h : P := by (with_reducible repeat (first | refine blk_drewN ?_ _ | refine blk_drew ?_ | refine blk_alloc ?_ _)); refine blk_far ?_ NB330_332.out _; (with_reducible repeat (first | refine blk_drewN ?_ _ | refine blk_drew ?_ | refine blk_alloc ?_ _)); refine blk_far ?_ NB330_332.out _; (with_reducible repeat (first | refine blk_drewN ?_ _ | refine blk_drew ?_ | refine blk_alloc ?_ _)); exact BK330.out) : P := h
theorem u13_14 {P : Prop} (h : P := by (with_reducible repeat (first | apply Kd.R_alloc | apply Kd.R_drewN | apply Kd.R_drew)); exact HO323.out) : P := h
/-! ### spec_Leaders: function 51 -/
def spec_Leaders.l0 : Nat → List Int → Int → Int → List (S37) → List (S29) → Option (List Int)
 | 0, _, _, _, _, _ => none
 | k + 1, x3, x4, x321000, x321001, x321002 => if x4 < x321000 then (if 0 ≤ x4 then (if x4 < (x321001.length : Int) then (if ((rd_T37 x321001 x4).f3) = 2 then (if x3.length < 17592186044416 then (spec_Leaders.l0 k (x3 ++ [x4]) (wrap64 (x4 + 1)) x321000 x321001 x321002) else (none)) else (spec_Leaders.l0 k x3 (wrap64 (x4 + 1)) x321000 x321001 x321002)) else (none)) else (none)) else (some x3)
def spec_Leaders.f (k : Nat) (a0_0 : Int) (l0_1 : List (S37)) (l0_2 : List (S29)) : Option (List Int) := (spec_GroupOk.f k a0_0 l0_1 l0_2).bind fun t324 => (if t324 = true then (spec_Leaders.l0 k (([] : List Int)) 0 a0_0 l0_1 l0_2) else (some ([] : List Int)))
theorem spec_Leaders.mono_l : ∀ k, (∀ y0 y1 y2 y3 y4, LeO (spec_Leaders.l0 k y0 y1 y2 y3 y4) (spec_Leaders.l0 (k + 1) y0 y1 y2 y3 y4))
 | 0 => fun _ _ _ _ _ r h => by simp [spec_Leaders.l0] at h
 | k + 1 => by
   have ih0 := spec_Leaders.mono_l k
   · intro y0 y1 y2 y3 y4
     unfold spec_Leaders.l0
     repeat' first
     | (with_reducible exact ih0 _ _ _ _ _)
     | (with_reducible exact spec_GroupOk.mono _ _ _ _)
     | (with_reducible exact LeO.refl _)
     | (with_reducible exact LeO.none _)
     | (with_reducible refine LeO.ite ?_ ?_)
     | (with_reducible refine LeO.bind ?_ (fun _ => ?_))
     | exact ih0 _ _ _ _ _
     | exact spec_GroupOk.mono _ _ _ _
     | exact LeO.none _
     | refine LeO.ite ?_ ?_
     | refine LeO.bind ?_ (fun _ => ?_)
theorem spec_Leaders.mono : ∀ a0 a1 a2 k, LeO (spec_Leaders.f k a0 a1 a2) (spec_Leaders.f (k + 1) a0 a1 a2) := by
 intro a0 a1 a2 k
 have ih0 := spec_Leaders.mono_l k
 unfold spec_Leaders.f
 repeat' first
     | (with_reducible exact ih0 _ _ _ _ _)
     | (with_reducible exact spec_GroupOk.mono _ _ _ _)
     | (with_reducible exact LeO.refl _)
     | (with_reducible exact LeO.none _)
     | (with_reducible refine LeO.ite ?_ ?_)
     | (with_reducible refine LeO.bind ?_ (fun _ => ?_))
     | exact ih0 _ _ _ _ _
     | exact spec_GroupOk.mono _ _ _ _
     | exact LeO.none _
     | refine LeO.ite ?_ ?_
     | refine LeO.bind ?_ (fun _ => ?_)
set_option maxHeartbeats 8000000 in
set_option maxRecDepth 100000 in
theorem spec_Leaders.calls (k : Nat) (a0_0 : Int) (A0_1 : Option Addr) (c0_1 : Nat) (l0_1 : List (S37)) (A0_2 : Option Addr) (c0_2 : Nat) (l0_2 : List (S29)) (r : List Int) (w : World) (hr0_1 : Kd.C k37 w A0_1 l0_1.length l0_1) (hc0_1 : l0_1.length ≤ c0_1) (hr0_2 : Kd.C k29 w A0_2 l0_2.length l0_2) (hc0_2 : l0_2.length ≤ c0_2) (h : spec_Leaders.f k a0_0 l0_1 l0_2 = some r) :
   Calls Try.prog 51 #[.agg #[.int .i64 a0_0, .slice A0_1 l0_1.length c0_1, .slice A0_2 l0_2.length c0_2]] w fun e w' => ∃ v0_ : Value, e = .returned (v0_) ∧ Kd.R (Kd.int .i64) 3 w' w.heap.size (fun _ => True) v0_ r ∧ Below w.heap.size w w' := by
 have hu53 := Try.underlying53
 have HR0_1 := am hr0_1
 have HC0_1 := am hc0_1
 clear hr0_1 hc0_1
 have HR0_2 := am hr0_2
 have HC0_2 := am hc0_2
 clear hr0_2 hc0_2
 have HB := am (Below.refl w.heap.size w)
 have H : ((spec_GroupOk.f k a0_0 l0_1 l0_2).bind fun t324 => (if t324 = true then (spec_Leaders.l0 k (([] : List Int)) 0 a0_0 l0_1 l0_2) else (some ([] : List Int)))) = some r := h
 clear h
 obtain ⟨y321, hy321⟩ : ∃ y_ : List Int, y_ = (([] : List Int)) := ⟨_, rfl⟩
 replace H : ((spec_GroupOk.f k a0_0 l0_1 l0_2).bind fun t324 => (if t324 = true then (spec_Leaders.l0 k y321 0 a0_0 l0_1 l0_2) else (some ([] : List Int)))) = some r := by first | (rw [hy321]; with_reducible exact H) | (have H2_ := (Option.bind_some _ _).symm.trans H; rw [hy321]; with_reducible exact H2_) | (have H2_ := (Option.bind_some _ _).symm.trans H; with_reducible exact H2_) | with_reducible exact H | (rw [hy321]; exact H) | exact H
 have Ny321 := am hy321
 clear hy321
 replace H := Option.bind_eq_some_iff.mp H
 obtain ⟨t324, A20, H⟩ := H
 replace H : (if t324 = true then (spec_Leaders.l0 k y321 0 a0_0 l0_1 l0_2) else (some ([] : List Int))) = some r := H
 have A2 := am A20
 clear A20
 have H9 := am H
 clear H
 go_enter Try.func51, Try.ntmps51
 go_upto_if 8 with (first | ((with_reducible refine gate_dst (N := 1) rfl ?_); refine box_event ?hg (N := 1) ?hd (cs := #[.int .i64 a0_0, .slice A0_1 l0_1.length c0_1, .slice A0_2 l0_2.length c0_2]) (t := 53) ?hr ?_; (case hd => rfl); (case hg => rfl); (case hr => first | (go_simp; done) | (go_simp; rfl)); intro gb320 hg w3 hbox hb; have BK320 := am (hbox); have GW320 := am ((by rw [hg]; exact (below_size Q0) : w.heap.size ≤ gb320)); have GE320 := am ((by rw [hg]; exact (below_size Q0) : w.heap.size ≤ gb320)); replace HB := am (below_step Q0 hb); clear hb hbox hg) | ((with_reducible refine gate_dst (N := 5) rfl ?_); refine Kd.R_lit (Kd.int .i64) _ 3 ?hg (N := 5) ?hd (xs := ([] : List Int)) (inner := []) (ok := fun _ => True) (okp := fun _ => True) ?hr ?hp (fun _ hk => hk) trivial (Below.refl _ _) (Nat.le_refl _) (by simp) ?_; (case hd => rfl); (case hg => rfl); (case hr => first | (go_simp; done) | (go_simp; rfl)); (case hp => exact (Reps.none _ _)); intro v322 w4 ho5 hb hg_ hnew_; clear hg_ hnew_; (first | rw [← Ny321.out] at ho5 | (simp only [Int.reduceToNat] at ho5; rw [← Ny321.out] at ho5)); have HO323 := am (Kd.R_lower ho5 (below_size Q0)); replace BK320 := am (blk_below (g := gb320) (o := .cells #[.int .i64 a0_0, .slice A0_1 l0_1.length c0_1, .slice A0_2 l0_2.length c0_2] 53 (0, 0)) u13_5 hb); replace HB := am (below_step Q0 hb); clear hb ho5; obtain ⟨hcz6_0, hcz6_1, hcz6_2⟩ := bc3 w4 BK320.out) | ((with_reducible refine gate_callee (f := 44) rfl ?_); refine goesL_ (some 7) rfl rfl Try.func44 kr rfl #[.agg #[.int .i64 a0_0, .slice A0_1 l0_1.length c0_1, .slice A0_2 l0_2.length c0_2]] rfl Q2 ?_; (with_reducible refine (spec_GroupOk.calls k a0_0 _ _ l0_1 _ _ l0_2 t324 _ ?side1 ?side2 ?side3 ?side4 A2.out).mono ?_); (case side1 => exact (by repeat (first | exact (Kd.C_below HR0_1.out HB.out) | (with_reducible refine Kd.C_alloc ?_ _) | (with_reducible refine Kd.C_drewN ?_ _) | (with_reducible refine Kd.C_drew ?_)))); (case side2 => exact HC0_1.out); (case side3 => exact (by repeat (first | exact (Kd.C_below HR0_2.out HB.out) | (with_reducible refine Kd.C_alloc ?_ _) | (with_reducible refine Kd.C_drewN ?_ _) | (with_reducible refine Kd.C_drew ?_)))); (case side4 => exact HC0_2.out); rintro e w7 ⟨rfl, hb⟩; refine ⟨_, rfl, ?_⟩; replace HO323 := am (Kd.R_below u13_14 hb); replace BK320 := am (blk_below (g := gb320) (o := .cells #[.int .i64 a0_0, .slice A0_1 l0_1.length c0_1, .slice A0_2 l0_2.length c0_2] 53 (0, 0)) u13_5 hb); replace HB := am (below_step Q0 hb); (try clear hb); (try clear hb2); (try clear hk); (try clear hi)))
 have H := H9.out
 clear H9
 by_cases c8 : t324 = true
 rotate_left
 · replace c8 := Bool.eq_false_iff.mpr c8
   subst c8
   rw [nf] at H
   obtain rfl := sj H
   go_wp2
   go_ret
   exact ⟨_, er, (by first | exact Kd.R_nil _ _ _ _ _ | exact Kd.N_nil _ _ _ _ _ | exact Kd.V_nil _ _ _ _ _ | exact Kd.Q_nil _ _ _ _ _ | exact Kd.S_nil _ _ _ _ _), Q0⟩
 subst c8
 rw [if_pos rfl] at H
 have H' := am H
 clear H
 go_wp2
 go_loopg [3, 4] k (fun kq v3 v4 w' => ∃ (x3_1 : List Int) (x4_1 : Int), v4 = .int .i64 x4_1 ∧ Aside0 (spec_Leaders.l0 kq x3_1 x4_1 a0_0 l0_1 l0_2 = some r) ∧ Aside0 (kq ≤ k) ∧ Aside0 (Kd.R (Kd.int .i64) 3 w' w.heap.size (fun _ => True) v3 x3_1) ∧ Aside0 (w'.heap[gb320]? = some (.cells #[.int .i64 a0_0, (.slice A0_1 l0_1.length c0_1), (.slice A0_2 l0_2.length c0_2)] 53 (0, 0))) ∧ Aside0 (Below w.heap.size w w'))
 case atStart => exact ⟨(y321), (0), Q3, H', ⟨Nat.le_refl _⟩, ⟨u13_14⟩, ⟨u13_5⟩, ⟨Q0⟩⟩
 clear H'
 try clear c8
 try clear hcz6_0
 try clear hcz6_1
 try clear hcz6_2
 obtain ⟨x3_1, x4_1, rfl, HA, HK1, HO_3, BK320, HB⟩ := hrel
 cases gk with
 | zero => exact absurd HA.out (by simp [spec_Leaders.l0])
 | succ k1 =>
   have H := HA.out
   clear HA
   simp only [spec_Leaders.l0] at H
   by_cases c9 : x4_1 < a0_0
   rotate_left
   · rw [if_neg c9] at H
     have c9b0 : decide (x4_1 < a0_0) = false := decide_eq_false c9
     clear c9
     (first | rw [c9b0] | (simp only [i64_w, i32_w]; rw [c9b0]) | skip)
     obtain rfl := sj H
     obtain ⟨hcz16_0, hcz16_1, hcz16_2⟩ := bc3 wr BK320.out
     go_wp2
     go_ret
     exact ⟨_, er, Q9, Q0⟩
   rw [if_pos c9] at H
   have c9b0 : decide (x4_1 < a0_0) = true := decide_eq_true c9
   clear c9
   (first | rw [c9b0] | (simp only [i64_w, i32_w]; rw [c9b0]) | skip)
   by_cases c10 : 0 ≤ x4_1
   rotate_left
   · rw [if_neg c10] at H
     exact absurd H (by simp)
   rw [if_pos c10] at H
   have c10b0 : decide (0 ≤ x4_1) = true := decide_eq_true c10
   clear c10
   by_cases c11 : x4_1 < (l0_1.length : Int)
   rotate_left
   · rw [if_neg c11] at H
     exact absurd H (by simp)
   rw [if_pos c11] at H
   have c11b0 : decide (x4_1 < (l0_1.length : Int)) = true := decide_eq_true c11
   clear c11
   have H9 := am H
   clear H
   obtain ⟨hcz12_0, hcz12_1, hcz12_2⟩ := bc3 wr BK320.out
   have p325 : 0 ≤ (x4_1 : Int) := of_decide_eq_true Q1
   have q325 : x4_1 < (l0_1.length : Int) := of_decide_eq_true Q1
   obtain ⟨ad325, A325_7, c325_7, A325_8, c325_8, A325_9, c325_9, e325, hx325_0, hx325_1, hx325_2, hx325_3, hx325_4, hx325_5, hx325_6, hx325_7, hx325_8, hx325_9, hl325_7, hi325_7, hl325_8, hi325_8, hl325_9, hi325_9⟩ := at_T37 HR0_1.out x4_1 p325 q325
   cases e325
   replace hx325_0 := cm HB.out hx325_0
   replace hx325_1 := cm HB.out hx325_1
   replace hx325_2 := cm HB.out hx325_2
   replace hx325_3 := cm HB.out hx325_3
   replace hx325_4 := cm HB.out hx325_4
   replace hx325_5 := cm HB.out hx325_5
   replace hx325_6 := cm HB.out hx325_6
   replace hx325_7 := cm HB.out hx325_7
   replace hx325_8 := cm HB.out hx325_8
   replace hx325_9 := cm HB.out hx325_9
   have HR325_7 := am hi325_7
   have HC325_7 := am hl325_7
   clear hi325_7 hl325_7
   have HR325_8 := am hi325_8
   have HC325_8 := am hl325_8
   clear hi325_8 hl325_8
   have HR325_9 := am hi325_9
   have HC325_9 := am hl325_9
   clear hi325_9 hl325_9
   replace p325 := eq_true p325
   replace q325 := eq_true q325
   go_upto_if 21 with (fail)
   have H := H9.out
   clear H9
   by_cases c13 : ((rd_T37 l0_1 x4_1).f3) = 2
   rotate_left
   · rw [if_neg c13] at H
     have c13b0 : (((rd_T37 l0_1 x4_1).f3) == 2) = false := beq_eq_false_iff_ne.mpr c13
     have c13b1 : (((rd_T37 l0_1 x4_1).f3) != 2) = true := bne_iff_ne.mpr c13
     (first | rw [c13b0] | (simp only [i64_w, i32_w]; rw [c13b0]) | skip)
     have H' := am H
     clear H
     go_wp2
     go_roundg k1
     case measure => have := HK1.out; omega
     case rel => exact ⟨(x3_1), (wrap64 (x4_1 + 1)), Q3, H', ⟨by have := HK1.out; omega⟩, ⟨Q9⟩, ⟨u13_5⟩, ⟨Q0⟩⟩
   rw [if_pos c13] at H
   have c13b0 : (((rd_T37 l0_1 x4_1).f3) == 2) = true := beq_iff_eq.mpr c13
   have c13b1 : (((rd_T37 l0_1 x4_1).f3) != 2) = false := bne_eq_false_iff_eq.mpr c13
   clear c13
   (first | rw [c13b0] | (simp only [i64_w, i32_w]; rw [c13b0]) | skip)
   by_cases c14 : x3_1.length < 17592186044416
   rotate_left
   · rw [if_neg c14] at H
     exact absurd H (by simp)
   rw [if_pos c14] at H
   have LMc14 := am c14
   clear c14
   obtain ⟨y326, hy326⟩ : ∃ y_ : List Int, y_ = (x3_1 ++ [x4_1]) := ⟨_, rfl⟩
   replace H : (spec_Leaders.l0 k1 y326 (wrap64 (x4_1 + 1)) a0_0 l0_1 l0_2) = some r := by first | (rw [hy326]; with_reducible exact H) | (have H2_ := (Option.bind_some _ _).symm.trans H; rw [hy326]; with_reducible exact H2_) | (have H2_ := (Option.bind_some _ _).symm.trans H; with_reducible exact H2_) | with_reducible exact H | (rw [hy326]; exact H) | exact H
   have Ny326 := am hy326
   clear hy326
   have H' := am H
   clear H
   go_wp2_with (first | ((with_reducible refine gate_builtin (b := .append) (xs := #[.tmp 22, .tmp 24]) rfl ?_); at_builtin; refine Kd.R_append (Kd.int .i64) (w0 := w) w.heap.size rfl (.tmp 22) (.tmp 24) 35 3 (.int .i64 0) 8 rfl Try.underlying35 info3 rfl (by decide) (by omega) u3 x3_1 x4_1 [.int .i64 x4_1] (fun _ => True) (fun _ => False) rfl rfl ?aP (fun _ hk => hk.elim) ?aF ?aO ?aB ?aS ?aL ?_; (case aP => exact rfl); (case aB => exact Q0); (case aF => exact (fun _ _ => trivial)); (case aO => exact Q9); (case aS => exact (below_size Q0)); (case aL => have := LMc14.out; omega); intro v327 w15 ho hb hg hat; rw [← Ny326.out] at ho; replace BK320 := am (blk_grown (g := gb320) (o := .cells #[.int .i64 a0_0, .slice (some ad325) l0_1.length c0_1, .slice A0_2 l0_2.length c0_2] 53 (0, 0)) u13_5 hg (Kd.R_ne HO_3.out BK320.out (by decide))); replace HB := am (hb); have HO328 := am (ho); clear HO_3; clear ho hb hg hat))
   go_roundg k1
   case measure => have := HK1.out; omega
   case rel => exact ⟨(y326), (wrap64 (x4_1 + 1)), Q3, H', ⟨by have := HK1.out; omega⟩, ⟨(by (with_reducible repeat (first | apply Kd.R_alloc | apply Kd.R_drewN | apply Kd.R_drew)); exact HO328.out)⟩, ⟨u13_5⟩, ⟨Q0⟩⟩

/-! ### impl_isEntry: function 111 -/
def impl_isEntry.f (a0_0 : Int) (a0_1 : ByteArray) : Option (Bool) := if a0_0 > 0 then (if a0_0 ≤ 1000000 then (some (decide ((a0_1.size : Int) ≤ 40))) else (some false)) else (some false)
set_option maxHeartbeats 8000000 in
set_option maxRecDepth 100000 in
theorem impl_isEntry.calls (a0_0 : Int) (a0_1 : ByteArray) (r : Bool) (w : World) (h : impl_isEntry.f a0_0 a0_1 = some r) :
   Calls Try.prog 111 #[.agg #[.int .i64 a0_0, .string a0_1]] w fun e w' => e = .returned (.bool r) ∧ Below w.heap.size w w' := by
 have hu85 := Try.underlying85
 have HB := am (Below.refl w.heap.size w)
 have H : (if a0_0 > 0 then (if a0_0 ≤ 1000000 then (some (decide ((a0_1.size : Int) ≤ 40))) else (some false)) else (some false)) = some r := h
 clear h
 by_cases c2 : a0_0 > 0
 rotate_left
 · rw [if_neg c2] at H
   have c2b0 : decide (0 < a0_0) = false := decide_eq_false c2
   clear c2
   obtain rfl := sj H
   go_enter Try.func111, Try.ntmps111
   go_wp2_with (first | ((with_reducible refine gate_dst (N := 1) rfl ?_); (try (refine gate_guard (by rfl) ?_; dsimp only)); refine box_event ?hg (N := 1) ?hd (cs := #[.int .i64 a0_0, .string a0_1]) (t := 85) ?hr ?_; (case hd => rfl); (case hg => rfl); (case hr => first | (go_simp; done) | (go_simp; rfl)); intro gb329 hg w8 hbox hb; have BK329 := am (hbox); have GW329 := am ((by rw [hg]; exact (below_size Q0) : w.heap.size ≤ gb329)); have GE329 := am ((by rw [hg]; exact (below_size Q0) : w.heap.size ≤ gb329)); replace HB := am (below_step Q0 hb); clear hb hbox hg; obtain ⟨hcz9_0, hcz9_1, hfz9_0, hfz9_1⟩ := bc2f w8 BK329.out))
   go_ret
   exact ⟨er, Q0⟩
 rw [if_pos c2] at H
 have c2b0 : decide (0 < a0_0) = true := decide_eq_true c2
 clear c2
 by_cases c3 : a0_0 ≤ 1000000
 · rw [if_pos c3] at H
   have c3b0 : decide (a0_0 ≤ 1000000) = true := decide_eq_true c3
   clear c3
   obtain rfl := sj H
   go_enter Try.func111, Try.ntmps111
   go_wp2_with (first | ((with_reducible refine gate_dst (N := 1) rfl ?_); (try (refine gate_guard (by rfl) ?_; dsimp only)); refine box_event ?hg (N := 1) ?hd (cs := #[.int .i64 a0_0, .string a0_1]) (t := 85) ?hr ?_; (case hd => rfl); (case hg => rfl); (case hr => first | (go_simp; done) | (go_simp; rfl)); intro gb329 hg w4 hbox hb; have BK329 := am (hbox); have GW329 := am ((by rw [hg]; exact (below_size Q0) : w.heap.size ≤ gb329)); have GE329 := am ((by rw [hg]; exact (below_size Q0) : w.heap.size ≤ gb329)); replace HB := am (below_step Q0 hb); clear hb hbox hg; obtain ⟨hcz5_0, hcz5_1, hfz5_0, hfz5_1⟩ := bc2f w4 BK329.out))
   go_ret
   exact ⟨er, Q0⟩
 rw [if_neg c3] at H
 have c3b0 : decide (a0_0 ≤ 1000000) = false := decide_eq_false c3
 clear c3
 obtain rfl := sj H
 go_enter Try.func111, Try.ntmps111
 go_wp2_with (first | ((with_reducible refine gate_dst (N := 1) rfl ?_); (try (refine gate_guard (by rfl) ?_; dsimp only)); refine box_event ?hg (N := 1) ?hd (cs := #[.int .i64 a0_0, .string a0_1]) (t := 85) ?hr ?_; (case hd => rfl); (case hg => rfl); (case hr => first | (go_simp; done) | (go_simp; rfl)); intro gb329 hg w6 hbox hb; have BK329 := am (hbox); have GW329 := am ((by rw [hg]; exact (below_size Q0) : w.heap.size ≤ gb329)); have GE329 := am ((by rw [hg]; exact (below_size Q0) : w.heap.size ≤ gb329)); replace HB := am (below_step Q0 hb); clear hb hbox hg; obtain ⟨hcz7_0, hcz7_1, hfz7_0, hfz7_1⟩ := bc2f w6 BK329.out))
 go_ret
 exact ⟨er, Q0⟩

/-! ### impl_isRLog: function 88 -/
mutual
def impl_isRLog.j0 : Nat → Bool → Int → Int → List (S85) → Option (Bool)
 | 0, _, _, _, _ => none
 | k + 1, x38, x331000, x331001, x331002 => if x38 = true then (some false) else (impl_isRLog.l0 k x331001 x331002 (x331002.length : Int) 0)
def impl_isRLog.l0 : Nat → Int → List (S85) → Int → Int → Option (Bool)
 | 0, _, _, _, _ => none
 | k + 1, x3, x42, x43, x44 => if x44 < x43 then (if 0 ≤ x44 then (if x44 < (x42.length : Int) then ((impl_isEntry.f ((rd_T85 x42 x44).f0) ((rd_T85 x42 x44).f1)).bind fun t333 => (if t333 = true then (if ((rd_T85 x42 x44).f0) < x3 then (some false) else (impl_isRLog.l0 k ((rd_T85 x42 x44).f0) x42 x43 (wrap64 (x44 + 1)))) else (some false))) else (none)) else (none)) else (some true)
end
def impl_isRLog.f (k : Nat) (a0_0 : Int) (a0_1 : Int) (l0_2 : List (S85)) : Option (Bool) := if a0_0 < 0 then (impl_isRLog.j0 k true a0_0 a0_1 l0_2) else (if a0_0 > 1000000 then (impl_isRLog.j0 k true a0_0 a0_1 l0_2) else (if a0_1 < 0 then (impl_isRLog.j0 k true a0_0 a0_1 l0_2) else (if a0_1 > 1000000 then (impl_isRLog.j0 k true a0_0 a0_1 l0_2) else (if ((a0_1 == 0) != (a0_0 == 0)) = true then (impl_isRLog.j0 k true a0_0 a0_1 l0_2) else (impl_isRLog.j0 k (decide ((l0_2.length : Int) > 60)) a0_0 a0_1 l0_2)))))
theorem impl_isRLog.mono_l : ∀ k, (∀ y0 y1 y2 y3, LeO (impl_isRLog.j0 k y0 y1 y2 y3) (impl_isRLog.j0 (k + 1) y0 y1 y2 y3)) ∧ (∀ y0 y1 y2 y3, LeO (impl_isRLog.l0 k y0 y1 y2 y3) (impl_isRLog.l0 (k + 1) y0 y1 y2 y3))
 | 0 => ⟨fun _ _ _ _ r h => by simp [impl_isRLog.j0] at h, fun _ _ _ _ r h => by simp [impl_isRLog.l0] at h⟩
 | k + 1 => by
   obtain ⟨ih0, ih1⟩ := impl_isRLog.mono_l k
   refine ⟨?_, ?_⟩ <;> intros <;> (first | unfold impl_isRLog.j0 | unfold impl_isRLog.l0) <;> repeat' first
   | (with_reducible exact ih0 _ _ _ _)
   | (with_reducible exact ih1 _ _ _ _)
   | (with_reducible exact LeO.refl _)
   | (with_reducible exact LeO.none _)
   | (with_reducible refine LeO.ite ?_ ?_)
   | (with_reducible refine LeO.bind ?_ (fun _ => ?_))
   | exact ih0 _ _ _ _
   | exact ih1 _ _ _ _
   | exact LeO.none _
   | refine LeO.ite ?_ ?_
   | refine LeO.bind ?_ (fun _ => ?_)
theorem impl_isRLog.mono : ∀ a0 a1 a2 k, LeO (impl_isRLog.f k a0 a1 a2) (impl_isRLog.f (k + 1) a0 a1 a2) := by
 intro a0 a1 a2 k
 obtain ⟨ih0, ih1⟩ := impl_isRLog.mono_l k
 unfold impl_isRLog.f
 repeat' first
     | (with_reducible exact ih0 _ _ _ _)
     | (with_reducible exact ih1 _ _ _ _)
     | (with_reducible exact LeO.refl _)
     | (with_reducible exact LeO.none _)
     | (with_reducible refine LeO.ite ?_ ?_)
     | (with_reducible refine LeO.bind ?_ (fun _ => ?_))
     | exact ih0 _ _ _ _
     | exact ih1 _ _ _ _
     | exact LeO.none _
     | refine LeO.ite ?_ ?_
     | refine LeO.bind ?_ (fun _ => ?_)
set_option maxHeartbeats 8000000 in
set_option maxRecDepth 100000 in
theorem impl_isRLog.calls (k : Nat) (a0_0 : Int) (a0_1 : Int) (A0_2 : Option Addr) (c0_2 : Nat) (l0_2 : List (S85)) (r : Bool) (w : World) (hr0_2 : Kd.C k85 w A0_2 l0_2.length l0_2) (hc0_2 : l0_2.length ≤ c0_2) (h : impl_isRLog.f k a0_0 a0_1 l0_2 = some r) :
   Calls Try.prog 88 #[.agg #[.int .i64 a0_0, .int .i64 a0_1, .slice A0_2 l0_2.length c0_2]] w fun e w' => e = .returned (.bool r) ∧ Below w.heap.size w w' := by
 have hu34 := Try.underlying34
 have hu85 := Try.underlying85
 have HR0_2 := am hr0_2
 have HC0_2 := am hc0_2
 clear hr0_2 hc0_2
 have HB := am (Below.refl w.heap.size w)
 have H : (if a0_0 < 0 then (impl_isRLog.j0 k true a0_0 a0_1 l0_2) else (if a0_0 > 1000000 then (impl_isRLog.j0 k true a0_0 a0_1 l0_2) else (if a0_1 < 0 then (impl_isRLog.j0 k true a0_0 a0_1 l0_2) else (if a0_1 > 1000000 then (impl_isRLog.j0 k true a0_0 a0_1 l0_2) else (if ((a0_1 == 0) != (a0_0 == 0)) = true then (impl_isRLog.j0 k true a0_0 a0_1 l0_2) else (impl_isRLog.j0 k (decide ((l0_2.length : Int) > 60)) a0_0 a0_1 l0_2)))))) = some r := h
 clear h
 have HC2 := am H
 clear H
 go_enter Try.func88, Try.ntmps88
 go_upto_region 1 with (first | ((with_reducible refine gate_dst (N := 1) rfl ?_); (try (refine gate_guard (by rfl) ?_; dsimp only)); refine box_event ?hg (N := 1) ?hd (cs := #[.int .i64 a0_0, .int .i64 a0_1, .slice A0_2 l0_2.length c0_2]) (t := 34) ?hr ?_; (case hd => rfl); (case hg => rfl); (case hr => first | (go_simp; done) | (go_simp; rfl)); intro gb330 hg w3 hbox hb; have BK330 := am (hbox); have GW330 := am ((by rw [hg]; exact (below_size Q0) : w.heap.size ≤ gb330)); have GE330 := am ((by rw [hg]; exact (below_size Q0) : w.heap.size ≤ gb330)); replace HB := am (below_step Q0 hb); clear hb hbox hg))
 (try simp only [Act.put, la, lb, lc])
 go_cut [38] (fun v38 wc => ∃ (kq : Nat) (x38_1 : Bool), v38 = .bool x38_1 ∧ Aside0 (impl_isRLog.j0 kq x38_1 a0_0 a0_1 l0_2 = some r) ∧ Aside0 (kq ≤ k) ∧ Aside0 (wc.heap[gb330]? = some (.cells #[.int .i64 a0_0, .int .i64 a0_1, (.slice A0_2 l0_2.length c0_2)] 34 (0, 0))) ∧ Aside0 (Below w.heap.size w wc))
 case first =>
   have H := HC2.out
   clear HC2
   by_cases c4 : a0_0 < 0
   · rw [if_pos c4] at H
     have c4b0 : decide (a0_0 < 0) = true := decide_eq_true c4
     clear c4
     (first | rw [c4b0] | (simp only [i64_w, i32_w]; rw [c4b0]) | skip)
     have H' := am H
     clear H
     obtain ⟨hcz5_0, hcz5_1, hcz5_2⟩ := bc3 w3 BK330.out
     go_wp2
     go_meet
     case rel => exact ⟨_, (true), Q3, H', ⟨by first | omega | exact Nat.le_refl _⟩, ⟨u13_2⟩, ⟨Q0⟩⟩
   rw [if_neg c4] at H
   have c4b0 : decide (a0_0 < 0) = false := decide_eq_false c4
   clear c4
   (first | rw [c4b0] | (simp only [i64_w, i32_w]; rw [c4b0]) | skip)
   by_cases c6 : a0_0 > 1000000
   · rw [if_pos c6] at H
     have c6b0 : decide (1000000 < a0_0) = true := decide_eq_true c6
     clear c6
     have H' := am H
     clear H
     obtain ⟨hcz7_0, hcz7_1, hcz7_2⟩ := bc3 w3 BK330.out
     go_wp2
     go_meet
     case rel => exact ⟨_, (true), Q3, H', ⟨by first | omega | exact Nat.le_refl _⟩, ⟨u13_2⟩, ⟨Q0⟩⟩
   rw [if_neg c6] at H
   have c6b0 : decide (1000000 < a0_0) = false := decide_eq_false c6
   clear c6
   by_cases c8 : a0_1 < 0
   · rw [if_pos c8] at H
     have c8b0 : decide (a0_1 < 0) = true := decide_eq_true c8
     clear c8
     have H' := am H
     clear H
     obtain ⟨hcz9_0, hcz9_1, hcz9_2⟩ := bc3 w3 BK330.out
     go_wp2
     go_meet
     case rel => exact ⟨_, (true), Q3, H', ⟨by first | omega | exact Nat.le_refl _⟩, ⟨u13_2⟩, ⟨Q0⟩⟩
   rw [if_neg c8] at H
   have c8b0 : decide (a0_1 < 0) = false := decide_eq_false c8
   clear c8
   by_cases c10 : a0_1 > 1000000
   · rw [if_pos c10] at H
     have c10b0 : decide (1000000 < a0_1) = true := decide_eq_true c10
     clear c10
     have H' := am H
     clear H
     obtain ⟨hcz11_0, hcz11_1, hcz11_2⟩ := bc3 w3 BK330.out
     go_wp2
     go_meet
     case rel => exact ⟨_, (true), Q3, H', ⟨by first | omega | exact Nat.le_refl _⟩, ⟨u13_2⟩, ⟨Q0⟩⟩
   rw [if_neg c10] at H
   have c10b0 : decide (1000000 < a0_1) = false := decide_eq_false c10
   clear c10
   by_cases c12 : ((a0_1 == 0) != (a0_0 == 0)) = true
   rotate_left
   · rw [if_neg c12] at H
     have c12b0 : ((a0_1 == 0) != (a0_0 == 0)) = false := by simpa using c12
     (try (have c12b1 : decide ((a0_1 == 0) = (a0_0 == 0)) = true := by simpa using c12))
     (try (have c12b2 : ((a0_1 == 0) == (a0_0 == 0)) = true := by simpa using c12))
     clear c12
     have H' := am H
     clear H
     obtain ⟨hcz14_0, hcz14_1, hcz14_2⟩ := bc3 w3 BK330.out
     go_wp2
     go_meet
     case rel => exact ⟨_, (decide ((l0_2.length : Int) > 60)), Q3, H', ⟨by first | omega | exact Nat.le_refl _⟩, ⟨u13_2⟩, ⟨Q0⟩⟩
   rw [if_pos c12] at H
   have c12b0 : ((a0_1 == 0) != (a0_0 == 0)) = true := c12
   (try (have c12b1 : decide ((a0_1 == 0) = (a0_0 == 0)) = false := by simpa using c12))
   (try (have c12b2 : ((a0_1 == 0) == (a0_0 == 0)) = false := by simpa using c12))
   (try (have c12b3 : ¬ ((a0_1 == 0) = (a0_0 == 0)) := by simpa using c12))
   clear c12
   have H' := am H
   clear H
   obtain ⟨hcz13_0, hcz13_1, hcz13_2⟩ := bc3 w3 BK330.out
   go_wp2
   go_meet
   case rel => exact ⟨_, (true), Q3, H', ⟨by first | omega | exact Nat.le_refl _⟩, ⟨u13_2⟩, ⟨Q0⟩⟩
 clear HC2
 obtain ⟨kq, x38_1, rfl, HA, HJ1, BK330, HB⟩ := hcut
 cases kq with
 | zero => exact absurd HA.out (by simp [impl_isRLog.j0])
 | succ kj1 =>
   have H := HA.out
   clear HA
   simp only [impl_isRLog.j0] at H
   by_cases c15 : x38_1 = true
   · subst c15
     rw [if_pos rfl] at H
     obtain rfl := sj H
     go_wp2
     go_ret
     exact ⟨er, Q0⟩
   replace c15 := Bool.eq_false_iff.mpr c15
   subst c15
   rw [nf] at H
   have H' := am H
   clear H
   obtain ⟨hcz16_0, hcz16_1, hcz16_2⟩ := bc3 wc BK330.out
   go_wp2
   go_loopg [3, 44] kj1 (fun kq v3 v44 w' => ∃ (x3_2 : Int) (x44_2 : Int), v3 = .int .i64 x3_2 ∧ v44 = .int .i64 x44_2 ∧ Aside0 (impl_isRLog.l0 kq x3_2 l0_2 (l0_2.length : Int) x44_2 = some r) ∧ Aside0 (kq ≤ kj1) ∧ Aside0 (w'.heap[gb330]? = some (.cells #[.int .i64 a0_0, .int .i64 a0_1, (.slice A0_2 l0_2.length c0_2)] 34 (0, 0))) ∧ Aside0 (Below w.heap.size w w'))
   case atStart => exact ⟨(a0_1), (0), Q3, Q3, H', ⟨Nat.le_refl _⟩, ⟨u13_2⟩, ⟨Q0⟩⟩
   clear H'
   try clear c15
   try clear hcz16_0
   try clear hcz16_1
   try clear hcz16_2
   obtain ⟨x3_2, x44_2, rfl, rfl, HA, HK2, BK330, HB⟩ := hrel
   cases gk with
   | zero => exact absurd HA.out (by simp [impl_isRLog.l0])
   | succ k2 =>
     have H := HA.out
     clear HA
     simp only [impl_isRLog.l0] at H
     by_cases c17 : x44_2 < (l0_2.length : Int)
     rotate_left
     · rw [if_neg c17] at H
       have c17b0 : decide (x44_2 < (l0_2.length : Int)) = false := decide_eq_false c17
       clear c17
       obtain rfl := sj H
       go_wp2
       go_ret
       exact ⟨er, Q0⟩
     rw [if_pos c17] at H
     have c17b0 : decide (x44_2 < (l0_2.length : Int)) = true := decide_eq_true c17
     clear c17
     by_cases c18 : 0 ≤ x44_2
     rotate_left
     · rw [if_neg c18] at H
       exact absurd H (by simp)
     rw [if_pos c18] at H
     have c18b0 : decide (0 ≤ x44_2) = true := decide_eq_true c18
     clear c18
     by_cases c19 : x44_2 < (l0_2.length : Int)
     rotate_left
     · rw [if_neg c19] at H
       exact absurd H (by simp)
     rw [if_pos c19] at H
     have c19b0 : decide (x44_2 < (l0_2.length : Int)) = true := decide_eq_true c19
     clear c19
     replace H := Option.bind_eq_some_iff.mp H
     obtain ⟨t333, A200, H⟩ := H
     have A20 := am A200
     clear A200
     by_cases c21 : t333 = true
     rotate_left
     · replace c21 := Bool.eq_false_iff.mpr c21
       subst c21
       rw [nf] at H
       obtain rfl := sj H
       have p331 : 0 ≤ (x44_2 : Int) := of_decide_eq_true Q1
       have q331 : x44_2 < (l0_2.length : Int) := of_decide_eq_true Q1
       obtain ⟨ad331, e331, hx331_0, hx331_1⟩ := at_T85 HR0_2.out x44_2 p331 q331
       cases e331
       replace hx331_0 := cm HB.out hx331_0
       replace hx331_1 := cm HB.out hx331_1
       replace p331 := eq_true p331
       replace q331 := eq_true q331
       go_wp2_with (first | ((with_reducible refine gate_dst (N := 5) rfl ?_); (try (refine gate_guard (by rfl) ?_; dsimp only)); refine box_event ?hg (N := 5) ?hd (cs := #[.int .i64 0, .string (⟨#[]⟩ : ByteArray)]) (t := 85) ?hr ?_; (case hd => rfl); (case hg => rfl); (case hr => first | (go_simp; done) | (go_simp; rfl)); intro gb332 hg w30 hbox hb; have BK332 := am (hbox); have GW332 := am ((by rw [hg]; exact (below_size Q0) : w.heap.size ≤ gb332)); have GE332 := am ((by rw [hg]; exact (below_size Q0) : w.heap.size ≤ gb332)); replace HB := am (below_step Q0 hb); have NB330_332 := am ((by rw [hg]; exact Nat.ne_of_lt (blk_lt (g := gb330) (o := .cells #[.int .i64 a0_0, .int .i64 a0_1, .slice (some ad331) l0_2.length c0_2] 34 (0, 0)) u13_2) : gb330 ≠ gb332)); have NB332_330 := am ((by rw [hg]; exact Nat.ne_of_gt (blk_lt (g := gb330) (o := .cells #[.int .i64 a0_0, .int .i64 a0_1, .slice (some ad331) l0_2.length c0_2] 34 (0, 0)) u13_2) : gb332 ≠ gb330)); replace BK330 := am (blk_below (g := gb330) (o := .cells #[.int .i64 a0_0, .int .i64 a0_1, .slice (some ad331) l0_2.length c0_2] 34 (0, 0)) u13_2 hb); clear hb hbox hg; have hnb31 := NB332_330.out; have hnc31 := NB330_332.out; obtain ⟨hcz32_0, hcz32_1, hfz32_0, hfz32_1⟩ := bc2f w30 BK332.out) | ((with_reducible refine gate_callee (f := 111) rfl ?_); refine goesL_ (some 49) rfl rfl Try.func111 kr rfl #[.agg #[.int .i64 ((rd_T85 l0_2 x44_2).f0), .string ((rd_T85 l0_2 x44_2).f1)]] rfl Q2 ?_; (with_reducible refine (impl_isEntry.calls ((rd_T85 l0_2 x44_2).f0) ((rd_T85 l0_2 x44_2).f1) false _ A20.out).mono ?_); rintro e w33 ⟨rfl, hb⟩; refine ⟨_, rfl, ?_⟩; replace BK330 := am (blk_below (g := gb330) (o := .cells #[.int .i64 a0_0, .int .i64 a0_1, .slice (some ad331) l0_2.length c0_2] 34 (0, 0)) u13_8 hb); replace BK332 := am (blk_below (g := gb332) (o := .cells #[.int .i64 ((rd_T85 l0_2 x44_2).f0), .string ((rd_T85 l0_2 x44_2).f1)] 85 (0, 0)) u13_7 hb); replace HB := am (below_step Q0 hb); (try clear hb); (try clear hb2); (try clear hk); (try clear hi)))
       go_ret
       exact ⟨er, Q0⟩
     subst c21
     rw [if_pos rfl] at H
     have H9 := am H
     clear H
     have p331 : 0 ≤ (x44_2 : Int) := of_decide_eq_true Q1
     have q331 : x44_2 < (l0_2.length : Int) := of_decide_eq_true Q1
     obtain ⟨ad331, e331, hx331_0, hx331_1⟩ := at_T85 HR0_2.out x44_2 p331 q331
     cases e331
     replace hx331_0 := cm HB.out hx331_0
     replace hx331_1 := cm HB.out hx331_1
     replace p331 := eq_true p331
     replace q331 := eq_true q331
     go_upto_if 56 with (first | ((with_reducible refine gate_dst (N := 5) rfl ?_); (try (refine gate_guard (by rfl) ?_; dsimp only)); refine box_event ?hg (N := 5) ?hd (cs := #[.int .i64 0, .string (⟨#[]⟩ : ByteArray)]) (t := 85) ?hr ?_; (case hd => rfl); (case hg => rfl); (case hr => first | (go_simp; done) | (go_simp; rfl)); intro gb332 hg w22 hbox hb; have BK332 := am (hbox); have GW332 := am ((by rw [hg]; exact (below_size Q0) : w.heap.size ≤ gb332)); have GE332 := am ((by rw [hg]; exact (below_size Q0) : w.heap.size ≤ gb332)); replace HB := am (below_step Q0 hb); have NB330_332 := am ((by rw [hg]; exact Nat.ne_of_lt (blk_lt (g := gb330) (o := .cells #[.int .i64 a0_0, .int .i64 a0_1, .slice (some ad331) l0_2.length c0_2] 34 (0, 0)) u13_2) : gb330 ≠ gb332)); have NB332_330 := am ((by rw [hg]; exact Nat.ne_of_gt (blk_lt (g := gb330) (o := .cells #[.int .i64 a0_0, .int .i64 a0_1, .slice (some ad331) l0_2.length c0_2] 34 (0, 0)) u13_2) : gb332 ≠ gb330)); replace BK330 := am (blk_below (g := gb330) (o := .cells #[.int .i64 a0_0, .int .i64 a0_1, .slice (some ad331) l0_2.length c0_2] 34 (0, 0)) u13_2 hb); clear hb hbox hg; have hnb23 := NB332_330.out; have hnc23 := NB330_332.out; obtain ⟨hcz24_0, hcz24_1, hfz24_0, hfz24_1⟩ := bc2f w22 BK332.out) | ((with_reducible refine gate_callee (f := 111) rfl ?_); refine goesL_ (some 49) rfl rfl Try.func111 kr rfl #[.agg #[.int .i64 ((rd_T85 l0_2 x44_2).f0), .string ((rd_T85 l0_2 x44_2).f1)]] rfl Q2 ?_; (with_reducible refine (impl_isEntry.calls ((rd_T85 l0_2 x44_2).f0) ((rd_T85 l0_2 x44_2).f1) true _ A20.out).mono ?_); rintro e w25 ⟨rfl, hb⟩; refine ⟨_, rfl, ?_⟩; replace BK330 := am (blk_below (g := gb330) (o := .cells #[.int .i64 a0_0, .int .i64 a0_1, .slice (some ad331) l0_2.length c0_2] 34 (0, 0)) u13_8 hb); replace BK332 := am (blk_below (g := gb332) (o := .cells #[.int .i64 ((rd_T85 l0_2 x44_2).f0), .string ((rd_T85 l0_2 x44_2).f1)] 85 (0, 0)) u13_7 hb); replace HB := am (below_step Q0 hb); (try clear hb); (try clear hb2); (try clear hk); (try clear hi); obtain ⟨hcz26_0, hcz26_1, hfz26_0, hfz26_1⟩ := bc2f w25 BK332.out))
     have H := H9.out
     clear H9
     by_cases c27 : ((rd_T85 l0_2 x44_2).f0) < x3_2
     · rw [if_pos c27] at H
       have c27b0 : decide (((rd_T85 l0_2 x44_2).f0) < x3_2) = true := decide_eq_true c27
       clear c27
       (first | rw [c27b0] | (simp only [i64_w, i32_w]; rw [c27b0]) | skip)
       obtain rfl := sj H
       go_wp2
       go_ret
       exact ⟨er, Q0⟩
     rw [if_neg c27] at H
     have c27b0 : decide (((rd_T85 l0_2 x44_2).f0) < x3_2) = false := decide_eq_false c27
     clear c27
     (first | rw [c27b0] | (simp only [i64_w, i32_w]; rw [c27b0]) | skip)
     have H' := am H
     clear H
     have hnb28 := NB332_330.out
     have hnc28 := NB330_332.out
     obtain ⟨hcz29_0, hcz29_1, hfz29_0, hfz29_1⟩ := bc2f w25 BK332.out
     go_wp2
     go_roundg k2
     case measure => have := HJ1.out; have := HK2.out; omega
     case rel => exact ⟨((rd_T85 l0_2 x44_2).f0), (wrap64 (x44_2 + 1)), Q3, Q3, H', ⟨(by have := HJ1.out; have := HK2.out; omega)⟩, ⟨u13_2⟩, ⟨Q0⟩⟩

/-! ### impl_RLog_last: function 89 -/
def impl_RLog_last.f (a0_0 : Int) (a0_1 : Int) (l0_2 : List (S85)) : Option (Int) := some (wrap64 (a0_0 + (l0_2.length : Int)))
set_option maxHeartbeats 8000000 in
set_option maxRecDepth 100000 in
theorem impl_RLog_last.calls (a0_0 : Int) (a0_1 : Int) (A0_2 : Option Addr) (c0_2 : Nat) (l0_2 : List (S85)) (r : Int) (w : World) (hr0_2 : Kd.C k85 w A0_2 l0_2.length l0_2) (hc0_2 : l0_2.length ≤ c0_2) (h : impl_RLog_last.f a0_0 a0_1 l0_2 = some r) :
   Calls Try.prog 89 #[.agg #[.int .i64 a0_0, .int .i64 a0_1, .slice A0_2 l0_2.length c0_2]] w fun e w' => e = .returned (.int .i64 r) ∧ Below w.heap.size w w' := by
 have hu34 := Try.underlying34
 have HR0_2 := am hr0_2
 have HC0_2 := am hc0_2
 clear hr0_2 hc0_2
 have HB := am (Below.refl w.heap.size w)
 have H : (some (wrap64 (a0_0 + (l0_2.length : Int)))) = some r := h
 clear h
 obtain rfl := sj H
 go_enter Try.func89, Try.ntmps89
 go_wp2_with (first | ((with_reducible refine gate_dst (N := 1) rfl ?_); refine box_event ?hg (N := 1) ?hd (cs := #[.int .i64 a0_0, .int .i64 a0_1, .slice A0_2 l0_2.length c0_2]) (t := 34) ?hr ?_; (case hd => rfl); (case hg => rfl); (case hr => first | (go_simp; done) | (go_simp; rfl)); intro gb334 hg w2 hbox hb; have BK334 := am (hbox); have GW334 := am ((by rw [hg]; exact (below_size Q0) : w.heap.size ≤ gb334)); have GE334 := am ((by rw [hg]; exact (below_size Q0) : w.heap.size ≤ gb334)); replace HB := am (below_step Q0 hb); clear hb hbox hg; obtain ⟨hcz3_0, hcz3_1, hcz3_2, hfz3_0, hfz3_1, hfz3_2⟩ := bc3f w2 BK334.out))
 go_ret
 exact ⟨er, (by repeat (first | (with_reducible first | exact HB.out | apply below_alloc | apply pw_below_drewN | apply below_drew1 | refine below_set ?_ GE334.out) | exact HB.out))⟩

/-! ### impl_RLog_term: function 92 -/
def impl_RLog_term.f (a0_0 : Int) (a0_1 : Int) (l0_2 : List (S85)) (a1 : Int) : Option (Int) := if a1 = a0_0 then (some a0_1) else (if 0 ≤ (wrap64 ((wrap64 (a1 - a0_0)) - 1)) then (if (wrap64 ((wrap64 (a1 - a0_0)) - 1)) < (l0_2.length : Int) then (some ((rd_T85 l0_2 (wrap64 ((wrap64 (a1 - a0_0)) - 1))).f0)) else (none)) else (none))
set_option maxHeartbeats 8000000 in
set_option maxRecDepth 100000 in
theorem impl_RLog_term.calls (a0_0 : Int) (a0_1 : Int) (A0_2 : Option Addr) (c0_2 : Nat) (l0_2 : List (S85)) (a1 : Int) (r : Int) (w : World) (hr0_2 : Kd.C k85 w A0_2 l0_2.length l0_2) (hc0_2 : l0_2.length ≤ c0_2) (h : impl_RLog_term.f a0_0 a0_1 l0_2 a1 = some r) :
   Calls Try.prog 92 #[.agg #[.int .i64 a0_0, .int .i64 a0_1, .slice A0_2 l0_2.length c0_2], .int .i64 a1] w fun e w' => e = .returned (.int .i64 r) ∧ Below w.heap.size w w' := by
 have hu34 := Try.underlying34
 have HR0_2 := am hr0_2
 have HC0_2 := am hc0_2
 clear hr0_2 hc0_2
 have HB := am (Below.refl w.heap.size w)
 have H : (if a1 = a0_0 then (some a0_1) else (if 0 ≤ (wrap64 ((wrap64 (a1 - a0_0)) - 1)) then (if (wrap64 ((wrap64 (a1 - a0_0)) - 1)) < (l0_2.length : Int) then (some ((rd_T85 l0_2 (wrap64 ((wrap64 (a1 - a0_0)) - 1))).f0)) else (none)) else (none))) = some r := h
 clear h
 have H9 := am H
 clear H
 go_enter Try.func92, Try.ntmps92
 go_upto_if 8 with (first | ((with_reducible refine gate_dst (N := 2) rfl ?_); refine box_event ?hg (N := 2) ?hd (cs := #[.int .i64 a0_0, .int .i64 a0_1, .slice A0_2 l0_2.length c0_2]) (t := 34) ?hr ?_; (case hd => rfl); (case hg => rfl); (case hr => first | (go_simp; done) | (go_simp; rfl)); intro gb335 hg w3 hbox hb; have BK335 := am (hbox); have GW335 := am ((by rw [hg]; exact (below_size Q0) : w.heap.size ≤ gb335)); have GE335 := am ((by rw [hg]; exact (below_size Q0) : w.heap.size ≤ gb335)); replace HB := am (below_step Q0 hb); clear hb hbox hg; obtain ⟨hcz4_0, hcz4_1, hcz4_2, hfz4_0, hfz4_1, hfz4_2⟩ := bc3f w3 BK335.out))
 have H := H9.out
 clear H9
 by_cases c5 : a1 = a0_0
 · rw [if_pos c5] at H
   have c5b0 : (a1 == a0_0) = true := beq_iff_eq.mpr c5
   have c5b1 : (a1 != a0_0) = false := bne_eq_false_iff_eq.mpr c5
   clear c5
   (first | rw [c5b0] | (simp only [i64_w, i32_w]; rw [c5b0]) | skip)
   obtain rfl := sj H
   obtain ⟨hcz6_0, hcz6_1, hcz6_2, hfz6_0, hfz6_1, hfz6_2⟩ := bc3f w3 BK335.out
   go_wp2
   go_ret
   exact ⟨er, Q0⟩
 rw [if_neg c5] at H
 have c5b0 : (a1 == a0_0) = false := beq_eq_false_iff_ne.mpr c5
 have c5b1 : (a1 != a0_0) = true := bne_iff_ne.mpr c5
 (first | rw [c5b0] | (simp only [i64_w, i32_w]; rw [c5b0]) | skip)
 obtain ⟨ji7, hji7⟩ : ∃ j_ : Int, (wrap64 ((wrap64 (a1 - a0_0)) - 1)) = j_ := ⟨_, rfl⟩
 replace H : (if 0 ≤ (ji7) then (if (ji7) < (l0_2.length : Int) then (some ((rd_T85 l0_2 (ji7)).f0)) else (none)) else (none)) = some r := by first | (rw [hji7] at H; exact H) | (simp only [hji7] at H ⊢; exact H)
 have hji7w : (IntKind.i64.wrap ((wrap64 (a1 - a0_0)) - 1)) = ji7 := (i64_w _).trans hji7
 by_cases c8 : 0 ≤ (ji7)
 rotate_left
 · rw [if_neg c8] at H
   exact absurd H (by simp)
 rw [if_pos c8] at H
 have c8b0 : decide (0 ≤ (ji7)) = true := decide_eq_true c8
 clear c8
 by_cases c9 : (ji7) < (l0_2.length : Int)
 rotate_left
 · rw [if_neg c9] at H
   exact absurd H (by simp)
 rw [if_pos c9] at H
 have c9b0 : decide ((ji7) < (l0_2.length : Int)) = true := decide_eq_true c9
 clear c9
 obtain rfl := sj H
 obtain ⟨hcz10_0, hcz10_1, hcz10_2, hfz10_0, hfz10_1, hfz10_2⟩ := bc3f w3 BK335.out
 have p336 : 0 ≤ ((ji7) : Int) := of_decide_eq_true Q1
 have q336 : (ji7) < (l0_2.length : Int) := of_decide_eq_true Q1
 obtain ⟨ad336, e336, hx336_0, hx336_1⟩ := at_T85 HR0_2.out (ji7) p336 q336
 cases e336
 replace hx336_0 := cm HB.out hx336_0
 replace hx336_1 := cm HB.out hx336_1
 replace p336 := eq_true p336
 replace q336 := eq_true q336
 go_wp2
 go_ret
 exact ⟨by first | rfl | (simp [errW_none, errW_some] <;> rfl) | (simp only [← hji7]; first | rfl | (simp [errW_none, errW_some] <;> rfl)) | (simp [*, errW_none, errW_some] <;> rfl), Q0⟩

end Go.Proofs.Ytkcadcoohmofcaa.QFnExactLeaders
