-- Printed by the session's own program wip/prx.py.
import Derived.Test.YtoemdmjdpikfbaaSqFnQuorums
import Derived.Test.YtoemdmjdpikfbaaQFnQuorumsx0
import Derived.Test.YtoemdmjdpikfbaaQFnQuorumsx1
import Derived.Test.YtoemdmjdpikfbaaQFnQuorumsx2
import Derived.Test.YtoemdmjdpikfbaaQFnQuorumsx8
namespace Go.Proofs.Ytoemdmjdpikfbaa.QFnQuorums
open Go.RowKit Go.Proofs.YtoemdmjdpikfbaaW.PrintWords Go.Proofs.YtoemdmjdpikfbaaW.PrintLast Go.Proofs.YtoemdmjdpikfbaaW.PrintMore Go.Proofs.Ytoemdmjdpikfbaa.SqFnQuorums
attribute [local go_sem] max2_int min2_int max_two min_two max_three min_three max_four min_four Go.Proofs.Ytoemdmjdpikfbaa.Set.isSome_setCell
set_option linter.unusedVariables false
set_option linter.unusedSimpArgs false

-- squeezed
theorem u12_8 {P : Prop} (h : P := by (with_reducible repeat (first | refine blk_drewN ?_ _ | refine blk_drew ?_ | refine blk_alloc ?_ _)); exact BK564.out) : P := h
theorem u12_13 {P : Prop} (h : P := by (with_reducible repeat (first | refine blk_drewN ?_ _ | refine blk_drew ?_ | refine blk_alloc ?_ _)); exact BK587.out) : P := h
theorem u12_15 {P : Prop} (h : P := by (with_reducible repeat (first | refine blk_drewN ?_ _ | refine blk_drew ?_ | refine blk_alloc ?_ _)); exact BK582.out) : P := h
theorem u12_16 {P : Prop} (h : P := by repeat (first | exact HR1.out | (with_reducible refine Kd.C_alloc ?_ _) | (with_reducible refine Kd.C_drewN ?_ _) | (with_reducible refine Kd.C_drew ?_))) : P := h
theorem u12_18 {P : Prop} (h : P := by (with_reducible repeat (first | apply Kd.R_alloc | apply Kd.R_drewN | apply Kd.R_drew)); exact HO567.out) : P := h
/-! ### spec_Voters: function 26 -/
def spec_Voters.l0 : Nat → List Int → Int → List Int → List Int → List Int → Option (List Int)
 | 0, _, _, _, _, _ => none
 | k + 1, x3, x4, x565000, x565001, x565002 => if x4 < 100 then ((spec_l01Has.f k x565000 x4).bind fun t569 => (if t569 = true then (if x3.length < 17592186044416 then (spec_Voters.l0 k (x3 ++ [x4]) (wrap64 (x4 + 1)) x565000 x565001 x565002) else (none)) else ((spec_l01Has.f k x565001 x4).bind fun t573 => (if t573 = true then (if x3.length < 17592186044416 then (spec_Voters.l0 k (x3 ++ [x4]) (wrap64 (x4 + 1)) x565000 x565001 x565002) else (none)) else (spec_Voters.l0 k x3 (wrap64 (x4 + 1)) x565000 x565001 x565002))))) else (some x3)
def spec_Voters.f (k : Nat) (l0_0 : List Int) (l0_1 : List Int) (l0_2 : List Int) : Option (List Int) := (spec_ConfOk.f k l0_0 l0_1 l0_2).bind fun t568 => (if t568 = true then (spec_Voters.l0 k (([] : List Int)) 0 l0_0 l0_1 l0_2) else (some ([] : List Int)))
theorem spec_Voters.mono_l : ∀ k, (∀ y0 y1 y2 y3 y4, LeO (spec_Voters.l0 k y0 y1 y2 y3 y4) (spec_Voters.l0 (k + 1) y0 y1 y2 y3 y4))
 | 0 => fun _ _ _ _ _ r h => by simp [spec_Voters.l0] at h
 | k + 1 => by
   have ih0 := spec_Voters.mono_l k
   · intro y0 y1 y2 y3 y4
     unfold spec_Voters.l0
     repeat' first
     | (with_reducible exact ih0 _ _ _ _ _)
     | (with_reducible exact spec_ConfOk.mono _ _ _ _)
     | (with_reducible exact spec_l01Has.mono _ _ _)
     | (with_reducible exact LeO.refl _)
     | (with_reducible exact LeO.none _)
     | (with_reducible refine LeO.ite ?_ ?_)
     | (with_reducible refine LeO.bind ?_ (fun _ => ?_))
     | exact ih0 _ _ _ _ _
     | exact spec_ConfOk.mono _ _ _ _
     | exact spec_l01Has.mono _ _ _
     | exact LeO.none _
     | refine LeO.ite ?_ ?_
     | refine LeO.bind ?_ (fun _ => ?_)
theorem spec_Voters.mono : ∀ a0 a1 a2 k, LeO (spec_Voters.f k a0 a1 a2) (spec_Voters.f (k + 1) a0 a1 a2) := by
 intro a0 a1 a2 k
 have ih0 := spec_Voters.mono_l k
 unfold spec_Voters.f
 repeat' first
     | (with_reducible exact ih0 _ _ _ _ _)
     | (with_reducible exact spec_ConfOk.mono _ _ _ _)
     | (with_reducible exact spec_l01Has.mono _ _ _)
     | (with_reducible exact LeO.refl _)
     | (with_reducible exact LeO.none _)
     | (with_reducible refine LeO.ite ?_ ?_)
     | (with_reducible refine LeO.bind ?_ (fun _ => ?_))
     | exact ih0 _ _ _ _ _
     | exact spec_ConfOk.mono _ _ _ _
     | exact spec_l01Has.mono _ _ _
     | exact LeO.none _
     | refine LeO.ite ?_ ?_
     | refine LeO.bind ?_ (fun _ => ?_)
set_option maxHeartbeats 8000000 in
set_option maxRecDepth 100000 in
theorem spec_Voters.calls (k : Nat) (A0_0 : Option Addr) (c0_0 : Nat) (l0_0 : List Int) (A0_1 : Option Addr) (c0_1 : Nat) (l0_1 : List Int) (A0_2 : Option Addr) (c0_2 : Nat) (l0_2 : List Int) (r : List Int) (w : World) (hr0_0 : Kd.C (Kd.int .i64) w A0_0 l0_0.length l0_0) (hc0_0 : l0_0.length ≤ c0_0) (hr0_1 : Kd.C (Kd.int .i64) w A0_1 l0_1.length l0_1) (hc0_1 : l0_1.length ≤ c0_1) (hr0_2 : Kd.C (Kd.int .i64) w A0_2 l0_2.length l0_2) (hc0_2 : l0_2.length ≤ c0_2) (h : spec_Voters.f k l0_0 l0_1 l0_2 = some r) :
   Calls Try.prog 26 #[.agg #[.slice A0_0 l0_0.length c0_0, .slice A0_1 l0_1.length c0_1, .slice A0_2 l0_2.length c0_2]] w fun e w' => ∃ v0_ : Value, e = .returned (v0_) ∧ Kd.R (Kd.int .i64) 3 w' w.heap.size (fun _ => True) v0_ r ∧ Below w.heap.size w w' := by
 have hu26 := Try.underlying26
 have HR0_0 := am hr0_0
 have HC0_0 := am hc0_0
 clear hr0_0 hc0_0
 have HR0_1 := am hr0_1
 have HC0_1 := am hc0_1
 clear hr0_1 hc0_1
 have HR0_2 := am hr0_2
 have HC0_2 := am hc0_2
 clear hr0_2 hc0_2
 have HB := am (Below.refl w.heap.size w)
 have H : ((spec_ConfOk.f k l0_0 l0_1 l0_2).bind fun t568 => (if t568 = true then (spec_Voters.l0 k (([] : List Int)) 0 l0_0 l0_1 l0_2) else (some ([] : List Int)))) = some r := h
 clear h
 obtain ⟨y565, hy565⟩ : ∃ y_ : List Int, y_ = (([] : List Int)) := ⟨_, rfl⟩
 replace H : ((spec_ConfOk.f k l0_0 l0_1 l0_2).bind fun t568 => (if t568 = true then (spec_Voters.l0 k y565 0 l0_0 l0_1 l0_2) else (some ([] : List Int)))) = some r := by first | (rw [hy565]; with_reducible exact H) | (have H2_ := (Option.bind_some _ _).symm.trans H; rw [hy565]; with_reducible exact H2_) | (have H2_ := (Option.bind_some _ _).symm.trans H; with_reducible exact H2_) | with_reducible exact H | (rw [hy565]; exact H) | exact H
 have Ny565 := am hy565
 clear hy565
 replace H := Option.bind_eq_some_iff.mp H
 obtain ⟨t568, A20, H⟩ := H
 replace H : (if t568 = true then (spec_Voters.l0 k y565 0 l0_0 l0_1 l0_2) else (some ([] : List Int))) = some r := H
 have A2 := am A20
 clear A20
 have H9 := am H
 clear H
 go_enter Try.func26, Try.ntmps26
 go_upto_if 8 with (first | ((with_reducible refine gate_dst (N := 1) rfl ?_); refine box_event ?hg (N := 1) ?hd (cs := #[.slice A0_0 l0_0.length c0_0, .slice A0_1 l0_1.length c0_1, .slice A0_2 l0_2.length c0_2]) (t := 26) ?hr ?_; (case hd => rfl); (case hg => rfl); (case hr => first | (go_simp; done) | (go_simp; rfl)); intro gb564 hg w3 hbox hb; have BK564 := am (hbox); have GW564 := am ((by rw [hg]; exact (below_size Q0) : w.heap.size ≤ gb564)); have GE564 := am ((by rw [hg]; exact (below_size Q0) : w.heap.size ≤ gb564)); replace HB := am (below_step Q0 hb); clear hb hbox hg) | ((with_reducible refine gate_dst (N := 5) rfl ?_); refine Kd.R_lit (Kd.int .i64) _ 3 ?hg (N := 5) ?hd (xs := ([] : List Int)) (inner := []) (ok := fun _ => True) (okp := fun _ => True) ?hr ?hp (fun _ hk => hk) trivial (Below.refl _ _) (Nat.le_refl _) (by simp) ?_; (case hd => rfl); (case hg => rfl); (case hr => first | (go_simp; done) | (go_simp; rfl)); (case hp => exact (Reps.none _ _)); intro v566 w4 ho5 hb hg_ hnew_; clear hg_ hnew_; (first | rw [← Ny565.out] at ho5 | (simp only [Int.reduceToNat] at ho5; rw [← Ny565.out] at ho5)); have HO567 := am (Kd.R_lower ho5 (below_size Q0)); replace BK564 := am (blk_below (g := gb564) (o := .cells #[.slice A0_0 l0_0.length c0_0, .slice A0_1 l0_1.length c0_1, .slice A0_2 l0_2.length c0_2] 26 (0, 0)) u12_8 hb); replace HB := am (below_step Q0 hb); clear hb ho5; obtain ⟨hcz6_0, hcz6_1, hcz6_2⟩ := bc3 w4 BK564.out) | ((with_reducible refine gate_callee (f := 53) rfl ?_); refine goesL_ (some 7) rfl rfl Try.func53 kr rfl #[.agg #[.slice A0_0 l0_0.length c0_0, .slice A0_1 l0_1.length c0_1, .slice A0_2 l0_2.length c0_2]] rfl Q3 ?_; (with_reducible refine (spec_ConfOk.calls k _ _ l0_0 _ _ l0_1 _ _ l0_2 t568 _ ?side1 ?side2 ?side3 ?side4 ?side5 ?side6 A2.out).mono ?_); (case side1 => exact Q6); (case side2 => exact HC0_0.out); (case side3 => exact Q8); (case side4 => exact HC0_1.out); (case side5 => exact Q7); (case side6 => exact HC0_2.out); rintro e w7 ⟨rfl, hb⟩; refine ⟨_, rfl, ?_⟩; replace HO567 := am (Kd.R_below u12_18 hb); replace BK564 := am (blk_below (g := gb564) (o := .cells #[.slice A0_0 l0_0.length c0_0, .slice A0_1 l0_1.length c0_1, .slice A0_2 l0_2.length c0_2] 26 (0, 0)) u12_8 hb); replace HB := am (below_step Q0 hb); (try clear hb); (try clear hb2); (try clear hk); (try clear hi)))
 have H := H9.out
 clear H9
 by_cases c8 : t568 = true
 rotate_left
 · replace c8 := Bool.eq_false_iff.mpr c8
   subst c8
   rw [nf] at H
   obtain rfl := sj H
   go_wp2
   go_ret
   exact ⟨_, er, (by first | exact Kd.R_nil _ _ _ _ _ | exact Kd.N_nil _ _ _ _ _ | exact Kd.V_nil _ _ _ _ _ | exact Kd.Q_nil _ _ _ _ _ | exact Kd.S_nil _ _ _ _ _), Q0⟩
 subst c8
 rw [if_pos rfl] at H
 have H' := am H
 clear H
 go_wp2
 go_loopg [3, 4] k (fun kq v3 v4 w' => ∃ (x3_1 : List Int) (x4_1 : Int), v4 = .int .i64 x4_1 ∧ Aside0 (spec_Voters.l0 kq x3_1 x4_1 l0_0 l0_1 l0_2 = some r) ∧ Aside0 (kq ≤ k) ∧ Aside0 (Kd.R (Kd.int .i64) 3 w' w.heap.size (fun _ => True) v3 x3_1) ∧ Aside0 (w'.heap[gb564]? = some (.cells #[(.slice A0_0 l0_0.length c0_0), (.slice A0_1 l0_1.length c0_1), (.slice A0_2 l0_2.length c0_2)] 26 (0, 0))) ∧ Aside0 (Below w.heap.size w w'))
 case atStart => exact ⟨(y565), (0), Q1, H', ⟨Nat.le_refl _⟩, ⟨u12_18⟩, ⟨u12_8⟩, ⟨Q0⟩⟩
 clear H'
 try clear c8
 try clear hcz6_0
 try clear hcz6_1
 try clear hcz6_2
 obtain ⟨x3_1, x4_1, rfl, HA, HK1, HO_3, BK564, HB⟩ := hrel
 cases gk with
 | zero => exact absurd HA.out (by simp [spec_Voters.l0])
 | succ k1 =>
   have H := HA.out
   clear HA
   simp only [spec_Voters.l0] at H
   by_cases c9 : x4_1 < 100
   rotate_left
   · rw [if_neg c9] at H
     have c9b0 : decide (x4_1 < 100) = false := decide_eq_false c9
     clear c9
     (first | rw [c9b0] | (simp only [i64_w, i32_w]; rw [c9b0]) | skip)
     obtain rfl := sj H
     go_wp2
     go_ret
     exact ⟨_, er, Q5, Q0⟩
   rw [if_pos c9] at H
   have c9b0 : decide (x4_1 < 100) = true := decide_eq_true c9
   clear c9
   (first | rw [c9b0] | (simp only [i64_w, i32_w]; rw [c9b0]) | skip)
   replace H := Option.bind_eq_some_iff.mp H
   obtain ⟨t569, A100, H⟩ := H
   have A10 := am A100
   clear A100
   by_cases c11 : t569 = true
   · subst c11
     rw [if_pos rfl] at H
     by_cases c12 : x3_1.length < 17592186044416
     rotate_left
     · rw [if_neg c12] at H
       exact absurd H (by simp)
     rw [if_pos c12] at H
     have LMc12 := am c12
     clear c12
     obtain ⟨y570, hy570⟩ : ∃ y_ : List Int, y_ = (x3_1 ++ [x4_1]) := ⟨_, rfl⟩
     replace H : (spec_Voters.l0 k1 y570 (wrap64 (x4_1 + 1)) l0_0 l0_1 l0_2) = some r := by first | (rw [hy570]; with_reducible exact H) | (have H2_ := (Option.bind_some _ _).symm.trans H; rw [hy570]; with_reducible exact H2_) | (have H2_ := (Option.bind_some _ _).symm.trans H; with_reducible exact H2_) | with_reducible exact H | (rw [hy570]; exact H) | exact H
     have Ny570 := am hy570
     clear hy570
     have H' := am H
     clear H
     obtain ⟨hcz13_0, hcz13_1, hcz13_2⟩ := bc3 wr BK564.out
     go_wp2_with (first | ((with_reducible refine gate_callee (f := 54) rfl ?_); refine goesL_ (some 16) rfl rfl Try.func54 kr rfl #[.slice A0_0 l0_0.length c0_0, .int .i64 x4_1] rfl Q3 ?_; (with_reducible refine (spec_l01Has.calls k1 _ _ l0_0 x4_1 true _ ?side1 ?side2 A10.out).mono ?_); (case side1 => exact Q6); (case side2 => exact HC0_0.out); rintro e w' ⟨rfl, ⟨nd, rfl⟩⟩; refine ⟨_, rfl, ?_⟩) | ((with_reducible refine gate_builtin (b := .append) (xs := #[.tmp 23, .tmp 25]) rfl ?_); at_builtin; refine Kd.R_append (Kd.int .i64) (w0 := w) w.heap.size rfl (.tmp 23) (.tmp 25) 24 3 (.int .i64 0) 8 rfl Try.underlying24 info3 rfl (by decide) (by omega) u3 x3_1 x4_1 [.int .i64 x4_1] (fun _ => True) (fun _ => False) rfl rfl ?aP (fun _ hk => hk.elim) ?aF ?aO ?aB ?aS ?aL ?_; (case aP => exact rfl); (case aB => exact Q0); (case aF => exact (fun _ _ => trivial)); (case aO => exact Q5); (case aS => exact (below_size Q0)); (case aL => have := LMc12.out; omega); intro v571 w14 ho hb hg hat; rw [← Ny570.out] at ho; replace BK564 := am (blk_grown (g := gb564) (o := .cells #[.slice A0_0 l0_0.length c0_0, .slice A0_1 l0_1.length c0_1, .slice A0_2 l0_2.length c0_2] 26 (0, 0)) u12_8 hg (Kd.R_ne HO_3.out BK564.out (by decide))); replace HB := am (hb); have HO572 := am (ho); clear HO_3; clear ho hb hg hat))
     go_roundg k1
     case measure => have := HK1.out; omega
     case rel => exact ⟨(y570), (wrap64 (x4_1 + 1)), Q1, H', ⟨by have := HK1.out; omega⟩, ⟨(by (with_reducible repeat (first | apply Kd.R_alloc | apply Kd.R_drewN | apply Kd.R_drew)); exact HO572.out)⟩, ⟨u12_8⟩, ⟨Q0⟩⟩
   replace c11 := Bool.eq_false_iff.mpr c11
   subst c11
   rw [nf] at H
   replace H := Option.bind_eq_some_iff.mp H
   obtain ⟨t573, A150, H⟩ := H
   have A15 := am A150
   clear A150
   have H9 := am H
   clear H
   obtain ⟨hcz16_0, hcz16_1, hcz16_2⟩ := bc3 wr BK564.out
   go_upto_if 22 with (first | ((with_reducible refine gate_callee (f := 54) rfl ?_); refine goesL_ (some 16) rfl rfl Try.func54 kr rfl #[.slice A0_0 l0_0.length c0_0, .int .i64 x4_1] rfl Q3 ?_; (with_reducible refine (spec_l01Has.calls k1 _ _ l0_0 x4_1 false _ ?side1 ?side2 A10.out).mono ?_); (case side1 => exact Q6); (case side2 => exact HC0_0.out); rintro e w' ⟨rfl, ⟨nd, rfl⟩⟩; refine ⟨_, rfl, ?_⟩) | (go_at_call 54; (with_reducible refine (spec_l01Has.calls k1 _ _ l0_1 x4_1 t573 _ ?side1 ?side2 A15.out).mono ?_); (case side1 => exact (by repeat (first | exact (Kd.C_below HR0_1.out Q0) | (with_reducible refine Kd.C_alloc ?_ _) | (with_reducible refine Kd.C_drewN ?_ _) | (with_reducible refine Kd.C_drew ?_)))); (case side2 => exact HC0_1.out); rintro e w' ⟨rfl, ⟨nd, rfl⟩⟩))
   have H := H9.out
   clear H9
   by_cases c17 : t573 = true
   rotate_left
   · replace c17 := Bool.eq_false_iff.mpr c17
     subst c17
     rw [nf] at H
     have H' := am H
     clear H
     go_wp2
     go_roundg k1
     case measure => have := HK1.out; omega
     case rel => exact ⟨(x3_1), (wrap64 (x4_1 + 1)), Q1, H', ⟨by have := HK1.out; omega⟩, ⟨Q5⟩, ⟨u12_8⟩, ⟨Q0⟩⟩
   subst c17
   rw [if_pos rfl] at H
   by_cases c18 : x3_1.length < 17592186044416
   rotate_left
   · rw [if_neg c18] at H
     exact absurd H (by simp)
   rw [if_pos c18] at H
   have LMc18 := am c18
   clear c18
   obtain ⟨y574, hy574⟩ : ∃ y_ : List Int, y_ = (x3_1 ++ [x4_1]) := ⟨_, rfl⟩
   replace H : (spec_Voters.l0 k1 y574 (wrap64 (x4_1 + 1)) l0_0 l0_1 l0_2) = some r := by first | (rw [hy574]; with_reducible exact H) | (have H2_ := (Option.bind_some _ _).symm.trans H; rw [hy574]; with_reducible exact H2_) | (have H2_ := (Option.bind_some _ _).symm.trans H; with_reducible exact H2_) | with_reducible exact H | (rw [hy574]; exact H) | exact H
   have Ny574 := am hy574
   clear hy574
   have H' := am H
   clear H
   go_wp2_with (first | ((with_reducible refine gate_builtin (b := .append) (xs := #[.tmp 23, .tmp 25]) rfl ?_); at_builtin; refine Kd.R_append (Kd.int .i64) (w0 := w) w.heap.size rfl (.tmp 23) (.tmp 25) 24 3 (.int .i64 0) 8 rfl Try.underlying24 info3 rfl (by decide) (by omega) u3 x3_1 x4_1 [.int .i64 x4_1] (fun _ => True) (fun _ => False) rfl rfl ?aP (fun _ hk => hk.elim) ?aF ?aO ?aB ?aS ?aL ?_; (case aP => exact rfl); (case aB => exact Q0); (case aF => exact (fun _ _ => trivial)); (case aO => exact Q5); (case aS => exact (below_size Q0)); (case aL => have := LMc18.out; omega); intro v575 w19 ho hb hg hat; rw [← Ny574.out] at ho; replace BK564 := am (blk_grown (g := gb564) (o := .cells #[.slice A0_0 l0_0.length c0_0, .slice A0_1 l0_1.length c0_1, .slice A0_2 l0_2.length c0_2] 26 (0, 0)) u12_8 hg (Kd.R_ne HO_3.out BK564.out (by decide))); replace HB := am (hb); have HO576 := am (ho); clear HO_3; clear ho hb hg hat))
   go_roundg k1
   case measure => have := HK1.out; omega
   case rel => exact ⟨(y574), (wrap64 (x4_1 + 1)), Q1, H', ⟨by have := HK1.out; omega⟩, ⟨(by (with_reducible repeat (first | apply Kd.R_alloc | apply Kd.R_drewN | apply Kd.R_drew)); exact HO576.out)⟩, ⟨u12_8⟩, ⟨Q0⟩⟩

/-! ### impl_hasMajority: function 84 -/
def impl_hasMajority.l0 : Nat → List Int → List Int → Int → List Int → Int → Int → Option (Bool)
 | 0, _, _, _, _, _, _ => none
 | k + 1, x0, x1, x5, x8, x9, x10 => if x10 < x9 then (if 0 ≤ x10 then (if x10 < (x8.length : Int) then ((slices_Contains_int_int.f k x1 (rd x8 x10)).bind fun t578 => (if t578 = true then (impl_hasMajority.l0 k x0 x1 (wrap64 (x5 + 1)) x8 x9 (wrap64 (x10 + 1))) else (impl_hasMajority.l0 k x0 x1 x5 x8 x9 (wrap64 (x10 + 1))))) else (none)) else (none)) else (some (decide ((wrap64 (2 * x5)) > (x0.length : Int))))
def impl_hasMajority.f (k : Nat) (l0 : List Int) (l1 : List Int) : Option (Bool) := impl_hasMajority.l0 k l0 l1 0 l0 (l0.length : Int) 0
theorem impl_hasMajority.mono_l : ∀ k, (∀ y0 y1 y2 y3 y4 y5, LeO (impl_hasMajority.l0 k y0 y1 y2 y3 y4 y5) (impl_hasMajority.l0 (k + 1) y0 y1 y2 y3 y4 y5))
 | 0 => fun _ _ _ _ _ _ r h => by simp [impl_hasMajority.l0] at h
 | k + 1 => by
   have ih0 := impl_hasMajority.mono_l k
   · intro y0 y1 y2 y3 y4 y5
     unfold impl_hasMajority.l0
     repeat' first
     | (with_reducible exact ih0 _ _ _ _ _ _)
     | (with_reducible exact slices_Contains_int_int.mono _ _ _)
     | (with_reducible exact LeO.refl _)
     | (with_reducible exact LeO.none _)
     | (with_reducible refine LeO.ite ?_ ?_)
     | (with_reducible refine LeO.bind ?_ (fun _ => ?_))
     | exact ih0 _ _ _ _ _ _
     | exact slices_Contains_int_int.mono _ _ _
     | exact LeO.none _
     | refine LeO.ite ?_ ?_
     | refine LeO.bind ?_ (fun _ => ?_)
theorem impl_hasMajority.mono : ∀ a0 a1 k, LeO (impl_hasMajority.f k a0 a1) (impl_hasMajority.f (k + 1) a0 a1) := by
 intro a0 a1 k
 have ih0 := impl_hasMajority.mono_l k
 unfold impl_hasMajority.f
 repeat' first
     | (with_reducible exact ih0 _ _ _ _ _ _)
     | (with_reducible exact slices_Contains_int_int.mono _ _ _)
     | (with_reducible exact LeO.refl _)
     | (with_reducible exact LeO.none _)
     | (with_reducible refine LeO.ite ?_ ?_)
     | (with_reducible refine LeO.bind ?_ (fun _ => ?_))
     | exact ih0 _ _ _ _ _ _
     | exact slices_Contains_int_int.mono _ _ _
     | exact LeO.none _
     | refine LeO.ite ?_ ?_
     | refine LeO.bind ?_ (fun _ => ?_)
set_option maxHeartbeats 8000000 in
set_option maxRecDepth 100000 in
theorem impl_hasMajority.calls (k : Nat) (A0 : Option Addr) (c0 : Nat) (l0 : List Int) (A1 : Option Addr) (c1 : Nat) (l1 : List Int) (r : Bool) (w : World) (hr0 : Kd.C (Kd.int .i64) w A0 l0.length l0) (hc0 : l0.length ≤ c0) (hr1 : Kd.C (Kd.int .i64) w A1 l1.length l1) (hc1 : l1.length ≤ c1) (h : impl_hasMajority.f k l0 l1 = some r) :
   Calls Try.prog 84 #[.slice A0 l0.length c0, .slice A1 l1.length c1] w fun e w' => e = .returned (.bool r) ∧ Drawn0 w w' := by
 have HR0 := am hr0
 have HC0 := am hc0
 clear hr0 hc0
 have HR1 := am hr1
 have HC1 := am hc1
 clear hr1 hc1
 have H : (impl_hasMajority.l0 k l0 l1 0 l0 (l0.length : Int) 0) = some r := h
 clear h
 have H' := am H
 clear H
 go_enter Try.func84, Try.ntmps84
 go_wp2
 go_loopg [5, 10] k (fun kq v5 v10 w' => ∃ (x5_1 : Int) (x10_1 : Int), v5 = .int .i64 x5_1 ∧ v10 = .int .i64 x10_1 ∧ Aside0 (impl_hasMajority.l0 kq l0 l1 x5_1 l0 (l0.length : Int) x10_1 = some r) ∧ Aside0 (kq ≤ k) ∧ Drawn0 w w')
 case atStart => exact ⟨(0), (0), Q1, Q1, H', ⟨Nat.le_refl _⟩, Q4⟩
 clear H'
 try clear c1
 obtain ⟨x5_1, x10_1, rfl, rfl, HA, HK1, ⟨m1, rfl⟩⟩ := hrel
 cases gk with
 | zero => exact absurd HA.out (by simp [impl_hasMajority.l0])
 | succ k1 =>
   have H := HA.out
   clear HA
   simp only [impl_hasMajority.l0] at H
   by_cases c3 : x10_1 < (l0.length : Int)
   rotate_left
   · rw [if_neg c3] at H
     have c3b0 : decide (x10_1 < (l0.length : Int)) = false := decide_eq_false c3
     clear c3
     obtain rfl := sj H
     go_wp2
     go_ret
     exact ⟨by first | rfl | (simp; done) | (simp [*]; done), Q4⟩
   rw [if_pos c3] at H
   have c3b0 : decide (x10_1 < (l0.length : Int)) = true := decide_eq_true c3
   clear c3
   by_cases c4 : 0 ≤ x10_1
   rotate_left
   · rw [if_neg c4] at H
     exact absurd H (by simp)
   rw [if_pos c4] at H
   have c4b0 : decide (0 ≤ x10_1) = true := decide_eq_true c4
   clear c4
   by_cases c5 : x10_1 < (l0.length : Int)
   rotate_left
   · rw [if_neg c5] at H
     exact absurd H (by simp)
   rw [if_pos c5] at H
   have c5b0 : decide (x10_1 < (l0.length : Int)) = true := decide_eq_true c5
   clear c5
   replace H := Option.bind_eq_some_iff.mp H
   obtain ⟨t578, A60, H⟩ := H
   have A6 := am A60
   clear A60
   have H9 := am H
   clear H
   have p577 : 0 ≤ (x10_1 : Int) := of_decide_eq_true Q2
   have q577 : x10_1 < (l0.length : Int) := of_decide_eq_true Q2
   obtain ⟨ad577, e577, hx577_0⟩ := Kd.at_int HR0.out x10_1 p577 q577
   cases e577
   replace p577 := eq_true p577
   replace q577 := eq_true q577
   go_upto_if 16 with (first | ((with_reducible refine gate_callee (f := 71) rfl ?_); refine goesL_ (some 16) rfl rfl Try.func71 kr rfl #[.slice A1 l1.length c1, .int .i64 (rd l0 x10_1)] rfl Q3 ?_; (with_reducible refine (slices_Contains_int_int.calls k1 _ _ l1 (rd l0 x10_1) t578 _ ?side1 ?side2 A6.out).mono ?_); (case side1 => exact u12_16); (case side2 => exact HC1.out); rintro e w' ⟨rfl, ⟨nd, rfl⟩⟩; refine ⟨_, rfl, ?_⟩))
   have H := H9.out
   clear H9
   by_cases c7 : t578 = true
   · subst c7
     rw [if_pos rfl] at H
     have H' := am H
     clear H
     go_wp2
     go_roundg k1
     case measure => have := HK1.out; omega
     case rel => exact ⟨(wrap64 (x5_1 + 1)), (wrap64 (x10_1 + 1)), Q1, Q1, H', ⟨by have := HK1.out; omega⟩, Q4⟩
   replace c7 := Bool.eq_false_iff.mpr c7
   subst c7
   rw [nf] at H
   have H' := am H
   clear H
   go_wp2
   go_roundg k1
   case measure => have := HK1.out; omega
   case rel => exact ⟨(x5_1), (wrap64 (x10_1 + 1)), Q1, Q1, H', ⟨by have := HK1.out; omega⟩, Q4⟩

/-! ### impl_quorum: function 65 -/
def impl_quorum.f (k : Nat) (l0_0 : List Int) (l0_1 : List Int) (l0_2 : List Int) (l1 : List Int) : Option (Bool) := (impl_hasMajority.f k l0_0 l1).bind fun t580 => (if t580 = true then (if (l0_1.length : Int) = 0 then (some true) else ((impl_hasMajority.f k l0_1 l1).bind fun t581 => (some t581))) else (some false))
theorem impl_quorum.mono : ∀ a0 a1 a2 a3 k, LeO (impl_quorum.f k a0 a1 a2 a3) (impl_quorum.f (k + 1) a0 a1 a2 a3) := by
 intro a0 a1 a2 a3 k
 unfold impl_quorum.f
 repeat' first
     | (with_reducible exact impl_hasMajority.mono _ _ _)
     | (with_reducible exact LeO.refl _)
     | (with_reducible exact LeO.none _)
     | (with_reducible refine LeO.ite ?_ ?_)
     | (with_reducible refine LeO.bind ?_ (fun _ => ?_))
     | exact impl_hasMajority.mono _ _ _
     | exact LeO.none _
     | refine LeO.ite ?_ ?_
     | refine LeO.bind ?_ (fun _ => ?_)
set_option maxHeartbeats 8000000 in
set_option maxRecDepth 100000 in
theorem impl_quorum.calls (k : Nat) (A0_0 : Option Addr) (c0_0 : Nat) (l0_0 : List Int) (A0_1 : Option Addr) (c0_1 : Nat) (l0_1 : List Int) (A0_2 : Option Addr) (c0_2 : Nat) (l0_2 : List Int) (A1 : Option Addr) (c1 : Nat) (l1 : List Int) (r : Bool) (w : World) (hr0_0 : Kd.C (Kd.int .i64) w A0_0 l0_0.length l0_0) (hc0_0 : l0_0.length ≤ c0_0) (hr0_1 : Kd.C (Kd.int .i64) w A0_1 l0_1.length l0_1) (hc0_1 : l0_1.length ≤ c0_1) (hr0_2 : Kd.C (Kd.int .i64) w A0_2 l0_2.length l0_2) (hc0_2 : l0_2.length ≤ c0_2) (hr1 : Kd.C (Kd.int .i64) w A1 l1.length l1) (hc1 : l1.length ≤ c1) (h : impl_quorum.f k l0_0 l0_1 l0_2 l1 = some r) :
   Calls Try.prog 65 #[.agg #[.slice A0_0 l0_0.length c0_0, .slice A0_1 l0_1.length c0_1, .slice A0_2 l0_2.length c0_2], .slice A1 l1.length c1] w fun e w' => e = .returned (.bool r) ∧ Below w.heap.size w w' := by
 have hu26 := Try.underlying26
 have HR0_0 := am hr0_0
 have HC0_0 := am hc0_0
 clear hr0_0 hc0_0
 have HR0_1 := am hr0_1
 have HC0_1 := am hc0_1
 clear hr0_1 hc0_1
 have HR0_2 := am hr0_2
 have HC0_2 := am hc0_2
 clear hr0_2 hc0_2
 have HR1 := am hr1
 have HC1 := am hc1
 clear hr1 hc1
 have HB := am (Below.refl w.heap.size w)
 have H : ((impl_hasMajority.f k l0_0 l1).bind fun t580 => (if t580 = true then (if (l0_1.length : Int) = 0 then (some true) else ((impl_hasMajority.f k l0_1 l1).bind fun t581 => (some t581))) else (some false))) = some r := h
 clear h
 replace H := Option.bind_eq_some_iff.mp H
 obtain ⟨t580, A30, H⟩ := H
 have A3 := am A30
 clear A30
 by_cases c4 : t580 = true
 rotate_left
 · replace c4 := Bool.eq_false_iff.mpr c4
   subst c4
   rw [nf] at H
   obtain rfl := sj H
   go_enter Try.func65, Try.ntmps65
   go_wp2_with (first | ((with_reducible refine gate_dst (N := 2) rfl ?_); (try (refine gate_guard (by rfl) ?_; dsimp only)); refine box_event ?hg (N := 2) ?hd (cs := #[.slice A0_0 l0_0.length c0_0, .slice A0_1 l0_1.length c0_1, .slice A0_2 l0_2.length c0_2]) (t := 26) ?hr ?_; (case hd => rfl); (case hg => rfl); (case hr => first | (go_simp; done) | (go_simp; rfl)); intro gb579 hg w11 hbox hb; have BK579 := am (hbox); have GW579 := am ((by rw [hg]; exact (below_size Q0) : w.heap.size ≤ gb579)); have GE579 := am ((by rw [hg]; exact (below_size Q0) : w.heap.size ≤ gb579)); replace HB := am (below_step Q0 hb); clear hb hbox hg; obtain ⟨hcz12_0, hcz12_1, hcz12_2, hfz12_0, hfz12_1, hfz12_2⟩ := bc3f w11 BK579.out) | ((with_reducible refine gate_callee (f := 84) rfl ?_); refine goesL_ (some 8) rfl rfl Try.func84 kr rfl #[.slice A0_0 l0_0.length c0_0, .slice A1 l1.length c1] rfl Q3 ?_; (with_reducible refine (impl_hasMajority.calls k _ _ l0_0 _ _ l1 false _ ?side1 ?side2 ?side3 ?side4 A3.out).mono ?_); (case side1 => exact Q6); (case side2 => exact HC0_0.out); (case side3 => exact Q9); (case side4 => exact HC1.out); rintro e w' ⟨rfl, ⟨nd, rfl⟩⟩; refine ⟨_, rfl, ?_⟩))
   go_ret
   exact ⟨er, Q0⟩
 subst c4
 rw [if_pos rfl] at H
 by_cases c5 : (l0_1.length : Int) = 0
 · rw [if_pos c5] at H
   have c5b0 : ((l0_1.length : Int) == 0) = true := beq_iff_eq.mpr c5
   have c5b1 : ((l0_1.length : Int) != 0) = false := bne_eq_false_iff_eq.mpr c5
   clear c5
   obtain rfl := sj H
   go_enter Try.func65, Try.ntmps65
   go_wp2_with (first | ((with_reducible refine gate_dst (N := 2) rfl ?_); (try (refine gate_guard (by rfl) ?_; dsimp only)); refine box_event ?hg (N := 2) ?hd (cs := #[.slice A0_0 l0_0.length c0_0, .slice A0_1 l0_1.length c0_1, .slice A0_2 l0_2.length c0_2]) (t := 26) ?hr ?_; (case hd => rfl); (case hg => rfl); (case hr => first | (go_simp; done) | (go_simp; rfl)); intro gb579 hg w6 hbox hb; have BK579 := am (hbox); have GW579 := am ((by rw [hg]; exact (below_size Q0) : w.heap.size ≤ gb579)); have GE579 := am ((by rw [hg]; exact (below_size Q0) : w.heap.size ≤ gb579)); replace HB := am (below_step Q0 hb); clear hb hbox hg; obtain ⟨hcz7_0, hcz7_1, hcz7_2, hfz7_0, hfz7_1, hfz7_2⟩ := bc3f w6 BK579.out) | ((with_reducible refine gate_callee (f := 84) rfl ?_); refine goesL_ (some 8) rfl rfl Try.func84 kr rfl #[.slice A0_0 l0_0.length c0_0, .slice A1 l1.length c1] rfl Q3 ?_; (with_reducible refine (impl_hasMajority.calls k _ _ l0_0 _ _ l1 true _ ?side1 ?side2 ?side3 ?side4 A3.out).mono ?_); (case side1 => exact Q6); (case side2 => exact HC0_0.out); (case side3 => exact Q9); (case side4 => exact HC1.out); rintro e w' ⟨rfl, ⟨nd, rfl⟩⟩; refine ⟨_, rfl, ?_⟩))
   go_ret
   exact ⟨er, Q0⟩
 rw [if_neg c5] at H
 have c5b0 : ((l0_1.length : Int) == 0) = false := beq_eq_false_iff_ne.mpr c5
 have c5b1 : ((l0_1.length : Int) != 0) = true := bne_iff_ne.mpr c5
 have c5b2 : ¬ (l0_1 = []) := fun h_ => c5 (by rw [h_]; rfl)
 replace H := Option.bind_eq_some_iff.mp H
 obtain ⟨t581, A80, H⟩ := H
 replace H : (some t581) = some r := H
 have A8 := am A80
 clear A80
 obtain rfl := sj H
 go_enter Try.func65, Try.ntmps65
 go_wp2_with (first | ((with_reducible refine gate_dst (N := 2) rfl ?_); (try (refine gate_guard (by rfl) ?_; dsimp only)); refine box_event ?hg (N := 2) ?hd (cs := #[.slice A0_0 l0_0.length c0_0, .slice A0_1 l0_1.length c0_1, .slice A0_2 l0_2.length c0_2]) (t := 26) ?hr ?_; (case hd => rfl); (case hg => rfl); (case hr => first | (go_simp; done) | (go_simp; rfl)); intro gb579 hg w9 hbox hb; have BK579 := am (hbox); have GW579 := am ((by rw [hg]; exact (below_size Q0) : w.heap.size ≤ gb579)); have GE579 := am ((by rw [hg]; exact (below_size Q0) : w.heap.size ≤ gb579)); replace HB := am (below_step Q0 hb); clear hb hbox hg; obtain ⟨hcz10_0, hcz10_1, hcz10_2, hfz10_0, hfz10_1, hfz10_2⟩ := bc3f w9 BK579.out) | ((with_reducible refine gate_callee (f := 84) rfl ?_); refine goesL_ (some 8) rfl rfl Try.func84 kr rfl #[.slice A0_0 l0_0.length c0_0, .slice A1 l1.length c1] rfl Q3 ?_; (with_reducible refine (impl_hasMajority.calls k _ _ l0_0 _ _ l1 true _ ?side1 ?side2 ?side3 ?side4 A3.out).mono ?_); (case side1 => exact Q6); (case side2 => exact HC0_0.out); (case side3 => exact Q9); (case side4 => exact HC1.out); rintro e w' ⟨rfl, ⟨nd, rfl⟩⟩; refine ⟨_, rfl, ?_⟩) | (go_at_call 84; (with_reducible refine (impl_hasMajority.calls k _ _ l0_1 _ _ l1 t581 _ ?side1 ?side2 ?side3 ?side4 A8.out).mono ?_); (case side1 => exact (by repeat (first | exact (Kd.C_below HR0_1.out Q0) | (with_reducible refine Kd.C_alloc ?_ _) | (with_reducible refine Kd.C_drewN ?_ _) | (with_reducible refine Kd.C_drew ?_)))); (case side2 => exact HC0_1.out); (case side3 => exact (by repeat (first | exact (Kd.C_below HR1.out Q0) | (with_reducible refine Kd.C_alloc ?_ _) | (with_reducible refine Kd.C_drewN ?_ _) | (with_reducible refine Kd.C_drew ?_)))); (case side4 => exact HC1.out); rintro e w' ⟨rfl, ⟨nd, rfl⟩⟩))
 go_ret
 exact ⟨er, Q0⟩

/-! ### impl_Quorum: function 40 -/
def impl_Quorum.f (k : Nat) (l0_0 : List Int) (l0_1 : List Int) (l0_2 : List Int) (l1 : List Int) : Option (Bool) := (impl_isConf.f k l0_0 l0_1 l0_2).bind fun t583 => (if t583 = true then ((impl_quorum.f k l0_0 l0_1 l0_2 l1).bind fun t584 => (some t584)) else (some false))
theorem impl_Quorum.mono : ∀ a0 a1 a2 a3 k, LeO (impl_Quorum.f k a0 a1 a2 a3) (impl_Quorum.f (k + 1) a0 a1 a2 a3) := by
 intro a0 a1 a2 a3 k
 unfold impl_Quorum.f
 repeat' first
     | (with_reducible exact impl_isConf.mono _ _ _ _)
     | (with_reducible exact impl_quorum.mono _ _ _ _ _)
     | (with_reducible exact LeO.refl _)
     | (with_reducible exact LeO.none _)
     | (with_reducible refine LeO.ite ?_ ?_)
     | (with_reducible refine LeO.bind ?_ (fun _ => ?_))
     | exact impl_isConf.mono _ _ _ _
     | exact impl_quorum.mono _ _ _ _ _
     | exact LeO.none _
     | refine LeO.ite ?_ ?_
     | refine LeO.bind ?_ (fun _ => ?_)
set_option maxHeartbeats 8000000 in
set_option maxRecDepth 100000 in
theorem impl_Quorum.calls (k : Nat) (A0_0 : Option Addr) (c0_0 : Nat) (l0_0 : List Int) (A0_1 : Option Addr) (c0_1 : Nat) (l0_1 : List Int) (A0_2 : Option Addr) (c0_2 : Nat) (l0_2 : List Int) (A1 : Option Addr) (c1 : Nat) (l1 : List Int) (r : Bool) (w : World) (hr0_0 : Kd.C (Kd.int .i64) w A0_0 l0_0.length l0_0) (hc0_0 : l0_0.length ≤ c0_0) (hr0_1 : Kd.C (Kd.int .i64) w A0_1 l0_1.length l0_1) (hc0_1 : l0_1.length ≤ c0_1) (hr0_2 : Kd.C (Kd.int .i64) w A0_2 l0_2.length l0_2) (hc0_2 : l0_2.length ≤ c0_2) (hr1 : Kd.C (Kd.int .i64) w A1 l1.length l1) (hc1 : l1.length ≤ c1) (h : impl_Quorum.f k l0_0 l0_1 l0_2 l1 = some r) :
   Calls Try.prog 40 #[.agg #[.slice A0_0 l0_0.length c0_0, .slice A0_1 l0_1.length c0_1, .slice A0_2 l0_2.length c0_2], .slice A1 l1.length c1] w fun e w' => e = .returned (.bool r) ∧ Below w.heap.size w w' := by
 have hu26 := Try.underlying26
 have HR0_0 := am hr0_0
 have HC0_0 := am hc0_0
 clear hr0_0 hc0_0
 have HR0_1 := am hr0_1
 have HC0_1 := am hc0_1
 clear hr0_1 hc0_1
 have HR0_2 := am hr0_2
 have HC0_2 := am hc0_2
 clear hr0_2 hc0_2
 have HR1 := am hr1
 have HC1 := am hc1
 clear hr1 hc1
 have HB := am (Below.refl w.heap.size w)
 have H : ((impl_isConf.f k l0_0 l0_1 l0_2).bind fun t583 => (if t583 = true then ((impl_quorum.f k l0_0 l0_1 l0_2 l1).bind fun t584 => (some t584)) else (some false))) = some r := h
 clear h
 replace H := Option.bind_eq_some_iff.mp H
 obtain ⟨t583, A30, H⟩ := H
 have A3 := am A30
 clear A30
 by_cases c4 : t583 = true
 rotate_left
 · replace c4 := Bool.eq_false_iff.mpr c4
   subst c4
   rw [nf] at H
   obtain rfl := sj H
   go_enter Try.func40, Try.ntmps40
   go_wp2_with (first | ((with_reducible refine gate_dst (N := 2) rfl ?_); refine box_event ?hg (N := 2) ?hd (cs := #[.slice A0_0 l0_0.length c0_0, .slice A0_1 l0_1.length c0_1, .slice A0_2 l0_2.length c0_2]) (t := 26) ?hr ?_; (case hd => rfl); (case hg => rfl); (case hr => first | (go_simp; done) | (go_simp; rfl)); intro gb582 hg w11 hbox hb; have BK582 := am (hbox); have GW582 := am ((by rw [hg]; exact (below_size Q0) : w.heap.size ≤ gb582)); have GE582 := am ((by rw [hg]; exact (below_size Q0) : w.heap.size ≤ gb582)); replace HB := am (below_step Q0 hb); clear hb hbox hg; obtain ⟨hcz12_0, hcz12_1, hcz12_2⟩ := bc3 w11 BK582.out) | ((with_reducible refine gate_callee (f := 48) rfl ?_); refine goesL_ (some 6) rfl rfl Try.func48 kr rfl #[.agg #[.slice A0_0 l0_0.length c0_0, .slice A0_1 l0_1.length c0_1, .slice A0_2 l0_2.length c0_2]] rfl Q3 ?_; (with_reducible refine (impl_isConf.calls k _ _ l0_0 _ _ l0_1 _ _ l0_2 false _ ?side1 ?side2 ?side3 ?side4 ?side5 ?side6 A3.out).mono ?_); (case side1 => exact Q6); (case side2 => exact HC0_0.out); (case side3 => exact Q8); (case side4 => exact HC0_1.out); (case side5 => exact Q7); (case side6 => exact HC0_2.out); rintro e w13 ⟨rfl, hb⟩; refine ⟨_, rfl, ?_⟩; replace BK582 := am (blk_below (g := gb582) (o := .cells #[.slice A0_0 l0_0.length c0_0, .slice A0_1 l0_1.length c0_1, .slice A0_2 l0_2.length c0_2] 26 (0, 0)) u12_15 hb); replace HB := am (below_step Q0 hb); (try clear hb); (try clear hb2); (try clear hk); (try clear hi)))
   go_ret
   exact ⟨er, Q0⟩
 subst c4
 rw [if_pos rfl] at H
 replace H := Option.bind_eq_some_iff.mp H
 obtain ⟨t584, A50, H⟩ := H
 replace H : (some t584) = some r := H
 have A5 := am A50
 clear A50
 obtain rfl := sj H
 go_enter Try.func40, Try.ntmps40
 go_wp2_with (first | ((with_reducible refine gate_dst (N := 2) rfl ?_); refine box_event ?hg (N := 2) ?hd (cs := #[.slice A0_0 l0_0.length c0_0, .slice A0_1 l0_1.length c0_1, .slice A0_2 l0_2.length c0_2]) (t := 26) ?hr ?_; (case hd => rfl); (case hg => rfl); (case hr => first | (go_simp; done) | (go_simp; rfl)); intro gb582 hg w6 hbox hb; have BK582 := am (hbox); have GW582 := am ((by rw [hg]; exact (below_size Q0) : w.heap.size ≤ gb582)); have GE582 := am ((by rw [hg]; exact (below_size Q0) : w.heap.size ≤ gb582)); replace HB := am (below_step Q0 hb); clear hb hbox hg; obtain ⟨hcz7_0, hcz7_1, hcz7_2⟩ := bc3 w6 BK582.out) | ((with_reducible refine gate_callee (f := 48) rfl ?_); refine goesL_ (some 6) rfl rfl Try.func48 kr rfl #[.agg #[.slice A0_0 l0_0.length c0_0, .slice A0_1 l0_1.length c0_1, .slice A0_2 l0_2.length c0_2]] rfl Q3 ?_; (with_reducible refine (impl_isConf.calls k _ _ l0_0 _ _ l0_1 _ _ l0_2 true _ ?side1 ?side2 ?side3 ?side4 ?side5 ?side6 A3.out).mono ?_); (case side1 => exact Q6); (case side2 => exact HC0_0.out); (case side3 => exact Q8); (case side4 => exact HC0_1.out); (case side5 => exact Q7); (case side6 => exact HC0_2.out); rintro e w8 ⟨rfl, hb⟩; refine ⟨_, rfl, ?_⟩; replace BK582 := am (blk_below (g := gb582) (o := .cells #[.slice A0_0 l0_0.length c0_0, .slice A0_1 l0_1.length c0_1, .slice A0_2 l0_2.length c0_2] 26 (0, 0)) u12_15 hb); replace HB := am (below_step Q0 hb); (try clear hb); (try clear hb2); (try clear hk); (try clear hi); obtain ⟨hcz9_0, hcz9_1, hcz9_2⟩ := bc3 w8 BK582.out) | (go_at_call 65; (with_reducible refine (impl_quorum.calls k _ _ l0_0 _ _ l0_1 _ _ l0_2 _ _ l1 t584 _ ?side1 ?side2 ?side3 ?side4 ?side5 ?side6 ?side7 ?side8 A5.out).mono ?_); (case side1 => exact Q6); (case side2 => exact HC0_0.out); (case side3 => exact Q8); (case side4 => exact HC0_1.out); (case side5 => exact Q7); (case side6 => exact HC0_2.out); (case side7 => exact Q9); (case side8 => exact HC1.out); rintro e w10 ⟨rfl, hb⟩; replace BK582 := am (blk_below (g := gb582) (o := .cells #[.slice A0_0 l0_0.length c0_0, .slice A0_1 l0_1.length c0_1, .slice A0_2 l0_2.length c0_2] 26 (0, 0)) u12_15 hb); replace HB := am (below_step Q0 hb); (try clear hb); (try clear hb2); (try clear hk); (try clear hi)))
 go_ret
 exact ⟨er, Q0⟩

/-! ### spec_l06Half: function 66 -/
def spec_l06Half.l0 : Nat → List Int → List Int → Int → Int → Option (Bool)
 | 0, _, _, _, _ => none
 | k + 1, x0, x1, x5, x6 => if x6 < (x0.length : Int) then (if 0 ≤ x6 then ((spec_l01Has.f k x1 (rd x0 x6)).bind fun t586 => (if t586 = true then (spec_l06Half.l0 k x0 x1 (wrap64 (x5 + 1)) (wrap64 (x6 + 1))) else (spec_l06Half.l0 k x0 x1 x5 (wrap64 (x6 + 1))))) else (none)) else (some (decide ((wrap64 (2 * x5)) > (x0.length : Int))))
def spec_l06Half.f (k : Nat) (l0 : List Int) (l1 : List Int) : Option (Bool) := spec_l06Half.l0 k l0 l1 0 0
theorem spec_l06Half.mono_l : ∀ k, (∀ y0 y1 y2 y3, LeO (spec_l06Half.l0 k y0 y1 y2 y3) (spec_l06Half.l0 (k + 1) y0 y1 y2 y3))
 | 0 => fun _ _ _ _ r h => by simp [spec_l06Half.l0] at h
 | k + 1 => by
   have ih0 := spec_l06Half.mono_l k
   · intro y0 y1 y2 y3
     unfold spec_l06Half.l0
     repeat' first
     | (with_reducible exact ih0 _ _ _ _)
     | (with_reducible exact spec_l01Has.mono _ _ _)
     | (with_reducible exact LeO.refl _)
     | (with_reducible exact LeO.none _)
     | (with_reducible refine LeO.ite ?_ ?_)
     | (with_reducible refine LeO.bind ?_ (fun _ => ?_))
     | exact ih0 _ _ _ _
     | exact spec_l01Has.mono _ _ _
     | exact LeO.none _
     | refine LeO.ite ?_ ?_
     | refine LeO.bind ?_ (fun _ => ?_)
theorem spec_l06Half.mono : ∀ a0 a1 k, LeO (spec_l06Half.f k a0 a1) (spec_l06Half.f (k + 1) a0 a1) := by
 intro a0 a1 k
 have ih0 := spec_l06Half.mono_l k
 unfold spec_l06Half.f
 repeat' first
     | (with_reducible exact ih0 _ _ _ _)
     | (with_reducible exact spec_l01Has.mono _ _ _)
     | (with_reducible exact LeO.refl _)
     | (with_reducible exact LeO.none _)
     | (with_reducible refine LeO.ite ?_ ?_)
     | (with_reducible refine LeO.bind ?_ (fun _ => ?_))
     | exact ih0 _ _ _ _
     | exact spec_l01Has.mono _ _ _
     | exact LeO.none _
     | refine LeO.ite ?_ ?_
     | refine LeO.bind ?_ (fun _ => ?_)
set_option maxHeartbeats 8000000 in
set_option maxRecDepth 100000 in
theorem spec_l06Half.calls (k : Nat) (A0 : Option Addr) (c0 : Nat) (l0 : List Int) (A1 : Option Addr) (c1 : Nat) (l1 : List Int) (r : Bool) (w : World) (hr0 : Kd.C (Kd.int .i64) w A0 l0.length l0) (hc0 : l0.length ≤ c0) (hr1 : Kd.C (Kd.int .i64) w A1 l1.length l1) (hc1 : l1.length ≤ c1) (h : spec_l06Half.f k l0 l1 = some r) :
   Calls Try.prog 66 #[.slice A0 l0.length c0, .slice A1 l1.length c1] w fun e w' => e = .returned (.bool r) ∧ Drawn0 w w' := by
 have HR0 := am hr0
 have HC0 := am hc0
 clear hr0 hc0
 have HR1 := am hr1
 have HC1 := am hc1
 clear hr1 hc1
 have H : (spec_l06Half.l0 k l0 l1 0 0) = some r := h
 clear h
 have H' := am H
 clear H
 go_enter Try.func66, Try.ntmps66
 go_wp2
 go_loopg [5, 6] k (fun kq v5 v6 w' => ∃ (x5_1 : Int) (x6_1 : Int), v5 = .int .i64 x5_1 ∧ v6 = .int .i64 x6_1 ∧ Aside0 (spec_l06Half.l0 kq l0 l1 x5_1 x6_1 = some r) ∧ Aside0 (kq ≤ k) ∧ Drawn0 w w')
 case atStart => exact ⟨(0), (0), Q1, Q1, H', ⟨Nat.le_refl _⟩, Q4⟩
 clear H'
 try clear c1
 obtain ⟨x5_1, x6_1, rfl, rfl, HA, HK1, ⟨m1, rfl⟩⟩ := hrel
 cases gk with
 | zero => exact absurd HA.out (by simp [spec_l06Half.l0])
 | succ k1 =>
   have H := HA.out
   clear HA
   simp only [spec_l06Half.l0] at H
   by_cases c3 : x6_1 < (l0.length : Int)
   rotate_left
   · rw [if_neg c3] at H
     have c3b0 : decide (x6_1 < (l0.length : Int)) = false := decide_eq_false c3
     clear c3
     obtain rfl := sj H
     go_wp2
     go_ret
     exact ⟨by first | rfl | (simp; done) | (simp [*]; done), Q4⟩
   rw [if_pos c3] at H
   have c3b0 : decide (x6_1 < (l0.length : Int)) = true := decide_eq_true c3
   clear c3
   by_cases c4 : 0 ≤ x6_1
   rotate_left
   · rw [if_neg c4] at H
     exact absurd H (by simp)
   rw [if_pos c4] at H
   have c4b0 : decide (0 ≤ x6_1) = true := decide_eq_true c4
   clear c4
   replace H := Option.bind_eq_some_iff.mp H
   obtain ⟨t586, A50, H⟩ := H
   have A5 := am A50
   clear A50
   have H9 := am H
   clear H
   have p585 : 0 ≤ (x6_1 : Int) := of_decide_eq_true Q2
   have q585 : x6_1 < (l0.length : Int) := of_decide_eq_true Q2
   obtain ⟨ad585, e585, hx585_0⟩ := Kd.at_int HR0.out x6_1 p585 q585
   cases e585
   replace p585 := eq_true p585
   replace q585 := eq_true q585
   go_upto_if 18 with (first | ((with_reducible refine gate_callee (f := 54) rfl ?_); refine goesL_ (some 18) rfl rfl Try.func54 kr rfl #[.slice A1 l1.length c1, .int .i64 (rd l0 x6_1)] rfl Q3 ?_; (with_reducible refine (spec_l01Has.calls k1 _ _ l1 (rd l0 x6_1) t586 _ ?side1 ?side2 A5.out).mono ?_); (case side1 => exact u12_16); (case side2 => exact HC1.out); rintro e w' ⟨rfl, ⟨nd, rfl⟩⟩; refine ⟨_, rfl, ?_⟩))
   have H := H9.out
   clear H9
   by_cases c6 : t586 = true
   · subst c6
     rw [if_pos rfl] at H
     have H' := am H
     clear H
     go_wp2
     go_roundg k1
     case measure => have := HK1.out; omega
     case rel => exact ⟨(wrap64 (x5_1 + 1)), (wrap64 (x6_1 + 1)), Q1, Q1, H', ⟨by have := HK1.out; omega⟩, Q4⟩
   replace c6 := Bool.eq_false_iff.mpr c6
   subst c6
   rw [nf] at H
   have H' := am H
   clear H
   go_wp2
   go_roundg k1
   case measure => have := HK1.out; omega
   case rel => exact ⟨(x5_1), (wrap64 (x6_1 + 1)), Q1, Q1, H', ⟨by have := HK1.out; omega⟩, Q4⟩

/-! ### spec_Quorum: function 42 -/
def spec_Quorum.f (k : Nat) (l0_0 : List Int) (l0_1 : List Int) (l0_2 : List Int) (l1 : List Int) : Option (Bool) := (spec_ConfOk.f k l0_0 l0_1 l0_2).bind fun t588 => (if t588 = true then ((spec_l06Half.f k l0_0 l1).bind fun t589 => (if t589 = true then (if (l0_1.length : Int) = 0 then (some true) else ((spec_l06Half.f k l0_1 l1).bind fun t590 => (some t590))) else (some false))) else (some false))
theorem spec_Quorum.mono : ∀ a0 a1 a2 a3 k, LeO (spec_Quorum.f k a0 a1 a2 a3) (spec_Quorum.f (k + 1) a0 a1 a2 a3) := by
 intro a0 a1 a2 a3 k
 unfold spec_Quorum.f
 repeat' first
     | (with_reducible exact spec_ConfOk.mono _ _ _ _)
     | (with_reducible exact spec_l06Half.mono _ _ _)
     | (with_reducible exact LeO.refl _)
     | (with_reducible exact LeO.none _)
     | (with_reducible refine LeO.ite ?_ ?_)
     | (with_reducible refine LeO.bind ?_ (fun _ => ?_))
     | exact spec_ConfOk.mono _ _ _ _
     | exact spec_l06Half.mono _ _ _
     | exact LeO.none _
     | refine LeO.ite ?_ ?_
     | refine LeO.bind ?_ (fun _ => ?_)
set_option maxHeartbeats 8000000 in
set_option maxRecDepth 100000 in
theorem spec_Quorum.calls (k : Nat) (A0_0 : Option Addr) (c0_0 : Nat) (l0_0 : List Int) (A0_1 : Option Addr) (c0_1 : Nat) (l0_1 : List Int) (A0_2 : Option Addr) (c0_2 : Nat) (l0_2 : List Int) (A1 : Option Addr) (c1 : Nat) (l1 : List Int) (r : Bool) (w : World) (hr0_0 : Kd.C (Kd.int .i64) w A0_0 l0_0.length l0_0) (hc0_0 : l0_0.length ≤ c0_0) (hr0_1 : Kd.C (Kd.int .i64) w A0_1 l0_1.length l0_1) (hc0_1 : l0_1.length ≤ c0_1) (hr0_2 : Kd.C (Kd.int .i64) w A0_2 l0_2.length l0_2) (hc0_2 : l0_2.length ≤ c0_2) (hr1 : Kd.C (Kd.int .i64) w A1 l1.length l1) (hc1 : l1.length ≤ c1) (h : spec_Quorum.f k l0_0 l0_1 l0_2 l1 = some r) :
   Calls Try.prog 42 #[.agg #[.slice A0_0 l0_0.length c0_0, .slice A0_1 l0_1.length c0_1, .slice A0_2 l0_2.length c0_2], .slice A1 l1.length c1] w fun e w' => e = .returned (.bool r) ∧ Below w.heap.size w w' := by
 have hu26 := Try.underlying26
 have HR0_0 := am hr0_0
 have HC0_0 := am hc0_0
 clear hr0_0 hc0_0
 have HR0_1 := am hr0_1
 have HC0_1 := am hc0_1
 clear hr0_1 hc0_1
 have HR0_2 := am hr0_2
 have HC0_2 := am hc0_2
 clear hr0_2 hc0_2
 have HR1 := am hr1
 have HC1 := am hc1
 clear hr1 hc1
 have HB := am (Below.refl w.heap.size w)
 have H : ((spec_ConfOk.f k l0_0 l0_1 l0_2).bind fun t588 => (if t588 = true then ((spec_l06Half.f k l0_0 l1).bind fun t589 => (if t589 = true then (if (l0_1.length : Int) = 0 then (some true) else ((spec_l06Half.f k l0_1 l1).bind fun t590 => (some t590))) else (some false))) else (some false))) = some r := h
 clear h
 replace H := Option.bind_eq_some_iff.mp H
 obtain ⟨t588, A30, H⟩ := H
 have A3 := am A30
 clear A30
 by_cases c4 : t588 = true
 rotate_left
 · replace c4 := Bool.eq_false_iff.mpr c4
   subst c4
   rw [nf] at H
   obtain rfl := sj H
   go_enter Try.func42, Try.ntmps42
   go_wp2_with (first | ((with_reducible refine gate_dst (N := 2) rfl ?_); (try (refine gate_guard (by rfl) ?_; dsimp only)); refine box_event ?hg (N := 2) ?hd (cs := #[.slice A0_0 l0_0.length c0_0, .slice A0_1 l0_1.length c0_1, .slice A0_2 l0_2.length c0_2]) (t := 26) ?hr ?_; (case hd => rfl); (case hg => rfl); (case hr => first | (go_simp; done) | (go_simp; rfl)); intro gb587 hg w21 hbox hb; have BK587 := am (hbox); have GW587 := am ((by rw [hg]; exact (below_size Q0) : w.heap.size ≤ gb587)); have GE587 := am ((by rw [hg]; exact (below_size Q0) : w.heap.size ≤ gb587)); replace HB := am (below_step Q0 hb); clear hb hbox hg; obtain ⟨hcz22_0, hcz22_1, hcz22_2⟩ := bc3 w21 BK587.out) | ((with_reducible refine gate_callee (f := 53) rfl ?_); refine goesL_ (some 6) rfl rfl Try.func53 kr rfl #[.agg #[.slice A0_0 l0_0.length c0_0, .slice A0_1 l0_1.length c0_1, .slice A0_2 l0_2.length c0_2]] rfl Q3 ?_; (with_reducible refine (spec_ConfOk.calls k _ _ l0_0 _ _ l0_1 _ _ l0_2 false _ ?side1 ?side2 ?side3 ?side4 ?side5 ?side6 A3.out).mono ?_); (case side1 => exact Q6); (case side2 => exact HC0_0.out); (case side3 => exact Q8); (case side4 => exact HC0_1.out); (case side5 => exact Q7); (case side6 => exact HC0_2.out); rintro e w23 ⟨rfl, hb⟩; refine ⟨_, rfl, ?_⟩; replace BK587 := am (blk_below (g := gb587) (o := .cells #[.slice A0_0 l0_0.length c0_0, .slice A0_1 l0_1.length c0_1, .slice A0_2 l0_2.length c0_2] 26 (0, 0)) u12_13 hb); replace HB := am (below_step Q0 hb); (try clear hb); (try clear hb2); (try clear hk); (try clear hi)))
   go_ret
   exact ⟨er, Q0⟩
 subst c4
 rw [if_pos rfl] at H
 replace H := Option.bind_eq_some_iff.mp H
 obtain ⟨t589, A50, H⟩ := H
 have A5 := am A50
 clear A50
 by_cases c6 : t589 = true
 rotate_left
 · replace c6 := Bool.eq_false_iff.mpr c6
   subst c6
   rw [nf] at H
   obtain rfl := sj H
   go_enter Try.func42, Try.ntmps42
   go_wp2_with (first | ((with_reducible refine gate_dst (N := 2) rfl ?_); (try (refine gate_guard (by rfl) ?_; dsimp only)); refine box_event ?hg (N := 2) ?hd (cs := #[.slice A0_0 l0_0.length c0_0, .slice A0_1 l0_1.length c0_1, .slice A0_2 l0_2.length c0_2]) (t := 26) ?hr ?_; (case hd => rfl); (case hg => rfl); (case hr => first | (go_simp; done) | (go_simp; rfl)); intro gb587 hg w17 hbox hb; have BK587 := am (hbox); have GW587 := am ((by rw [hg]; exact (below_size Q0) : w.heap.size ≤ gb587)); have GE587 := am ((by rw [hg]; exact (below_size Q0) : w.heap.size ≤ gb587)); replace HB := am (below_step Q0 hb); clear hb hbox hg; obtain ⟨hcz18_0, hcz18_1, hcz18_2⟩ := bc3 w17 BK587.out) | ((with_reducible refine gate_callee (f := 53) rfl ?_); refine goesL_ (some 6) rfl rfl Try.func53 kr rfl #[.agg #[.slice A0_0 l0_0.length c0_0, .slice A0_1 l0_1.length c0_1, .slice A0_2 l0_2.length c0_2]] rfl Q3 ?_; (with_reducible refine (spec_ConfOk.calls k _ _ l0_0 _ _ l0_1 _ _ l0_2 true _ ?side1 ?side2 ?side3 ?side4 ?side5 ?side6 A3.out).mono ?_); (case side1 => exact Q6); (case side2 => exact HC0_0.out); (case side3 => exact Q8); (case side4 => exact HC0_1.out); (case side5 => exact Q7); (case side6 => exact HC0_2.out); rintro e w19 ⟨rfl, hb⟩; refine ⟨_, rfl, ?_⟩; replace BK587 := am (blk_below (g := gb587) (o := .cells #[.slice A0_0 l0_0.length c0_0, .slice A0_1 l0_1.length c0_1, .slice A0_2 l0_2.length c0_2] 26 (0, 0)) u12_13 hb); replace HB := am (below_step Q0 hb); (try clear hb); (try clear hb2); (try clear hk); (try clear hi); obtain ⟨hcz20_0, hcz20_1, hcz20_2⟩ := bc3 w19 BK587.out) | (go_at_call 66; (with_reducible refine (spec_l06Half.calls k _ _ l0_0 _ _ l1 false _ ?side1 ?side2 ?side3 ?side4 A5.out).mono ?_); (case side1 => exact Q6); (case side2 => exact HC0_0.out); (case side3 => exact Q9); (case side4 => exact HC1.out); rintro e w' ⟨rfl, ⟨nd, rfl⟩⟩))
   go_ret
   exact ⟨er, Q0⟩
 subst c6
 rw [if_pos rfl] at H
 by_cases c7 : (l0_1.length : Int) = 0
 · rw [if_pos c7] at H
   have c7b0 : ((l0_1.length : Int) == 0) = true := beq_iff_eq.mpr c7
   have c7b1 : ((l0_1.length : Int) != 0) = false := bne_eq_false_iff_eq.mpr c7
   clear c7
   obtain rfl := sj H
   go_enter Try.func42, Try.ntmps42
   go_wp2_with (first | ((with_reducible refine gate_dst (N := 2) rfl ?_); (try (refine gate_guard (by rfl) ?_; dsimp only)); refine box_event ?hg (N := 2) ?hd (cs := #[.slice A0_0 l0_0.length c0_0, .slice A0_1 l0_1.length c0_1, .slice A0_2 l0_2.length c0_2]) (t := 26) ?hr ?_; (case hd => rfl); (case hg => rfl); (case hr => first | (go_simp; done) | (go_simp; rfl)); intro gb587 hg w8 hbox hb; have BK587 := am (hbox); have GW587 := am ((by rw [hg]; exact (below_size Q0) : w.heap.size ≤ gb587)); have GE587 := am ((by rw [hg]; exact (below_size Q0) : w.heap.size ≤ gb587)); replace HB := am (below_step Q0 hb); clear hb hbox hg; obtain ⟨hcz9_0, hcz9_1, hcz9_2⟩ := bc3 w8 BK587.out) | ((with_reducible refine gate_callee (f := 53) rfl ?_); refine goesL_ (some 6) rfl rfl Try.func53 kr rfl #[.agg #[.slice A0_0 l0_0.length c0_0, .slice A0_1 l0_1.length c0_1, .slice A0_2 l0_2.length c0_2]] rfl Q3 ?_; (with_reducible refine (spec_ConfOk.calls k _ _ l0_0 _ _ l0_1 _ _ l0_2 true _ ?side1 ?side2 ?side3 ?side4 ?side5 ?side6 A3.out).mono ?_); (case side1 => exact Q6); (case side2 => exact HC0_0.out); (case side3 => exact Q8); (case side4 => exact HC0_1.out); (case side5 => exact Q7); (case side6 => exact HC0_2.out); rintro e w10 ⟨rfl, hb⟩; refine ⟨_, rfl, ?_⟩; replace BK587 := am (blk_below (g := gb587) (o := .cells #[.slice A0_0 l0_0.length c0_0, .slice A0_1 l0_1.length c0_1, .slice A0_2 l0_2.length c0_2] 26 (0, 0)) u12_13 hb); replace HB := am (below_step Q0 hb); (try clear hb); (try clear hb2); (try clear hk); (try clear hi); obtain ⟨hcz11_0, hcz11_1, hcz11_2⟩ := bc3 w10 BK587.out) | (go_at_call 66; (with_reducible refine (spec_l06Half.calls k _ _ l0_0 _ _ l1 true _ ?side1 ?side2 ?side3 ?side4 A5.out).mono ?_); (case side1 => exact Q6); (case side2 => exact HC0_0.out); (case side3 => exact Q9); (case side4 => exact HC1.out); rintro e w' ⟨rfl, ⟨nd, rfl⟩⟩))
   go_ret
   exact ⟨er, Q0⟩
 rw [if_neg c7] at H
 have c7b0 : ((l0_1.length : Int) == 0) = false := beq_eq_false_iff_ne.mpr c7
 have c7b1 : ((l0_1.length : Int) != 0) = true := bne_iff_ne.mpr c7
 have c7b2 : ¬ (l0_1 = []) := fun h_ => c7 (by rw [h_]; rfl)
 replace H := Option.bind_eq_some_iff.mp H
 obtain ⟨t590, A120, H⟩ := H
 replace H : (some t590) = some r := H
 have A12 := am A120
 clear A120
 obtain rfl := sj H
 go_enter Try.func42, Try.ntmps42
 go_wp2_with (first | ((with_reducible refine gate_dst (N := 2) rfl ?_); (try (refine gate_guard (by rfl) ?_; dsimp only)); refine box_event ?hg (N := 2) ?hd (cs := #[.slice A0_0 l0_0.length c0_0, .slice A0_1 l0_1.length c0_1, .slice A0_2 l0_2.length c0_2]) (t := 26) ?hr ?_; (case hd => rfl); (case hg => rfl); (case hr => first | (go_simp; done) | (go_simp; rfl)); intro gb587 hg w13 hbox hb; have BK587 := am (hbox); have GW587 := am ((by rw [hg]; exact (below_size Q0) : w.heap.size ≤ gb587)); have GE587 := am ((by rw [hg]; exact (below_size Q0) : w.heap.size ≤ gb587)); replace HB := am (below_step Q0 hb); clear hb hbox hg; obtain ⟨hcz14_0, hcz14_1, hcz14_2⟩ := bc3 w13 BK587.out) | ((with_reducible refine gate_callee (f := 53) rfl ?_); refine goesL_ (some 6) rfl rfl Try.func53 kr rfl #[.agg #[.slice A0_0 l0_0.length c0_0, .slice A0_1 l0_1.length c0_1, .slice A0_2 l0_2.length c0_2]] rfl Q3 ?_; (with_reducible refine (spec_ConfOk.calls k _ _ l0_0 _ _ l0_1 _ _ l0_2 true _ ?side1 ?side2 ?side3 ?side4 ?side5 ?side6 A3.out).mono ?_); (case side1 => exact Q6); (case side2 => exact HC0_0.out); (case side3 => exact Q8); (case side4 => exact HC0_1.out); (case side5 => exact Q7); (case side6 => exact HC0_2.out); rintro e w15 ⟨rfl, hb⟩; refine ⟨_, rfl, ?_⟩; replace BK587 := am (blk_below (g := gb587) (o := .cells #[.slice A0_0 l0_0.length c0_0, .slice A0_1 l0_1.length c0_1, .slice A0_2 l0_2.length c0_2] 26 (0, 0)) u12_13 hb); replace HB := am (below_step Q0 hb); (try clear hb); (try clear hb2); (try clear hk); (try clear hi); obtain ⟨hcz16_0, hcz16_1, hcz16_2⟩ := bc3 w15 BK587.out) | (go_at_call 66; (with_reducible refine (spec_l06Half.calls k _ _ l0_0 _ _ l1 true _ ?side1 ?side2 ?side3 ?side4 A5.out).mono ?_); (case side1 => exact Q6); (case side2 => exact HC0_0.out); (case side3 => exact Q9); (case side4 => exact HC1.out); rintro e w' ⟨rfl, ⟨nd, rfl⟩⟩) | (go_at_call 66; (with_reducible refine (spec_l06Half.calls k _ _ l0_1 _ _ l1 t590 _ ?side1 ?side2 ?side3 ?side4 A12.out).mono ?_); (case side1 => exact (by repeat (first | exact (Kd.C_below HR0_1.out Q0) | (with_reducible refine Kd.C_alloc ?_ _) | (with_reducible refine Kd.C_drewN ?_ _) | (with_reducible refine Kd.C_drew ?_)))); (case side2 => exact HC0_1.out); (case side3 => exact (by repeat (first | exact (Kd.C_below HR1.out Q0) | (with_reducible refine Kd.C_alloc ?_ _) | (with_reducible refine Kd.C_drewN ?_ _) | (with_reducible refine Kd.C_drew ?_)))); (case side4 => exact HC1.out); rintro e w' ⟨rfl, ⟨nd, rfl⟩⟩))
 go_ret
 exact ⟨er, Q0⟩

end Go.Proofs.Ytoemdmjdpikfbaa.QFnQuorums
