-- Printed by the session's own program wip/prx.py.
import Derived.Test.YtkcadcoohmofcaaSqFnExactBeat
import Derived.Test.YtkcadcoohmofcaaQFnExactBeatx0
import Derived.Test.YtkcadcoohmofcaaQFnExactBeatx9
namespace Go.Proofs.Ytkcadcoohmofcaa.QFnExactBeat
open Go.RowKit Go.Proofs.YtkcadcoohmofcaaW.PrintWords Go.Proofs.YtkcadcoohmofcaaW.PrintLast Go.Proofs.YtkcadcoohmofcaaW.PrintMore Go.Proofs.Ytkcadcoohmofcaa.SqFnExactBeat
attribute [local go_sem] max2_int min2_int max_two min_two max_three min_three max_four min_four Go.Proofs.Ytkcadcoohmofcaa.Set.isSome_setCell
set_option linter.unusedVariables false
set_option linter.unusedSimpArgs false

-- squeezed
theorem u12_3 {P : Prop} (h : P := by (with_reducible repeat (first | refine blk_drewN ?_ _ | refine blk_drew ?_ | refine blk_alloc ?_ _)); exact BK280.out) : P := h
theorem u12_6 {P : Prop} (h : P := by first | exact Kd.R_nil _ _ _ _ _ | exact Kd.N_nil _ _ _ _ _ | exact Kd.V_nil _ _ _ _ _ | exact Kd.Q_nil _ _ _ _ _ | exact Kd.S_nil _ _ _ _ _) : P := h
theorem u12_8 {P : Prop} (h : P := by (with_reducible repeat (first | refine blk_drewN ?_ _ | refine blk_drew ?_ | refine blk_alloc ?_ _)); exact BK265.out) : P := h
/-! ### impl_RLog_tail: function 119 -/
def impl_RLog_tail.f (a0_0 : Int) (a0_1 : Int) (l0_2 : List (S85)) (a1 : Int) (a2 : Int) : Option ((List (S85))) := if 0 ≤ (wrap64 ((wrap64 (a1 - a0_0)) - 1)) then (if (wrap64 ((wrap64 (a1 - a0_0)) - 1)) ≤ (l0_2.length : Int) then ((some (l0_2.drop ((wrap64 ((wrap64 (a1 - a0_0)) - 1)) : Int).toNat : List (S85))).bind fun y266 => ((some (([] : List (S85)) : List (S85))).bind fun y270 => (if 0 ≤ (mn a2 (y266.length : Int)) then (if (mn a2 (y266.length : Int)) ≤ (y266.length : Int) then ((some (y266.take ((mn a2 (y266.length : Int)) : Int).toNat : List (S85))).bind fun y273 => (if y270.length + y273.length < 5864062014805 then (some (y270 ++ y273)) else (none))) else (none)) else (none)))) else (none)) else (none)
set_option maxHeartbeats 8000000 in
set_option maxRecDepth 100000 in
theorem impl_RLog_tail.calls (a0_0 : Int) (a0_1 : Int) (A0_2 : Option Addr) (c0_2 : Nat) (l0_2 : List (S85)) (a1 : Int) (a2 : Int) (r : List (S85)) (w : World) (hr0_2 : Kd.C k85 w A0_2 l0_2.length l0_2) (hc0_2 : l0_2.length ≤ c0_2) (h : impl_RLog_tail.f a0_0 a0_1 l0_2 a1 a2 = some r) :
   Calls Try.prog 119 #[.agg #[.int .i64 a0_0, .int .i64 a0_1, .slice A0_2 l0_2.length c0_2], .int .i64 a1, .int .i64 a2] w fun e w' => ∃ v0_ : Value, e = .returned (v0_) ∧ Kd.R k85 85 w' w.heap.size (fun _ => True) v0_ r ∧ Below w.heap.size w w' := by
 have hu34 := Try.underlying34
 have HR0_2 := am hr0_2
 have HC0_2 := am hc0_2
 clear hr0_2 hc0_2
 have HB := am (Below.refl w.heap.size w)
 have H : (if 0 ≤ (wrap64 ((wrap64 (a1 - a0_0)) - 1)) then (if (wrap64 ((wrap64 (a1 - a0_0)) - 1)) ≤ (l0_2.length : Int) then ((some (l0_2.drop ((wrap64 ((wrap64 (a1 - a0_0)) - 1)) : Int).toNat : List (S85))).bind fun y266 => ((some (([] : List (S85)) : List (S85))).bind fun y270 => (if 0 ≤ (mn a2 (y266.length : Int)) then (if (mn a2 (y266.length : Int)) ≤ (y266.length : Int) then ((some (y266.take ((mn a2 (y266.length : Int)) : Int).toNat : List (S85))).bind fun y273 => (if y270.length + y273.length < 5864062014805 then (some (y270 ++ y273)) else (none))) else (none)) else (none)))) else (none)) else (none)) = some r := h
 clear h
 obtain ⟨ji4, hji4⟩ : ∃ j_ : Int, (wrap64 ((wrap64 (a1 - a0_0)) - 1)) = j_ := ⟨_, rfl⟩
 replace H : (if 0 ≤ (ji4) then (if (ji4) ≤ (l0_2.length : Int) then ((some (l0_2.drop ((ji4) : Int).toNat : List (S85))).bind fun y266 => ((some (([] : List (S85)) : List (S85))).bind fun y270 => (if 0 ≤ (mn a2 (y266.length : Int)) then (if (mn a2 (y266.length : Int)) ≤ (y266.length : Int) then ((some (y266.take ((mn a2 (y266.length : Int)) : Int).toNat : List (S85))).bind fun y273 => (if y270.length + y273.length < 5864062014805 then (some (y270 ++ y273)) else (none))) else (none)) else (none)))) else (none)) else (none)) = some r := by first | (rw [hji4] at H; exact H) | (simp only [hji4] at H ⊢; exact H)
 have hji4w : (IntKind.i64.wrap ((wrap64 (a1 - a0_0)) - 1)) = ji4 := (i64_w _).trans hji4
 by_cases c5 : 0 ≤ (ji4)
 rotate_left
 · rw [if_neg c5] at H
   exact absurd H (by simp)
 rw [if_pos c5] at H
 have c5b0 := eq_true c5
 have c5b1 : decide (0 ≤ (ji4)) = true := decide_eq_true c5
 clear c5
 by_cases c6 : (ji4) ≤ (l0_2.length : Int)
 rotate_left
 · rw [if_neg c6] at H
   exact absurd H (by simp)
 rw [if_pos c6] at H
 have c6b0 := eq_true c6
 have c6b1 : decide ((ji4) ≤ (l0_2.length : Int)) = true := decide_eq_true c6
 clear c6
 obtain ⟨y266, hy266⟩ : ∃ y_ : List (S85), y_ = (l0_2.drop ((ji4) : Int).toNat) := ⟨_, rfl⟩
 replace H : ((some (([] : List (S85)) : List (S85))).bind fun y270 => (if 0 ≤ (mn a2 (y266.length : Int)) then (if (mn a2 (y266.length : Int)) ≤ (y266.length : Int) then ((some (y266.take ((mn a2 (y266.length : Int)) : Int).toNat : List (S85))).bind fun y273 => (if y270.length + y273.length < 5864062014805 then (some (y270 ++ y273)) else (none))) else (none)) else (none))) = some r := by first | (rw [hy266]; with_reducible exact H) | (have H2_ := (Option.bind_some _ _).symm.trans H; rw [hy266]; with_reducible exact H2_) | (have H2_ := (Option.bind_some _ _).symm.trans H; with_reducible exact H2_) | with_reducible exact H | (rw [hy266]; exact H) | exact H
 have Ny266 := am hy266
 clear hy266
 obtain ⟨y270, hy270⟩ : ∃ y_ : List (S85), y_ = (([] : List (S85))) := ⟨_, rfl⟩
 replace H : (if 0 ≤ (mn a2 (y266.length : Int)) then (if (mn a2 (y266.length : Int)) ≤ (y266.length : Int) then ((some (y266.take ((mn a2 (y266.length : Int)) : Int).toNat : List (S85))).bind fun y273 => (if y270.length + y273.length < 5864062014805 then (some (y270 ++ y273)) else (none))) else (none)) else (none)) = some r := by first | (rw [hy270]; with_reducible exact H) | (have H2_ := (Option.bind_some _ _).symm.trans H; rw [hy270]; with_reducible exact H2_) | (have H2_ := (Option.bind_some _ _).symm.trans H; with_reducible exact H2_) | with_reducible exact H | (rw [hy270]; exact H) | exact H
 have Ny270 := am hy270
 clear hy270
 obtain ⟨ji7, hji7⟩ : ∃ j_ : Int, (mn a2 (y266.length : Int)) = j_ := ⟨_, rfl⟩
 replace H : (if 0 ≤ (ji7) then (if (ji7) ≤ (y266.length : Int) then ((some (y266.take ((ji7) : Int).toNat : List (S85))).bind fun y273 => (if y270.length + y273.length < 5864062014805 then (some (y270 ++ y273)) else (none))) else (none)) else (none)) = some r := by first | (rw [hji7] at H; exact H) | (simp only [hji7] at H ⊢; exact H)
 have hji7_ : (if (y266.length : Int) < a2 then (y266.length : Int) else a2) = ji7 := hji7
 by_cases c8 : 0 ≤ (ji7)
 rotate_left
 · rw [if_neg c8] at H
   exact absurd H (by simp)
 rw [if_pos c8] at H
 have c8b0 := eq_true c8
 have c8b1 : decide (0 ≤ (ji7)) = true := decide_eq_true c8
 clear c8
 by_cases c9 : (ji7) ≤ (y266.length : Int)
 rotate_left
 · rw [if_neg c9] at H
   exact absurd H (by simp)
 rw [if_pos c9] at H
 have c9b0 := eq_true c9
 have c9b1 : decide ((ji7) ≤ (y266.length : Int)) = true := decide_eq_true c9
 clear c9
 obtain ⟨y273, hy273⟩ : ∃ y_ : List (S85), y_ = (y266.take ((ji7) : Int).toNat) := ⟨_, rfl⟩
 replace H : (if y270.length + y273.length < 5864062014805 then (some (y270 ++ y273)) else (none)) = some r := by first | (rw [hy273]; with_reducible exact H) | (have H2_ := (Option.bind_some _ _).symm.trans H; rw [hy273]; with_reducible exact H2_) | (have H2_ := (Option.bind_some _ _).symm.trans H; with_reducible exact H2_) | with_reducible exact H | (rw [hy273]; exact H) | exact H
 have Ny273 := am hy273
 clear hy273
 by_cases c10 : y270.length + y273.length < 5864062014805
 rotate_left
 · rw [if_neg c10] at H
   exact absurd H (by simp)
 rw [if_pos c10] at H
 have LMc10 := am c10
 clear c10
 obtain ⟨y277, hy277⟩ : ∃ y_ : List (S85), y_ = (y270 ++ y273) := ⟨_, rfl⟩
 replace H : (some y277) = some r := by first | (rw [hy277]; with_reducible exact H) | (have H2_ := (Option.bind_some _ _).symm.trans H; rw [hy277]; with_reducible exact H2_) | (have H2_ := (Option.bind_some _ _).symm.trans H; with_reducible exact H2_) | with_reducible exact H | (rw [hy277]; exact H) | exact H
 have Ny277 := am hy277
 clear hy277
 obtain rfl := sj H
 go_enter Try.func119, Try.ntmps119
 go_wp2_with (first | ((with_reducible refine gate_dst (N := 3) rfl ?_); refine box_event ?hg (N := 3) ?hd (cs := #[.int .i64 a0_0, .int .i64 a0_1, .slice A0_2 l0_2.length c0_2]) (t := 34) ?hr ?_; (case hd => rfl); (case hg => rfl); (case hr => first | (go_simp; done) | (go_simp; rfl)); intro gb265 hg w11 hbox hb; have BK265 := am (hbox); have GW265 := am ((by rw [hg]; exact (below_size Q1) : w.heap.size ≤ gb265)); have GE265 := am ((by rw [hg]; exact (below_size Q1) : w.heap.size ≤ gb265)); replace HB := am (below_step Q1 hb); clear hb hbox hg; obtain ⟨hcz12_0, hcz12_1, hcz12_2⟩ := bc3 w11 BK265.out; have q13 : ((ji4) : Int) ≤ ((l0_2.length : Int) : Int) := of_decide_eq_true Q3; obtain ⟨i013, hi013, _, hsz13, _⟩ := info_parts info85; have hroom13 : l0_2.length ≤ c0_2 := HC0_2.out; have hC13 : Kd.C k85 _ A0_2 l0_2.length l0_2 := HR0_2.out; have q013 : (0 : Int) ≤ ((ji4) : Int) := of_decide_eq_true Q3; have hcut13 := cut_from (P := Try.prog) 27 85 .i64 Try.underlying27 hi013 2 hsz13 A0_2 l0_2.length c0_2 (ji4) q013 q13; have hr13 := Kd.C_drop (m := ((ji4) : Int).toNat) (c := c0_2) hC13 (by omega) hroom13; obtain ⟨A13, hA13⟩ : ∃ A1, A1 = (if c0_2 = ((ji4) : Int).toNat then A0_2 else (A0_2 : Option Addr).map (·.add (((ji4) : Int).toNat * 2))) := ⟨_, rfl⟩; obtain ⟨c13, hc13⟩ : ∃ c1, c1 = c0_2 - ((ji4) : Int).toNat := ⟨_, rfl⟩; have hy13 : y266.length = l0_2.length - ((ji4) : Int).toNat := (by rw [Ny266.out, List.length_drop] <;> omega); rw [show (l0_2).drop ((ji4) : Int).toNat = y266 from Ny266.out.symm] at hr13; replace hr13 : Kd.C k85 _ A13 y266.length y266 := (by rw [hA13]; exact hr13); rw [← hy13, ← hA13, ← hc13] at hcut13; have HR269 := am hr13; have HC269 := am (show y266.length ≤ c13 from by rw [hy13, hc13]; exact Nat.sub_le_sub_right hroom13 _); clear hr13 hC13 hroom13 hi013 hsz13 hc13; have KY13 := am hy13; have KA13 := am hA13; clear hy13 hA13; replace q13 := eq_true q13) | ((with_reducible refine gate_dst (N := 16) rfl ?_); refine Kd.R_lit k85 _ 85 ?hg (N := 16) ?hd (xs := ([] : List (S85))) (inner := []) (ok := fun _ => True) (okp := fun _ => True) ?hr ?hp (fun _ hk => hk) trivial (Below.refl _ _) (Nat.le_refl _) (by simp) ?_; (case hd => rfl); (case hg => rfl); (case hr => first | (go_simp; done) | (go_simp; rfl)); (case hp => exact (Reps.none _ _)); intro v271 w14 ho15 hb hg_ hnew_; clear hg_ hnew_; (first | rw [← Ny270.out] at ho15 | (simp only [Int.reduceToNat] at ho15; rw [← Ny270.out] at ho15)); have HO272 := am (Kd.R_lower ho15 (below_size Q1)); replace BK265 := am (blk_below (g := gb265) (o := .cells #[.int .i64 a0_0, .int .i64 a0_1, .slice A0_2 l0_2.length c0_2] 34 (0, 0)) u12_8 hb); replace HB := am (below_step Q1 hb); clear hb ho15; have q16 : ((ji7) : Int) ≤ ((y266.length : Int) : Int) := of_decide_eq_true Q3; obtain ⟨i016, hi016, _, hsz16, _⟩ := info_parts info85; have hroom16 : y266.length ≤ c13 := HC269.out; have hC16 : Kd.C k85 _ A13 y266.length y266 := HR269.out; have hcut16 := cut_to (P := Try.prog) 27 85 .i64 Try.underlying27 hi016 A13 y266.length c13 (ji7) (of_decide_eq_true Q3) q16 hroom16; have hr16 := Kd.C_take (m := ((ji7) : Int).toNat) hC16 (by omega); have hy16 : y273.length = ((ji7) : Int).toNat := (by rw [Ny273.out, List.length_take]; omega); rw [← Ny273.out] at hr16; rw [← hy16] at hcut16; have HR276 := am hr16; have HC276 := am (show y273.length ≤ c13 from by omega); clear hr16 hC16 hroom16 hi016 hsz16; have KY16 := am hy16; clear hy16; replace q16 := eq_true q16) | ((with_reducible refine gate_builtin (b := .append) (xs := #[.tmp 16, .tmp 22]) rfl ?_); at_builtin; refine Kd.R_append_rows k85 (w0 := w) w.heap.size rfl (.tmp 16) (.tmp 22) 27 85 (.agg #[(.int .i64 0), (.string ⟨#[]⟩)]) 24 rfl Try.underlying27 info85 rfl (by decide) (by omega) v271 y270 y273 _ _ _ (fun _ => True) (fun _ => False) rfl rfl ?aO ?aR (fun _ _ h => h) (fun _ h => h.elim) ?aF ?aB ?aS ?aL ?_; (case aR => repeat (first | exact (Kd.C_below HR276.out HB.out) | (with_reducible refine Kd.C_alloc ?_ _) | (with_reducible refine Kd.C_drewN ?_ _) | (with_reducible refine Kd.C_drew ?_))); (case aB => exact Q1); (case aF => exact (fun _ _ => trivial)); (case aO => exact (by (with_reducible repeat (first | apply Kd.R_alloc | apply Kd.R_drewN | apply Kd.R_drew)); exact HO272.out)); (case aS => exact (below_size Q1)); (case aL => have := LMc10.out; omega); intro v278 w17 ho hb hg hat; rw [← Ny277.out] at ho; replace BK265 := am (blk_grown (g := gb265) (o := .cells #[.int .i64 a0_0, .int .i64 a0_1, .slice A0_2 l0_2.length c0_2] 34 (0, 0)) u12_8 hg (Kd.R_ne HO272.out BK265.out (by decide))); replace HB := am (hb); have HO279 := am (ho); clear HO272; clear ho hb hg hat))
 go_ret
 exact ⟨_, by first | rfl | (simp [errW_none, errW_some] <;> rfl) | (simp only [← hji4, ← hji7]; first | rfl | (simp [errW_none, errW_some] <;> rfl)) | (simp [*, errW_none, errW_some] <;> rfl), (by (with_reducible repeat (first | apply Kd.R_alloc | apply Kd.R_drewN | apply Kd.R_drew)); exact HO279.out), Q1⟩

/-! ### impl_TailOf: function 93 -/
def impl_TailOf.f (k : Nat) (a0_0 : Int) (a0_1 : Int) (l0_2 : List (S85)) (a1 : Int) (a2 : Int) : Option ((List (S85))) := (impl_isRLog.f k a0_0 a0_1 l0_2).bind fun t281 => (if t281 = true then (if a1 ≤ a0_0 then (some ([] : List (S85))) else ((impl_RLog_last.f a0_0 a0_1 l0_2).bind fun t282 => (if a1 > t282 then (some ([] : List (S85))) else (if a2 < 1 then (some ([] : List (S85))) else ((impl_RLog_tail.f a0_0 a0_1 l0_2 a1 a2).bind fun t283 => (some t283)))))) else (some ([] : List (S85))))
theorem impl_TailOf.mono : ∀ a0 a1 a2 a3 a4 k, LeO (impl_TailOf.f k a0 a1 a2 a3 a4) (impl_TailOf.f (k + 1) a0 a1 a2 a3 a4) := by
 intro a0 a1 a2 a3 a4 k
 unfold impl_TailOf.f
 repeat' first
     | (with_reducible exact impl_isRLog.mono _ _ _ _)
     | (with_reducible exact LeO.refl _)
     | (with_reducible exact LeO.none _)
     | (with_reducible refine LeO.ite ?_ ?_)
     | (with_reducible refine LeO.bind ?_ (fun _ => ?_))
     | exact impl_isRLog.mono _ _ _ _
     | exact LeO.none _
     | refine LeO.ite ?_ ?_
     | refine LeO.bind ?_ (fun _ => ?_)
set_option maxHeartbeats 8000000 in
set_option maxRecDepth 100000 in
theorem impl_TailOf.calls (k : Nat) (a0_0 : Int) (a0_1 : Int) (A0_2 : Option Addr) (c0_2 : Nat) (l0_2 : List (S85)) (a1 : Int) (a2 : Int) (r : List (S85)) (w : World) (hr0_2 : Kd.C k85 w A0_2 l0_2.length l0_2) (hc0_2 : l0_2.length ≤ c0_2) (h : impl_TailOf.f k a0_0 a0_1 l0_2 a1 a2 = some r) :
   Calls Try.prog 93 #[.agg #[.int .i64 a0_0, .int .i64 a0_1, .slice A0_2 l0_2.length c0_2], .int .i64 a1, .int .i64 a2] w fun e w' => ∃ v0_ : Value, e = .returned (v0_) ∧ Kd.R k85 85 w' w.heap.size (fun _ => True) v0_ r ∧ Below w.heap.size w w' := by
 have hu34 := Try.underlying34
 have HR0_2 := am hr0_2
 have HC0_2 := am hc0_2
 clear hr0_2 hc0_2
 have HB := am (Below.refl w.heap.size w)
 have H : ((impl_isRLog.f k a0_0 a0_1 l0_2).bind fun t281 => (if t281 = true then (if a1 ≤ a0_0 then (some ([] : List (S85))) else ((impl_RLog_last.f a0_0 a0_1 l0_2).bind fun t282 => (if a1 > t282 then (some ([] : List (S85))) else (if a2 < 1 then (some ([] : List (S85))) else ((impl_RLog_tail.f a0_0 a0_1 l0_2 a1 a2).bind fun t283 => (some t283)))))) else (some ([] : List (S85))))) = some r := h
 clear h
 replace H := Option.bind_eq_some_iff.mp H
 obtain ⟨t281, A40, H⟩ := H
 have A4 := am A40
 clear A40
 by_cases c5 : t281 = true
 rotate_left
 · replace c5 := Bool.eq_false_iff.mpr c5
   subst c5
   rw [nf] at H
   obtain rfl := sj H
   go_enter Try.func93, Try.ntmps93
   go_wp2_with (first | ((with_reducible refine gate_dst (N := 3) rfl ?_); refine box_event ?hg (N := 3) ?hd (cs := #[.int .i64 a0_0, .int .i64 a0_1, .slice A0_2 l0_2.length c0_2]) (t := 34) ?hr ?_; (case hd => rfl); (case hg => rfl); (case hr => first | (go_simp; done) | (go_simp; rfl)); intro gb280 hg w27 hbox hb; have BK280 := am (hbox); have GW280 := am ((by rw [hg]; exact (below_size Q1) : w.heap.size ≤ gb280)); have GE280 := am ((by rw [hg]; exact (below_size Q1) : w.heap.size ≤ gb280)); replace HB := am (below_step Q1 hb); clear hb hbox hg; obtain ⟨hcz28_0, hcz28_1, hcz28_2⟩ := bc3 w27 BK280.out) | ((with_reducible refine gate_callee (f := 88) rfl ?_); refine goesL_ (some 8) rfl rfl Try.func88 kr rfl #[.agg #[.int .i64 a0_0, .int .i64 a0_1, .slice A0_2 l0_2.length c0_2]] rfl Q0 ?_; (with_reducible refine (impl_isRLog.calls k a0_0 a0_1 _ _ l0_2 false _ ?side1 ?side2 A4.out).mono ?_); (case side1 => exact Q6); (case side2 => exact HC0_2.out); rintro e w29 ⟨rfl, hb⟩; refine ⟨_, rfl, ?_⟩; replace BK280 := am (blk_below (g := gb280) (o := .cells #[.int .i64 a0_0, .int .i64 a0_1, .slice A0_2 l0_2.length c0_2] 34 (0, 0)) u12_3 hb); replace HB := am (below_step Q1 hb); (try clear hb); (try clear hb2); (try clear hk); (try clear hi)))
   go_ret
   exact ⟨_, er, u12_6, Q1⟩
 subst c5
 rw [if_pos rfl] at H
 by_cases c6 : a1 ≤ a0_0
 · rw [if_pos c6] at H
   have c6b0 : decide (a1 ≤ a0_0) = true := decide_eq_true c6
   clear c6
   obtain rfl := sj H
   go_enter Try.func93, Try.ntmps93
   go_wp2_with (first | ((with_reducible refine gate_dst (N := 3) rfl ?_); refine box_event ?hg (N := 3) ?hd (cs := #[.int .i64 a0_0, .int .i64 a0_1, .slice A0_2 l0_2.length c0_2]) (t := 34) ?hr ?_; (case hd => rfl); (case hg => rfl); (case hr => first | (go_simp; done) | (go_simp; rfl)); intro gb280 hg w7 hbox hb; have BK280 := am (hbox); have GW280 := am ((by rw [hg]; exact (below_size Q1) : w.heap.size ≤ gb280)); have GE280 := am ((by rw [hg]; exact (below_size Q1) : w.heap.size ≤ gb280)); replace HB := am (below_step Q1 hb); clear hb hbox hg; obtain ⟨hcz8_0, hcz8_1, hcz8_2⟩ := bc3 w7 BK280.out) | ((with_reducible refine gate_callee (f := 88) rfl ?_); refine goesL_ (some 8) rfl rfl Try.func88 kr rfl #[.agg #[.int .i64 a0_0, .int .i64 a0_1, .slice A0_2 l0_2.length c0_2]] rfl Q0 ?_; (with_reducible refine (impl_isRLog.calls k a0_0 a0_1 _ _ l0_2 true _ ?side1 ?side2 A4.out).mono ?_); (case side1 => exact Q6); (case side2 => exact HC0_2.out); rintro e w9 ⟨rfl, hb⟩; refine ⟨_, rfl, ?_⟩; replace BK280 := am (blk_below (g := gb280) (o := .cells #[.int .i64 a0_0, .int .i64 a0_1, .slice A0_2 l0_2.length c0_2] 34 (0, 0)) u12_3 hb); replace HB := am (below_step Q1 hb); (try clear hb); (try clear hb2); (try clear hk); (try clear hi); obtain ⟨hcz10_0, hcz10_1, hcz10_2⟩ := bc3 w9 BK280.out))
   go_ret
   exact ⟨_, er, u12_6, Q1⟩
 rw [if_neg c6] at H
 have c6b0 : decide (a1 ≤ a0_0) = false := decide_eq_false c6
 clear c6
 replace H := Option.bind_eq_some_iff.mp H
 obtain ⟨t282, A110, H⟩ := H
 have A11 := am A110
 clear A110
 by_cases c12 : a1 > t282
 · rw [if_pos c12] at H
   have c12b0 : decide (t282 < a1) = true := decide_eq_true c12
   clear c12
   obtain rfl := sj H
   go_enter Try.func93, Try.ntmps93
   go_wp2_with (first | ((with_reducible refine gate_dst (N := 3) rfl ?_); refine box_event ?hg (N := 3) ?hd (cs := #[.int .i64 a0_0, .int .i64 a0_1, .slice A0_2 l0_2.length c0_2]) (t := 34) ?hr ?_; (case hd => rfl); (case hg => rfl); (case hr => first | (go_simp; done) | (go_simp; rfl)); intro gb280 hg w13 hbox hb; have BK280 := am (hbox); have GW280 := am ((by rw [hg]; exact (below_size Q1) : w.heap.size ≤ gb280)); have GE280 := am ((by rw [hg]; exact (below_size Q1) : w.heap.size ≤ gb280)); replace HB := am (below_step Q1 hb); clear hb hbox hg; obtain ⟨hcz14_0, hcz14_1, hcz14_2⟩ := bc3 w13 BK280.out) | ((with_reducible refine gate_callee (f := 88) rfl ?_); refine goesL_ (some 8) rfl rfl Try.func88 kr rfl #[.agg #[.int .i64 a0_0, .int .i64 a0_1, .slice A0_2 l0_2.length c0_2]] rfl Q0 ?_; (with_reducible refine (impl_isRLog.calls k a0_0 a0_1 _ _ l0_2 true _ ?side1 ?side2 A4.out).mono ?_); (case side1 => exact Q6); (case side2 => exact HC0_2.out); rintro e w15 ⟨rfl, hb⟩; refine ⟨_, rfl, ?_⟩; replace BK280 := am (blk_below (g := gb280) (o := .cells #[.int .i64 a0_0, .int .i64 a0_1, .slice A0_2 l0_2.length c0_2] 34 (0, 0)) u12_3 hb); replace HB := am (below_step Q1 hb); (try clear hb); (try clear hb2); (try clear hk); (try clear hi); obtain ⟨hcz16_0, hcz16_1, hcz16_2⟩ := bc3 w15 BK280.out) | (go_at_call 89; (with_reducible refine (impl_RLog_last.calls a0_0 a0_1 _ _ l0_2 t282 _ ?side1 ?side2 A11.out).mono ?_); (case side1 => exact Q6); (case side2 => exact HC0_2.out); rintro e w17 ⟨rfl, hb⟩; replace BK280 := am (blk_below (g := gb280) (o := .cells #[.int .i64 a0_0, .int .i64 a0_1, .slice A0_2 l0_2.length c0_2] 34 (0, 0)) u12_3 hb); replace HB := am (below_step Q1 hb); (try clear hb); (try clear hb2); (try clear hk); (try clear hi)))
   go_ret
   exact ⟨_, er, u12_6, Q1⟩
 rw [if_neg c12] at H
 have c12b0 : decide (t282 < a1) = false := decide_eq_false c12
 clear c12
 have H9 := am H
 clear H
 go_enter Try.func93, Try.ntmps93
 go_upto_if 25 with (first | ((with_reducible refine gate_dst (N := 3) rfl ?_); refine box_event ?hg (N := 3) ?hd (cs := #[.int .i64 a0_0, .int .i64 a0_1, .slice A0_2 l0_2.length c0_2]) (t := 34) ?hr ?_; (case hd => rfl); (case hg => rfl); (case hr => first | (go_simp; done) | (go_simp; rfl)); intro gb280 hg w18 hbox hb; have BK280 := am (hbox); have GW280 := am ((by rw [hg]; exact (below_size Q1) : w.heap.size ≤ gb280)); have GE280 := am ((by rw [hg]; exact (below_size Q1) : w.heap.size ≤ gb280)); replace HB := am (below_step Q1 hb); clear hb hbox hg; obtain ⟨hcz19_0, hcz19_1, hcz19_2⟩ := bc3 w18 BK280.out) | ((with_reducible refine gate_callee (f := 88) rfl ?_); refine goesL_ (some 8) rfl rfl Try.func88 kr rfl #[.agg #[.int .i64 a0_0, .int .i64 a0_1, .slice A0_2 l0_2.length c0_2]] rfl Q0 ?_; (with_reducible refine (impl_isRLog.calls k a0_0 a0_1 _ _ l0_2 true _ ?side1 ?side2 A4.out).mono ?_); (case side1 => exact Q6); (case side2 => exact HC0_2.out); rintro e w20 ⟨rfl, hb⟩; refine ⟨_, rfl, ?_⟩; replace BK280 := am (blk_below (g := gb280) (o := .cells #[.int .i64 a0_0, .int .i64 a0_1, .slice A0_2 l0_2.length c0_2] 34 (0, 0)) u12_3 hb); replace HB := am (below_step Q1 hb); (try clear hb); (try clear hb2); (try clear hk); (try clear hi); obtain ⟨hcz21_0, hcz21_1, hcz21_2⟩ := bc3 w20 BK280.out) | (go_at_call 89; (with_reducible refine (impl_RLog_last.calls a0_0 a0_1 _ _ l0_2 t282 _ ?side1 ?side2 A11.out).mono ?_); (case side1 => exact Q6); (case side2 => exact HC0_2.out); rintro e w22 ⟨rfl, hb⟩; replace BK280 := am (blk_below (g := gb280) (o := .cells #[.int .i64 a0_0, .int .i64 a0_1, .slice A0_2 l0_2.length c0_2] 34 (0, 0)) u12_3 hb); replace HB := am (below_step Q1 hb); (try clear hb); (try clear hb2); (try clear hk); (try clear hi)))
 have H := H9.out
 clear H9
 by_cases c23 : a2 < 1
 · rw [if_pos c23] at H
   have c23b0 : decide (a2 < 1) = true := decide_eq_true c23
   clear c23
   (first | rw [c23b0] | (simp only [i64_w, i32_w]; rw [c23b0]) | skip)
   obtain rfl := sj H
   go_wp2
   go_ret
   exact ⟨_, er, u12_6, Q1⟩
 rw [if_neg c23] at H
 have c23b0 : decide (a2 < 1) = false := decide_eq_false c23
 clear c23
 (first | rw [c23b0] | (simp only [i64_w, i32_w]; rw [c23b0]) | skip)
 replace H := Option.bind_eq_some_iff.mp H
 obtain ⟨t283, A240, H⟩ := H
 replace H : (some t283) = some r := H
 have A24 := am A240
 clear A240
 obtain rfl := sj H
 obtain ⟨hcz25_0, hcz25_1, hcz25_2⟩ := bc3 w22 BK280.out
 go_wp2_with (first | ((with_reducible refine gate_callee (f := 119) rfl ?_); refine goesL_ (some 29) rfl rfl Try.func119 kr rfl #[.agg #[.int .i64 a0_0, .int .i64 a0_1, .slice A0_2 l0_2.length c0_2], .int .i64 a1, .int .i64 a2] rfl Q0 ?_; (with_reducible refine (impl_RLog_tail.calls a0_0 a0_1 _ _ l0_2 a1 a2 t283 _ ?side1 ?side2 A24.out).mono ?_); (case side1 => exact Q6); (case side2 => exact HC0_2.out); rintro e w26 ⟨v284, rfl, ho0, hb⟩; refine ⟨_, rfl, ?_⟩; have HO285 := am (Kd.R_lower ho0 (below_size Q1)); replace BK280 := am (blk_below (g := gb280) (o := .cells #[.int .i64 a0_0, .int .i64 a0_1, .slice A0_2 l0_2.length c0_2] 34 (0, 0)) u12_3 hb); replace HB := am (below_step Q1 hb); (try clear hb); (try clear hb2); (try clear hk); (try clear hi); (try clear ho0)))
 go_ret
 exact ⟨_, er, (by (with_reducible repeat (first | apply Kd.R_alloc | apply Kd.R_drewN | apply Kd.R_drew)); exact HO285.out), Q1⟩

end Go.Proofs.Ytkcadcoohmofcaa.QFnExactBeat
