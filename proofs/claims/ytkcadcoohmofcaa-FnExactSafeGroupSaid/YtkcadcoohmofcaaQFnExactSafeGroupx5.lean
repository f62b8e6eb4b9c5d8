-- Printed by the session's own program wip/prx.py.
import Derived.Test.YtkcadcoohmofcaaSqFnExactSafeGroup
import Derived.Test.YtkcadcoohmofcaaQFnExactSafeGroupx0
import Derived.Test.YtkcadcoohmofcaaQFnExactSafeGroupx3
import Derived.Test.YtkcadcoohmofcaaQFnExactSafeGroupx4
namespace Go.Proofs.Ytkcadcoohmofcaa.QFnExactSafeGroup
open Go.RowKit Go.Proofs.YtkcadcoohmofcaaW.PrintWords Go.Proofs.YtkcadcoohmofcaaW.PrintLast Go.Proofs.YtkcadcoohmofcaaW.PrintMore Go.Proofs.Ytkcadcoohmofcaa.SqFnExactSafeGroup
attribute [local go_sem] max2_int min2_int max_two min_two max_three min_three max_four min_four Go.Proofs.Ytkcadcoohmofcaa.Set.isSome_setCell
set_option linter.unusedVariables false
set_option linter.unusedSimpArgs false

-- squeezed
theorem u5_5 {P : Prop} (h : P := by (with_reducible repeat (first | refine blk_drewN ?_ _ | refine blk_drew ?_ | refine blk_alloc ?_ _)); exact BK125.out) : P := h
theorem u5_13 {P : Prop} (h : P := by (with_reducible repeat (first | refine blk_drewN ?_ _ | refine blk_drew ?_ | refine blk_alloc ?_ _)); exact BK126.out) : P := h
/-! ### laws_eqGroup: function 31 -/
def laws_eqGroup.f (k : Nat) (a0_0 : Int) (l0_1 : List (S37)) (l0_2 : List (S29)) (a1_0 : Int) (l1_1 : List (S37)) (l1_2 : List (S29)) : Option (Bool) := if a0_0 = a1_0 then ((laws_eqNodeS.f k l0_1 l1_1).bind fun t127 => (if t127 = true then ((laws_eqMsgS.f k l0_2 l1_2).bind fun t128 => (if t128 = true then (some true) else (some false))) else (some false))) else (some false)
theorem laws_eqGroup.mono : ∀ a0 a1 a2 a3 a4 a5 k, LeO (laws_eqGroup.f k a0 a1 a2 a3 a4 a5) (laws_eqGroup.f (k + 1) a0 a1 a2 a3 a4 a5) := by
 intro a0 a1 a2 a3 a4 a5 k
 unfold laws_eqGroup.f
 repeat' first
     | (with_reducible exact laws_eqMsgS.mono _ _ _)
     | (with_reducible exact laws_eqNodeS.mono _ _ _)
     | (with_reducible exact LeO.refl _)
     | (with_reducible exact LeO.none _)
     | (with_reducible refine LeO.ite ?_ ?_)
     | (with_reducible refine LeO.bind ?_ (fun _ => ?_))
     | exact laws_eqMsgS.mono _ _ _
     | exact laws_eqNodeS.mono _ _ _
     | exact LeO.none _
     | refine LeO.ite ?_ ?_
     | refine LeO.bind ?_ (fun _ => ?_)
set_option maxHeartbeats 8000000 in
set_option maxRecDepth 100000 in
theorem laws_eqGroup.calls (k : Nat) (a0_0 : Int) (A0_1 : Option Addr) (c0_1 : Nat) (l0_1 : List (S37)) (A0_2 : Option Addr) (c0_2 : Nat) (l0_2 : List (S29)) (a1_0 : Int) (A1_1 : Option Addr) (c1_1 : Nat) (l1_1 : List (S37)) (A1_2 : Option Addr) (c1_2 : Nat) (l1_2 : List (S29)) (r : Bool) (w : World) (hr0_1 : Kd.C k37 w A0_1 l0_1.length l0_1) (hc0_1 : l0_1.length ≤ c0_1) (hr0_2 : Kd.C k29 w A0_2 l0_2.length l0_2) (hc0_2 : l0_2.length ≤ c0_2) (hr1_1 : Kd.C k37 w A1_1 l1_1.length l1_1) (hc1_1 : l1_1.length ≤ c1_1) (hr1_2 : Kd.C k29 w A1_2 l1_2.length l1_2) (hc1_2 : l1_2.length ≤ c1_2) (h : laws_eqGroup.f k a0_0 l0_1 l0_2 a1_0 l1_1 l1_2 = some r) :
   Calls Try.prog 31 #[.agg #[.int .i64 a0_0, .slice A0_1 l0_1.length c0_1, .slice A0_2 l0_2.length c0_2], .agg #[.int .i64 a1_0, .slice A1_1 l1_1.length c1_1, .slice A1_2 l1_2.length c1_2]] w fun e w' => e = .returned (.bool r) ∧ Below w.heap.size w w' := by
 have hu53 := Try.underlying53
 have HR0_1 := am hr0_1
 have HC0_1 := am hc0_1
 clear hr0_1 hc0_1
 have HR0_2 := am hr0_2
 have HC0_2 := am hc0_2
 clear hr0_2 hc0_2
 have HR1_1 := am hr1_1
 have HC1_1 := am hc1_1
 clear hr1_1 hc1_1
 have HR1_2 := am hr1_2
 have HC1_2 := am hc1_2
 clear hr1_2 hc1_2
 have HB := am (Below.refl w.heap.size w)
 have H : (if a0_0 = a1_0 then ((laws_eqNodeS.f k l0_1 l1_1).bind fun t127 => (if t127 = true then ((laws_eqMsgS.f k l0_2 l1_2).bind fun t128 => (if t128 = true then (some true) else (some false))) else (some false))) else (some false)) = some r := h
 clear h
 have H9 := am H
 clear H
 go_enter Try.func31, Try.ntmps31
 go_upto_if 9 with (first | ((with_reducible refine gate_dst (N := 2) rfl ?_); refine box_event ?hg (N := 2) ?hd (cs := #[.int .i64 a0_0, .slice A0_1 l0_1.length c0_1, .slice A0_2 l0_2.length c0_2]) (t := 53) ?hr ?_; (case hd => rfl); (case hg => rfl); (case hr => first | (go_simp; done) | (go_simp; rfl)); intro gb125 hg w3 hbox hb; have BK125 := am (hbox); have GW125 := am ((by rw [hg]; exact (below_size q2) : w.heap.size ≤ gb125)); have GE125 := am ((by rw [hg]; exact (below_size q2) : w.heap.size ≤ gb125)); replace HB := am (below_step q2 hb); clear hb hbox hg) | ((with_reducible refine gate_dst (N := 3) rfl ?_); refine box_event ?hg (N := 3) ?hd (cs := #[.int .i64 a1_0, .slice A1_1 l1_1.length c1_1, .slice A1_2 l1_2.length c1_2]) (t := 53) ?hr ?_; (case hd => rfl); (case hg => rfl); (case hr => first | (go_simp; done) | (go_simp; rfl)); intro gb126 hg w4 hbox hb; have BK126 := am (hbox); have GW126 := am ((by rw [hg]; exact (below_size q2) : w.heap.size ≤ gb126)); have GE126 := am ((by rw [hg]; exact (below_size q2) : w.heap.size ≤ gb126)); replace HB := am (below_step q2 hb); have NB125_126 := am ((by rw [hg]; exact Nat.ne_of_lt (blk_lt (g := gb125) (o := .cells #[.int .i64 a0_0, .slice A0_1 l0_1.length c0_1, .slice A0_2 l0_2.length c0_2] 53 (0, 0)) u5_5) : gb125 ≠ gb126)); have NB126_125 := am ((by rw [hg]; exact Nat.ne_of_gt (blk_lt (g := gb125) (o := .cells #[.int .i64 a0_0, .slice A0_1 l0_1.length c0_1, .slice A0_2 l0_2.length c0_2] 53 (0, 0)) u5_5) : gb126 ≠ gb125)); replace BK125 := am (blk_below (g := gb125) (o := .cells #[.int .i64 a0_0, .slice A0_1 l0_1.length c0_1, .slice A0_2 l0_2.length c0_2] 53 (0, 0)) u5_5 hb); clear hb hbox hg; have hnb5 := NB125_126.out; have hnc5 := NB126_125.out; obtain ⟨hcz6_0, hcz6_1, hcz6_2⟩ := bc3 w4 BK125.out; obtain ⟨hcz7_0, hcz7_1, hcz7_2, hfz7_0, hfz7_1, hfz7_2⟩ := bc3f w4 BK126.out))
 have H := H9.out
 clear H9
 by_cases c8 : a0_0 = a1_0
 rotate_left
 · rw [if_neg c8] at H
   have c8b0 : (a0_0 == a1_0) = false := beq_eq_false_iff_ne.mpr c8
   have c8b1 : (a0_0 != a1_0) = true := bne_iff_ne.mpr c8
   (first | rw [c8b0] | (simp only [i64_w, i32_w]; rw [c8b0]) | skip)
   obtain rfl := sj H
   go_wp2
   go_ret
   exact ⟨er, q2⟩
 rw [if_pos c8] at H
 have c8b0 : (a0_0 == a1_0) = true := beq_iff_eq.mpr c8
 have c8b1 : (a0_0 != a1_0) = false := bne_eq_false_iff_eq.mpr c8
 clear c8
 (first | rw [c8b0] | (simp only [i64_w, i32_w]; rw [c8b0]) | skip)
 replace H := Option.bind_eq_some_iff.mp H
 obtain ⟨t127, A90, H⟩ := H
 have A9 := am A90
 clear A90
 have H9 := am H
 clear H
 have hnb10 := NB125_126.out
 have hnc10 := NB126_125.out
 obtain ⟨hcz11_0, hcz11_1, hcz11_2⟩ := bc3 w4 BK125.out
 obtain ⟨hcz12_0, hcz12_1, hcz12_2, hfz12_0, hfz12_1, hfz12_2⟩ := bc3f w4 BK126.out
 go_upto_if 15 with (first | ((with_reducible refine gate_callee (f := 80) rfl ?_); refine goesL_ (some 14) rfl rfl Try.func80 kr rfl #[.slice A0_1 l0_1.length c0_1, .slice A1_1 l1_1.length c1_1] rfl q0 ?_; (with_reducible refine (laws_eqNodeS.calls k _ _ l0_1 _ _ l1_1 t127 _ ?side1 ?side2 ?side3 ?side4 A9.out).mono ?_); (case side1 => exact (by repeat (first | exact (Kd.C_below HR0_1.out HB.out) | (with_reducible refine Kd.C_alloc ?_ _) | (with_reducible refine Kd.C_drewN ?_ _) | (with_reducible refine Kd.C_drew ?_)))); (case side2 => exact HC0_1.out); (case side3 => exact (by repeat (first | exact (Kd.C_below HR1_1.out HB.out) | (with_reducible refine Kd.C_alloc ?_ _) | (with_reducible refine Kd.C_drewN ?_ _) | (with_reducible refine Kd.C_drew ?_)))); (case side4 => exact HC1_1.out); rintro e w13 ⟨rfl, hb⟩; refine ⟨_, rfl, ?_⟩; replace BK125 := am (blk_below (g := gb125) (o := .cells #[.int .i64 a0_0, .slice A0_1 l0_1.length c0_1, .slice A0_2 l0_2.length c0_2] 53 (0, 0)) u5_5 hb); replace BK126 := am (blk_below (g := gb126) (o := .cells #[.int .i64 a1_0, .slice A1_1 l1_1.length c1_1, .slice A1_2 l1_2.length c1_2] 53 (0, 0)) u5_13 hb); replace HB := am (below_step q2 hb); (try clear hb); (try clear hb2); (try clear hk); (try clear hi)))
 have H := H9.out
 clear H9
 by_cases c14 : t127 = true
 rotate_left
 · replace c14 := Bool.eq_false_iff.mpr c14
   subst c14
   rw [nf] at H
   obtain rfl := sj H
   go_wp2
   go_ret
   exact ⟨er, q2⟩
 subst c14
 rw [if_pos rfl] at H
 replace H := Option.bind_eq_some_iff.mp H
 obtain ⟨t128, A150, H⟩ := H
 replace H : (if t128 = true then (some true) else (some false)) = some r := H
 have A15 := am A150
 clear A150
 have H9 := am H
 clear H
 have hnb16 := NB125_126.out
 have hnc16 := NB126_125.out
 obtain ⟨hcz17_0, hcz17_1, hcz17_2⟩ := bc3 w13 BK125.out
 obtain ⟨hcz18_0, hcz18_1, hcz18_2, hfz18_0, hfz18_1, hfz18_2⟩ := bc3f w13 BK126.out
 go_upto_if 21 with (first | ((with_reducible refine gate_callee (f := 40) rfl ?_); refine goesL_ (some 20) rfl rfl Try.func40 kr rfl #[.slice A0_2 l0_2.length c0_2, .slice A1_2 l1_2.length c1_2] rfl q0 ?_; (with_reducible refine (laws_eqMsgS.calls k _ _ l0_2 _ _ l1_2 t128 _ ?side1 ?side2 ?side3 ?side4 A15.out).mono ?_); (case side1 => exact q5); (case side2 => exact HC0_2.out); (case side3 => exact (by repeat (first | exact (Kd.C_below HR1_2.out HB.out) | (with_reducible refine Kd.C_alloc ?_ _) | (with_reducible refine Kd.C_drewN ?_ _) | (with_reducible refine Kd.C_drew ?_)))); (case side4 => exact HC1_2.out); rintro e w19 ⟨rfl, hb⟩; refine ⟨_, rfl, ?_⟩; replace BK125 := am (blk_below (g := gb125) (o := .cells #[.int .i64 a0_0, .slice A0_1 l0_1.length c0_1, .slice A0_2 l0_2.length c0_2] 53 (0, 0)) u5_5 hb); replace BK126 := am (blk_below (g := gb126) (o := .cells #[.int .i64 a1_0, .slice A1_1 l1_1.length c1_1, .slice A1_2 l1_2.length c1_2] 53 (0, 0)) u5_13 hb); replace HB := am (below_step q2 hb); (try clear hb); (try clear hb2); (try clear hk); (try clear hi)))
 have H := H9.out
 clear H9
 by_cases c20 : t128 = true
 · subst c20
   rw [if_pos rfl] at H
   obtain rfl := sj H
   go_wp2
   go_ret
   exact ⟨er, q2⟩
 replace c20 := Bool.eq_false_iff.mpr c20
 subst c20
 rw [nf] at H
 obtain rfl := sj H
 go_wp2
 go_ret
 exact ⟨er, q2⟩

/-! ### laws_szEntry: function 107 -/
def laws_szEntry.f (a0_0 : Int) (a0_1 : ByteArray) (a1 : Int) : Option (Int) := if (wrap64 (a1 - (a0_1.size : Int))) < 0 then (some (-1)) else (some (wrap64 (a1 - (a0_1.size : Int))))
set_option maxHeartbeats 8000000 in
set_option maxRecDepth 100000 in
theorem laws_szEntry.calls (a0_0 : Int) (a0_1 : ByteArray) (a1 : Int) (r : Int) (w : World) (h : laws_szEntry.f a0_0 a0_1 a1 = some r) :
   Calls Try.prog 107 #[.agg #[.int .i64 a0_0, .string a0_1], .int .i64 a1] w fun e w' => e = .returned (.int .i64 r) ∧ Below w.heap.size w w' := by
 have hu112 := Try.underlying112
 have HB := am (Below.refl w.heap.size w)
 have H : (if (wrap64 (a1 - (a0_1.size : Int))) < 0 then (some (-1)) else (some (wrap64 (a1 - (a0_1.size : Int))))) = some r := h
 clear h
 have H9 := am H
 clear H
 go_enter Try.func107, Try.ntmps107
 go_upto_if 11 with (first | ((with_reducible refine gate_dst (N := 2) rfl ?_); refine box_event ?hg (N := 2) ?hd (cs := #[.int .i64 a0_0, .string a0_1]) (t := 112) ?hr ?_; (case hd => rfl); (case hg => rfl); (case hr => first | (go_simp; done) | (go_simp; rfl)); intro gb129 hg w3 hbox hb; have BK129 := am (hbox); have GW129 := am ((by rw [hg]; exact (below_size q2) : w.heap.size ≤ gb129)); have GE129 := am ((by rw [hg]; exact (below_size q2) : w.heap.size ≤ gb129)); replace HB := am (below_step q2 hb); clear hb hbox hg; obtain ⟨hcz4_0, hcz4_1, hfz4_0, hfz4_1⟩ := bc2f w3 BK129.out))
 have H := H9.out
 clear H9
 by_cases c5 : (wrap64 (a1 - (a0_1.size : Int))) < 0
 · rw [if_pos c5] at H
   have c5b0 : decide ((wrap64 (a1 - (a0_1.size : Int))) < 0) = true := decide_eq_true c5
   clear c5
   (first | rw [c5b0] | (simp only [i64_w, i32_w]; rw [c5b0]) | skip)
   obtain rfl := sj H
   go_wp2
   go_ret
   exact ⟨er, q2⟩
 rw [if_neg c5] at H
 have c5b0 : decide ((wrap64 (a1 - (a0_1.size : Int))) < 0) = false := decide_eq_false c5
 clear c5
 (first | rw [c5b0] | (simp only [i64_w, i32_w]; rw [c5b0]) | skip)
 obtain rfl := sj H
 go_wp2
 go_ret
 exact ⟨er, q2⟩

/-! ### laws_szEntryS: function 61 -/
def laws_szEntryS.l0 : Nat → List (S112) → Int → Int → Option (Int)
 | 0, _, _, _ => none
 | k + 1, x0, x1, x5 => if x5 < (x0.length : Int) then (if 0 ≤ x5 then ((laws_szEntry.f ((rd_T112 x0 x5).f0) ((rd_T112 x0 x5).f1) x1).bind fun t131 => (if t131 < 0 then (some (-1)) else (laws_szEntryS.l0 k x0 t131 (wrap64 (x5 + 1))))) else (none)) else (some x1)
def laws_szEntryS.f (k : Nat) (l0 : List (S112)) (a1 : Int) : Option (Int) := if (wrap64 (a1 - (l0.length : Int))) < 0 then (some (-1)) else (laws_szEntryS.l0 k l0 (wrap64 (a1 - (l0.length : Int))) 0)
theorem laws_szEntryS.mono_l : ∀ k, (∀ y0 y1 y2, LeO (laws_szEntryS.l0 k y0 y1 y2) (laws_szEntryS.l0 (k + 1) y0 y1 y2))
 | 0 => fun _ _ _ r h => by simp [laws_szEntryS.l0] at h
 | k + 1 => by
   have ih0 := laws_szEntryS.mono_l k
   · intro y0 y1 y2
     unfold laws_szEntryS.l0
     repeat' first
     | (with_reducible exact ih0 _ _ _)
     | (with_reducible exact LeO.refl _)
     | (with_reducible exact LeO.none _)
     | (with_reducible refine LeO.ite ?_ ?_)
     | (with_reducible refine LeO.bind ?_ (fun _ => ?_))
     | exact ih0 _ _ _
     | exact LeO.none _
     | refine LeO.ite ?_ ?_
     | refine LeO.bind ?_ (fun _ => ?_)
theorem laws_szEntryS.mono : ∀ a0 a1 k, LeO (laws_szEntryS.f k a0 a1) (laws_szEntryS.f (k + 1) a0 a1) := by
 intro a0 a1 k
 have ih0 := laws_szEntryS.mono_l k
 unfold laws_szEntryS.f
 repeat' first
     | (with_reducible exact ih0 _ _ _)
     | (with_reducible exact LeO.refl _)
     | (with_reducible exact LeO.none _)
     | (with_reducible refine LeO.ite ?_ ?_)
     | (with_reducible refine LeO.bind ?_ (fun _ => ?_))
     | exact ih0 _ _ _
     | exact LeO.none _
     | refine LeO.ite ?_ ?_
     | refine LeO.bind ?_ (fun _ => ?_)
set_option maxHeartbeats 8000000 in
set_option maxRecDepth 100000 in
theorem laws_szEntryS.calls (k : Nat) (A0 : Option Addr) (c0 : Nat) (l0 : List (S112)) (a1 : Int) (r : Int) (w : World) (hr0 : Kd.C k112 w A0 l0.length l0) (hc0 : l0.length ≤ c0) (h : laws_szEntryS.f k l0 a1 = some r) :
   Calls Try.prog 61 #[.slice A0 l0.length c0, .int .i64 a1] w fun e w' => e = .returned (.int .i64 r) ∧ Below w.heap.size w w' := by
 have hu112 := Try.underlying112
 have HR0 := am hr0
 have HC0 := am hc0
 clear hr0 hc0
 have HB := am (Below.refl w.heap.size w)
 have H : (if (wrap64 (a1 - (l0.length : Int))) < 0 then (some (-1)) else (laws_szEntryS.l0 k l0 (wrap64 (a1 - (l0.length : Int))) 0)) = some r := h
 clear h
 by_cases c3 : (wrap64 (a1 - (l0.length : Int))) < 0
 · rw [if_pos c3] at H
   have c3b0 : decide ((wrap64 (a1 - (l0.length : Int))) < 0) = true := decide_eq_true c3
   clear c3
   obtain rfl := sj H
   go_enter Try.func61, Try.ntmps61
   go_wp2
   go_ret
   exact ⟨er, q2⟩
 rw [if_neg c3] at H
 have c3b0 : decide ((wrap64 (a1 - (l0.length : Int))) < 0) = false := decide_eq_false c3
 clear c3
 have H' := am H
 clear H
 go_enter Try.func61, Try.ntmps61
 go_wp2
 go_loopg [1, 5] k (fun kq v1 v5 w' => ∃ (x1_1 : Int) (x5_1 : Int), v1 = .int .i64 x1_1 ∧ v5 = .int .i64 x5_1 ∧ Aside0 (laws_szEntryS.l0 kq l0 x1_1 x5_1 = some r) ∧ Aside0 (kq ≤ k) ∧ Aside0 (Below w.heap.size w w'))
 case atStart => exact ⟨(wrap64 (a1 - (l0.length : Int))), (0), q3, q3, H', ⟨Nat.le_refl _⟩, ⟨q2⟩⟩
 clear H'
 try clear c3
 try clear c3b0
 obtain ⟨x1_1, x5_1, rfl, rfl, HA, HK1, HB⟩ := hrel
 cases gk with
 | zero => exact absurd HA.out (by simp [laws_szEntryS.l0])
 | succ k1 =>
   have H := HA.out
   clear HA
   simp only [laws_szEntryS.l0] at H
   by_cases c4 : x5_1 < (l0.length : Int)
   rotate_left
   · rw [if_neg c4] at H
     have c4b0 : decide (x5_1 < (l0.length : Int)) = false := decide_eq_false c4
     clear c4
     obtain rfl := sj H
     go_wp2
     go_ret
     exact ⟨er, q2⟩
   rw [if_pos c4] at H
   have c4b0 : decide (x5_1 < (l0.length : Int)) = true := decide_eq_true c4
   clear c4
   by_cases c5 : 0 ≤ x5_1
   rotate_left
   · rw [if_neg c5] at H
     exact absurd H (by simp)
   rw [if_pos c5] at H
   have c5b0 : decide (0 ≤ x5_1) = true := decide_eq_true c5
   clear c5
   replace H := Option.bind_eq_some_iff.mp H
   obtain ⟨t131, A60, H⟩ := H
   replace H : (if t131 < 0 then (some (-1)) else (laws_szEntryS.l0 k1 l0 t131 (wrap64 (x5_1 + 1)))) = some r := H
   have A6 := am A60
   clear A60
   have H9 := am H
   clear H
   have p130 : 0 ≤ (x5_1 : Int) := of_decide_eq_true q1
   have q130 : x5_1 < (l0.length : Int) := of_decide_eq_true q1
   obtain ⟨ad130, e130, hx130_0, hx130_1⟩ := at_T112 HR0.out x5_1 p130 q130
   cases e130
   replace hx130_0 := cm HB.out hx130_0
   replace hx130_1 := cm HB.out hx130_1
   replace p130 := eq_true p130
   replace q130 := eq_true q130
   go_upto_if 25 with (first | ((with_reducible refine gate_callee (f := 107) rfl ?_); refine goesL_ (some 23) rfl rfl Try.func107 kr rfl #[.agg #[.int .i64 ((rd_T112 l0 x5_1).f0), .string ((rd_T112 l0 x5_1).f1)], .int .i64 x1_1] rfl q0 ?_; (with_reducible refine (laws_szEntry.calls ((rd_T112 l0 x5_1).f0) ((rd_T112 l0 x5_1).f1) x1_1 t131 _ A6.out).mono ?_); rintro e w7 ⟨rfl, hb⟩; refine ⟨_, rfl, ?_⟩; replace HB := am (below_step q2 hb); (try clear hb); (try clear hb2); (try clear hk); (try clear hi)))
   have H := H9.out
   clear H9
   by_cases c8 : t131 < 0
   · rw [if_pos c8] at H
     have c8b0 : decide (t131 < 0) = true := decide_eq_true c8
     clear c8
     (first | rw [c8b0] | (simp only [i64_w, i32_w]; rw [c8b0]) | skip)
     obtain rfl := sj H
     go_wp2
     go_ret
     exact ⟨er, q2⟩
   rw [if_neg c8] at H
   have c8b0 : decide (t131 < 0) = false := decide_eq_false c8
   clear c8
   (first | rw [c8b0] | (simp only [i64_w, i32_w]; rw [c8b0]) | skip)
   have H' := am H
   clear H
   go_wp2
   go_roundg k1
   case measure => have := HK1.out; omega
   case rel => exact ⟨(t131), (wrap64 (x5_1 + 1)), q3, q3, H', ⟨by have := HK1.out; omega⟩, ⟨q2⟩⟩

/-! ### laws_szRLog: function 70 -/
def laws_szRLog.f (k : Nat) (a0_0 : Int) (a0_1 : Int) (l0_2 : List (S112)) (a1 : Int) : Option (Int) := (laws_szEntryS.f k l0_2 a1).bind fun t133 => (if t133 < 0 then (some (-1)) else (some t133))
theorem laws_szRLog.mono : ∀ a0 a1 a2 a3 k, LeO (laws_szRLog.f k a0 a1 a2 a3) (laws_szRLog.f (k + 1) a0 a1 a2 a3) := by
 intro a0 a1 a2 a3 k
 unfold laws_szRLog.f
 repeat' first
     | (with_reducible exact laws_szEntryS.mono _ _ _)
     | (with_reducible exact LeO.refl _)
     | (with_reducible exact LeO.none _)
     | (with_reducible refine LeO.ite ?_ ?_)
     | (with_reducible refine LeO.bind ?_ (fun _ => ?_))
     | exact laws_szEntryS.mono _ _ _
     | exact LeO.none _
     | refine LeO.ite ?_ ?_
     | refine LeO.bind ?_ (fun _ => ?_)
set_option maxHeartbeats 8000000 in
set_option maxRecDepth 100000 in
theorem laws_szRLog.calls (k : Nat) (a0_0 : Int) (a0_1 : Int) (A0_2 : Option Addr) (c0_2 : Nat) (l0_2 : List (S112)) (a1 : Int) (r : Int) (w : World) (hr0_2 : Kd.C k112 w A0_2 l0_2.length l0_2) (hc0_2 : l0_2.length ≤ c0_2) (h : laws_szRLog.f k a0_0 a0_1 l0_2 a1 = some r) :
   Calls Try.prog 70 #[.agg #[.int .i64 a0_0, .int .i64 a0_1, .slice A0_2 l0_2.length c0_2], .int .i64 a1] w fun e w' => e = .returned (.int .i64 r) ∧ Below w.heap.size w w' := by
 have hu43 := Try.underlying43
 have HR0_2 := am hr0_2
 have HC0_2 := am hc0_2
 clear hr0_2 hc0_2
 have HB := am (Below.refl w.heap.size w)
 have H : ((laws_szEntryS.f k l0_2 a1).bind fun t133 => (if t133 < 0 then (some (-1)) else (some t133))) = some r := h
 clear h
 replace H := Option.bind_eq_some_iff.mp H
 obtain ⟨t133, A30, H⟩ := H
 replace H : (if t133 < 0 then (some (-1)) else (some t133)) = some r := H
 have A3 := am A30
 clear A30
 have H9 := am H
 clear H
 go_enter Try.func70, Try.ntmps70
 go_upto_if 10 with (first | ((with_reducible refine gate_dst (N := 2) rfl ?_); refine box_event ?hg (N := 2) ?hd (cs := #[.int .i64 a0_0, .int .i64 a0_1, .slice A0_2 l0_2.length c0_2]) (t := 43) ?hr ?_; (case hd => rfl); (case hg => rfl); (case hr => first | (go_simp; done) | (go_simp; rfl)); intro gb132 hg w4 hbox hb; have BK132 := am (hbox); have GW132 := am ((by rw [hg]; exact (below_size q2) : w.heap.size ≤ gb132)); have GE132 := am ((by rw [hg]; exact (below_size q2) : w.heap.size ≤ gb132)); replace HB := am (below_step q2 hb); clear hb hbox hg; obtain ⟨hcz5_0, hcz5_1, hcz5_2⟩ := bc3 w4 BK132.out) | ((with_reducible refine gate_callee (f := 61) rfl ?_); refine goesL_ (some 8) rfl rfl Try.func61 kr rfl #[.slice A0_2 l0_2.length c0_2, .int .i64 a1] rfl q0 ?_; (with_reducible refine (laws_szEntryS.calls k _ _ l0_2 a1 t133 _ ?side1 ?side2 A3.out).mono ?_); (case side1 => exact q5); (case side2 => exact HC0_2.out); rintro e w6 ⟨rfl, hb⟩; refine ⟨_, rfl, ?_⟩; replace BK132 := am (blk_below (g := gb132) (o := .cells #[.int .i64 a0_0, .int .i64 a0_1, .slice A0_2 l0_2.length c0_2] 43 (0, 0)) (by (with_reducible repeat (first | refine blk_drewN ?_ _ | refine blk_drew ?_ | refine blk_alloc ?_ _)); exact BK132.out) hb); replace HB := am (below_step q2 hb); (try clear hb); (try clear hb2); (try clear hk); (try clear hi)))
 have H := H9.out
 clear H9
 by_cases c7 : t133 < 0
 · rw [if_pos c7] at H
   have c7b0 : decide (t133 < 0) = true := decide_eq_true c7
   clear c7
   (first | rw [c7b0] | (simp only [i64_w, i32_w]; rw [c7b0]) | skip)
   obtain rfl := sj H
   go_wp2
   go_ret
   exact ⟨er, q2⟩
 rw [if_neg c7] at H
 have c7b0 : decide (t133 < 0) = false := decide_eq_false c7
 clear c7
 (first | rw [c7b0] | (simp only [i64_w, i32_w]; rw [c7b0]) | skip)
 obtain rfl := sj H
 go_wp2
 go_ret
 exact ⟨er, q2⟩

/-! ### laws_szIntS: function 71 -/
def laws_szIntS.f (l0 : List Int) (a1 : Int) : Option (Int) := if (wrap64 (a1 - (l0.length : Int))) < 0 then (some (-1)) else (some (wrap64 (a1 - (l0.length : Int))))
set_option maxHeartbeats 8000000 in
set_option maxRecDepth 100000 in
theorem laws_szIntS.calls (A0 : Option Addr) (c0 : Nat) (l0 : List Int) (a1 : Int) (r : Int) (w : World) (hr0 : Kd.C (Kd.int .i64) w A0 l0.length l0) (hc0 : l0.length ≤ c0) (h : laws_szIntS.f l0 a1 = some r) :
   Calls Try.prog 71 #[.slice A0 l0.length c0, .int .i64 a1] w fun e w' => e = .returned (.int .i64 r) ∧ Drawn0 w w' := by
 have HR0 := am hr0
 have HC0 := am hc0
 clear hr0 hc0
 have H : (if (wrap64 (a1 - (l0.length : Int))) < 0 then (some (-1)) else (some (wrap64 (a1 - (l0.length : Int))))) = some r := h
 clear h
 by_cases c3 : (wrap64 (a1 - (l0.length : Int))) < 0
 · rw [if_pos c3] at H
   have c3b0 : decide ((wrap64 (a1 - (l0.length : Int))) < 0) = true := decide_eq_true c3
   clear c3
   obtain rfl := sj H
   go_enter Try.func71, Try.ntmps71
   go_wp2
   go_ret
   exact ⟨by first | rfl | (simp; done) | (simp [*]; done), (by repeat (first | exact Drawn0.refl _ | apply Drawn0.step))⟩
 rw [if_neg c3] at H
 have c3b0 : decide ((wrap64 (a1 - (l0.length : Int))) < 0) = false := decide_eq_false c3
 clear c3
 obtain rfl := sj H
 go_enter Try.func71, Try.ntmps71
 go_wp2
 go_ret
 exact ⟨by first | rfl | (simp; done) | (simp [*]; done), (by repeat (first | exact Drawn0.refl _ | apply Drawn0.step))⟩

/-! ### laws_szNode: function 25 -/
def laws_szNode.f (k : Nat) (a0_0 : Int) (a0_1 : Int) (a0_2 : Int) (a0_3 : Int) (a0_4 : Int) (a0_5 : Int) (a0_6 : Int) (l0_7 : List (S112)) (l0_8 : List Int) (l0_9 : List Int) (a1 : Int) : Option (Int) := (laws_szRLog.f k a0_5 a0_6 l0_7 a1).bind fun t135 => (if t135 < 0 then (some (-1)) else ((laws_szIntS.f l0_8 t135).bind fun t136 => (if t136 < 0 then (some (-1)) else ((laws_szIntS.f l0_9 t136).bind fun t137 => (if t137 < 0 then (some (-1)) else (some t137))))))
theorem laws_szNode.mono : ∀ a0 a1 a2 a3 a4 a5 a6 a7 a8 a9 a10 k, LeO (laws_szNode.f k a0 a1 a2 a3 a4 a5 a6 a7 a8 a9 a10) (laws_szNode.f (k + 1) a0 a1 a2 a3 a4 a5 a6 a7 a8 a9 a10) := by
 intro a0 a1 a2 a3 a4 a5 a6 a7 a8 a9 a10 k
 unfold laws_szNode.f
 repeat' first
     | (with_reducible exact laws_szRLog.mono _ _ _ _ _)
     | (with_reducible exact LeO.refl _)
     | (with_reducible exact LeO.none _)
     | (with_reducible refine LeO.ite ?_ ?_)
     | (with_reducible refine LeO.bind ?_ (fun _ => ?_))
     | exact laws_szRLog.mono _ _ _ _ _
     | exact LeO.none _
     | refine LeO.ite ?_ ?_
     | refine LeO.bind ?_ (fun _ => ?_)
set_option maxHeartbeats 8000000 in
set_option maxRecDepth 100000 in
theorem laws_szNode.calls (k : Nat) (a0_0 : Int) (a0_1 : Int) (a0_2 : Int) (a0_3 : Int) (a0_4 : Int) (a0_5 : Int) (a0_6 : Int) (A0_7 : Option Addr) (c0_7 : Nat) (l0_7 : List (S112)) (A0_8 : Option Addr) (c0_8 : Nat) (l0_8 : List Int) (A0_9 : Option Addr) (c0_9 : Nat) (l0_9 : List Int) (a1 : Int) (r : Int) (w : World) (hr0_7 : Kd.C k112 w A0_7 l0_7.length l0_7) (hc0_7 : l0_7.length ≤ c0_7) (hr0_8 : Kd.C (Kd.int .i64) w A0_8 l0_8.length l0_8) (hc0_8 : l0_8.length ≤ c0_8) (hr0_9 : Kd.C (Kd.int .i64) w A0_9 l0_9.length l0_9) (hc0_9 : l0_9.length ≤ c0_9) (h : laws_szNode.f k a0_0 a0_1 a0_2 a0_3 a0_4 a0_5 a0_6 l0_7 l0_8 l0_9 a1 = some r) :
   Calls Try.prog 25 #[.agg #[.int .i64 a0_0, .int .i64 a0_1, .int .i64 a0_2, .int .i64 a0_3, .int .i64 a0_4, .int .i64 a0_5, .int .i64 a0_6, .slice A0_7 l0_7.length c0_7, .slice A0_8 l0_8.length c0_8, .slice A0_9 l0_9.length c0_9], .int .i64 a1] w fun e w' => e = .returned (.int .i64 r) ∧ Below w.heap.size w w' := by
 have hu45 := Try.underlying45
 have hu43 := Try.underlying43
 have HR0_7 := am hr0_7
 have HC0_7 := am hc0_7
 clear hr0_7 hc0_7
 have HR0_8 := am hr0_8
 have HC0_8 := am hc0_8
 clear hr0_8 hc0_8
 have HR0_9 := am hr0_9
 have HC0_9 := am hc0_9
 clear hr0_9 hc0_9
 have HB := am (Below.refl w.heap.size w)
 have H : ((laws_szRLog.f k a0_5 a0_6 l0_7 a1).bind fun t135 => (if t135 < 0 then (some (-1)) else ((laws_szIntS.f l0_8 t135).bind fun t136 => (if t136 < 0 then (some (-1)) else ((laws_szIntS.f l0_9 t136).bind fun t137 => (if t137 < 0 then (some (-1)) else (some t137))))))) = some r := h
 clear h
 replace H := Option.bind_eq_some_iff.mp H
 obtain ⟨t135, A30, H⟩ := H
 have A3 := am A30
 clear A30
 have H9 := am H
 clear H
 go_enter Try.func25, Try.ntmps25
 go_upto_if 10 with (first | ((with_reducible refine gate_dst (N := 2) rfl ?_); refine box_event ?hg (N := 2) ?hd (cs := #[.int .i64 a0_0, .int .i64 a0_1, .int .i64 a0_2, .int .i64 a0_3, .int .i64 a0_4, .int .i64 a0_5, .int .i64 a0_6, .slice A0_7 l0_7.length c0_7, .slice A0_8 l0_8.length c0_8, .slice A0_9 l0_9.length c0_9]) (t := 45) ?hr ?_; (case hd => rfl); (case hg => rfl); (case hr => first | (go_simp; done) | (go_simp; rfl)); intro gb134 hg w4 hbox hb; have BK134 := am (hbox); have GW134 := am ((by rw [hg]; exact (below_size q2) : w.heap.size ≤ gb134)); have GE134 := am ((by rw [hg]; exact (below_size q2) : w.heap.size ≤ gb134)); replace HB := am (below_step q2 hb); clear hb hbox hg; obtain ⟨hcz5_0, hcz5_1, hcz5_2, hcz5_3, hcz5_4, hcz5_5, hcz5_6, hcz5_7, hcz5_8, hcz5_9⟩ := bc10 w4 BK134.out) | ((with_reducible refine gate_callee (f := 70) rfl ?_); refine goesL_ (some 8) rfl rfl Try.func70 kr rfl #[.agg #[.int .i64 a0_5, .int .i64 a0_6, .slice A0_7 l0_7.length c0_7], .int .i64 a1] rfl q0 ?_; (with_reducible refine (laws_szRLog.calls k a0_5 a0_6 _ _ l0_7 a1 t135 _ ?side1 ?side2 A3.out).mono ?_); (case side1 => exact (by repeat (first | exact (Kd.C_below HR0_7.out HB.out) | (with_reducible refine Kd.C_alloc ?_ _) | (with_reducible refine Kd.C_drewN ?_ _) | (with_reducible refine Kd.C_drew ?_)))); (case side2 => exact HC0_7.out); rintro e w6 ⟨rfl, hb⟩; refine ⟨_, rfl, ?_⟩; replace BK134 := am (blk_below (g := gb134) (o := .cells #[.int .i64 a0_0, .int .i64 a0_1, .int .i64 a0_2, .int .i64 a0_3, .int .i64 a0_4, .int .i64 a0_5, .int .i64 a0_6, .slice A0_7 l0_7.length c0_7, .slice A0_8 l0_8.length c0_8, .slice A0_9 l0_9.length c0_9] 45 (0, 0)) (by (with_reducible repeat (first | refine blk_drewN ?_ _ | refine blk_drew ?_ | refine blk_alloc ?_ _)); exact BK134.out) hb); replace HB := am (below_step q2 hb); (try clear hb); (try clear hb2); (try clear hk); (try clear hi)))
 have H := H9.out
 clear H9
 by_cases c7 : t135 < 0
 · rw [if_pos c7] at H
   have c7b0 : decide (t135 < 0) = true := decide_eq_true c7
   clear c7
   (first | rw [c7b0] | (simp only [i64_w, i32_w]; rw [c7b0]) | skip)
   obtain rfl := sj H
   go_wp2
   go_ret
   exact ⟨er, q2⟩
 rw [if_neg c7] at H
 have c7b0 : decide (t135 < 0) = false := decide_eq_false c7
 clear c7
 (first | rw [c7b0] | (simp only [i64_w, i32_w]; rw [c7b0]) | skip)
 replace H := Option.bind_eq_some_iff.mp H
 obtain ⟨t136, A80, H⟩ := H
 have A8 := am A80
 clear A80
 have H9 := am H
 clear H
 obtain ⟨hcz9_0, hcz9_1, hcz9_2, hcz9_3, hcz9_4, hcz9_5, hcz9_6, hcz9_7, hcz9_8, hcz9_9⟩ := bc10 w6 BK134.out
 go_upto_if 16 with (first | ((with_reducible refine gate_callee (f := 71) rfl ?_); refine goesL_ (some 14) rfl rfl Try.func71 kr rfl #[.slice A0_8 l0_8.length c0_8, .int .i64 t135] rfl q0 ?_; (with_reducible refine (laws_szIntS.calls _ _ l0_8 t135 t136 _ ?side1 ?side2 A8.out).mono ?_); (case side1 => exact q6); (case side2 => exact HC0_8.out); rintro e w' ⟨rfl, ⟨nd, rfl⟩⟩; refine ⟨_, rfl, ?_⟩))
 have H := H9.out
 clear H9
 by_cases c10 : t136 < 0
 · rw [if_pos c10] at H
   have c10b0 : decide (t136 < 0) = true := decide_eq_true c10
   clear c10
   (first | rw [c10b0] | (simp only [i64_w, i32_w]; rw [c10b0]) | skip)
   obtain rfl := sj H
   go_wp2
   go_ret
   exact ⟨er, q2⟩
 rw [if_neg c10] at H
 have c10b0 : decide (t136 < 0) = false := decide_eq_false c10
 clear c10
 (first | rw [c10b0] | (simp only [i64_w, i32_w]; rw [c10b0]) | skip)
 replace H := Option.bind_eq_some_iff.mp H
 obtain ⟨t137, A110, H⟩ := H
 replace H : (if t137 < 0 then (some (-1)) else (some t137)) = some r := H
 have A11 := am A110
 clear A110
 have H9 := am H
 clear H
 obtain ⟨hcz12_0, hcz12_1, hcz12_2, hcz12_3, hcz12_4, hcz12_5, hcz12_6, hcz12_7, hcz12_8, hcz12_9⟩ := bc10 w6 BK134.out
 go_upto_if 22 with (first | ((with_reducible refine gate_callee (f := 71) rfl ?_); refine goesL_ (some 20) rfl rfl Try.func71 kr rfl #[.slice A0_9 l0_9.length c0_9, .int .i64 t136] rfl q0 ?_; (with_reducible refine (laws_szIntS.calls _ _ l0_9 t136 t137 _ ?side1 ?side2 A11.out).mono ?_); (case side1 => exact (by repeat (first | exact (Kd.C_below HR0_9.out HB.out) | (with_reducible refine Kd.C_alloc ?_ _) | (with_reducible refine Kd.C_drewN ?_ _) | (with_reducible refine Kd.C_drew ?_)))); (case side2 => exact HC0_9.out); rintro e w' ⟨rfl, ⟨nd, rfl⟩⟩; refine ⟨_, rfl, ?_⟩))
 have H := H9.out
 clear H9
 by_cases c13 : t137 < 0
 · rw [if_pos c13] at H
   have c13b0 : decide (t137 < 0) = true := decide_eq_true c13
   clear c13
   (first | rw [c13b0] | (simp only [i64_w, i32_w]; rw [c13b0]) | skip)
   obtain rfl := sj H
   go_wp2
   go_ret
   exact ⟨er, q2⟩
 rw [if_neg c13] at H
 have c13b0 : decide (t137 < 0) = false := decide_eq_false c13
 clear c13
 (first | rw [c13b0] | (simp only [i64_w, i32_w]; rw [c13b0]) | skip)
 obtain rfl := sj H
 go_wp2
 go_ret
 exact ⟨er, q2⟩

/-! ### laws_szNodeS: function 94 -/
def laws_szNodeS.l0 : Nat → List (S45) → Int → Int → Option (Int)
 | 0, _, _, _ => none
 | k + 1, x0, x1, x5 => if x5 < (x0.length : Int) then (if 0 ≤ x5 then ((laws_szNode.f k ((rd_T45 x0 x5).f0) ((rd_T45 x0 x5).f1) ((rd_T45 x0 x5).f2) ((rd_T45 x0 x5).f3) ((rd_T45 x0 x5).f4) ((rd_T45 x0 x5).f5.f0) ((rd_T45 x0 x5).f5.f1) ((rd_T45 x0 x5).f5.f2) ((rd_T45 x0 x5).f6) ((rd_T45 x0 x5).f7) x1).bind fun t139 => (if t139 < 0 then (some (-1)) else (laws_szNodeS.l0 k x0 t139 (wrap64 (x5 + 1))))) else (none)) else (some x1)
def laws_szNodeS.f (k : Nat) (l0 : List (S45)) (a1 : Int) : Option (Int) := if (wrap64 (a1 - (l0.length : Int))) < 0 then (some (-1)) else (laws_szNodeS.l0 k l0 (wrap64 (a1 - (l0.length : Int))) 0)
theorem laws_szNodeS.mono_l : ∀ k, (∀ y0 y1 y2, LeO (laws_szNodeS.l0 k y0 y1 y2) (laws_szNodeS.l0 (k + 1) y0 y1 y2))
 | 0 => fun _ _ _ r h => by simp [laws_szNodeS.l0] at h
 | k + 1 => by
   have ih0 := laws_szNodeS.mono_l k
   · intro y0 y1 y2
     unfold laws_szNodeS.l0
     repeat' first
     | (with_reducible exact ih0 _ _ _)
     | (with_reducible exact laws_szNode.mono _ _ _ _ _ _ _ _ _ _ _ _)
     | (with_reducible exact LeO.refl _)
     | (with_reducible exact LeO.none _)
     | (with_reducible refine LeO.ite ?_ ?_)
     | (with_reducible refine LeO.bind ?_ (fun _ => ?_))
     | exact ih0 _ _ _
     | exact laws_szNode.mono _ _ _ _ _ _ _ _ _ _ _ _
     | exact LeO.none _
     | refine LeO.ite ?_ ?_
     | refine LeO.bind ?_ (fun _ => ?_)
theorem laws_szNodeS.mono : ∀ a0 a1 k, LeO (laws_szNodeS.f k a0 a1) (laws_szNodeS.f (k + 1) a0 a1) := by
 intro a0 a1 k
 have ih0 := laws_szNodeS.mono_l k
 unfold laws_szNodeS.f
 repeat' first
     | (with_reducible exact ih0 _ _ _)
     | (with_reducible exact laws_szNode.mono _ _ _ _ _ _ _ _ _ _ _ _)
     | (with_reducible exact LeO.refl _)
     | (with_reducible exact LeO.none _)
     | (with_reducible refine LeO.ite ?_ ?_)
     | (with_reducible refine LeO.bind ?_ (fun _ => ?_))
     | exact ih0 _ _ _
     | exact laws_szNode.mono _ _ _ _ _ _ _ _ _ _ _ _
     | exact LeO.none _
     | refine LeO.ite ?_ ?_
     | refine LeO.bind ?_ (fun _ => ?_)
set_option maxHeartbeats 8000000 in
set_option maxRecDepth 100000 in
theorem laws_szNodeS.calls (k : Nat) (A0 : Option Addr) (c0 : Nat) (l0 : List (S45)) (a1 : Int) (r : Int) (w : World) (hr0 : Kd.C k45 w A0 l0.length l0) (hc0 : l0.length ≤ c0) (h : laws_szNodeS.f k l0 a1 = some r) :
   Calls Try.prog 94 #[.slice A0 l0.length c0, .int .i64 a1] w fun e w' => e = .returned (.int .i64 r) ∧ Below w.heap.size w w' := by
 have hu45 := Try.underlying45
 have HR0 := am hr0
 have HC0 := am hc0
 clear hr0 hc0
 have HB := am (Below.refl w.heap.size w)
 have H : (if (wrap64 (a1 - (l0.length : Int))) < 0 then (some (-1)) else (laws_szNodeS.l0 k l0 (wrap64 (a1 - (l0.length : Int))) 0)) = some r := h
 clear h
 by_cases c3 : (wrap64 (a1 - (l0.length : Int))) < 0
 · rw [if_pos c3] at H
   have c3b0 : decide ((wrap64 (a1 - (l0.length : Int))) < 0) = true := decide_eq_true c3
   clear c3
   obtain rfl := sj H
   go_enter Try.func94, Try.ntmps94
   go_wp2
   go_ret
   exact ⟨er, q2⟩
 rw [if_neg c3] at H
 have c3b0 : decide ((wrap64 (a1 - (l0.length : Int))) < 0) = false := decide_eq_false c3
 clear c3
 have H' := am H
 clear H
 go_enter Try.func94, Try.ntmps94
 go_wp2
 go_loopg [1, 5] k (fun kq v1 v5 w' => ∃ (x1_1 : Int) (x5_1 : Int), v1 = .int .i64 x1_1 ∧ v5 = .int .i64 x5_1 ∧ Aside0 (laws_szNodeS.l0 kq l0 x1_1 x5_1 = some r) ∧ Aside0 (kq ≤ k) ∧ Aside0 (Below w.heap.size w w'))
 case atStart => exact ⟨(wrap64 (a1 - (l0.length : Int))), (0), q3, q3, H', ⟨Nat.le_refl _⟩, ⟨q2⟩⟩
 clear H'
 try clear c3
 try clear c3b0
 obtain ⟨x1_1, x5_1, rfl, rfl, HA, HK1, HB⟩ := hrel
 cases gk with
 | zero => exact absurd HA.out (by simp [laws_szNodeS.l0])
 | succ k1 =>
   have H := HA.out
   clear HA
   simp only [laws_szNodeS.l0] at H
   by_cases c4 : x5_1 < (l0.length : Int)
   rotate_left
   · rw [if_neg c4] at H
     have c4b0 : decide (x5_1 < (l0.length : Int)) = false := decide_eq_false c4
     clear c4
     obtain rfl := sj H
     go_wp2
     go_ret
     exact ⟨er, q2⟩
   rw [if_pos c4] at H
   have c4b0 : decide (x5_1 < (l0.length : Int)) = true := decide_eq_true c4
   clear c4
   by_cases c5 : 0 ≤ x5_1
   rotate_left
   · rw [if_neg c5] at H
     exact absurd H (by simp)
   rw [if_pos c5] at H
   have c5b0 : decide (0 ≤ x5_1) = true := decide_eq_true c5
   clear c5
   replace H := Option.bind_eq_some_iff.mp H
   obtain ⟨t139, A60, H⟩ := H
   replace H : (if t139 < 0 then (some (-1)) else (laws_szNodeS.l0 k1 l0 t139 (wrap64 (x5_1 + 1)))) = some r := H
   have A6 := am A60
   clear A60
   have H9 := am H
   clear H
   have p138 : 0 ≤ (x5_1 : Int) := of_decide_eq_true q1
   have q138 : x5_1 < (l0.length : Int) := of_decide_eq_true q1
   obtain ⟨ad138, A138_7, c138_7, A138_8, c138_8, A138_9, c138_9, e138, hx138_0, hx138_1, hx138_2, hx138_3, hx138_4, hx138_5, hx138_6, hx138_7, hx138_8, hx138_9, hl138_7, hi138_7, hl138_8, hi138_8, hl138_9, hi138_9⟩ := at_T45 HR0.out x5_1 p138 q138
   cases e138
   replace hx138_0 := cm HB.out hx138_0
   replace hx138_1 := cm HB.out hx138_1
   replace hx138_2 := cm HB.out hx138_2
   replace hx138_3 := cm HB.out hx138_3
   replace hx138_4 := cm HB.out hx138_4
   replace hx138_5 := cm HB.out hx138_5
   replace hx138_6 := cm HB.out hx138_6
   replace hx138_7 := cm HB.out hx138_7
   replace hx138_8 := cm HB.out hx138_8
   replace hx138_9 := cm HB.out hx138_9
   have HR138_7 := am hi138_7
   have HC138_7 := am hl138_7
   clear hi138_7 hl138_7
   have HR138_8 := am hi138_8
   have HC138_8 := am hl138_8
   clear hi138_8 hl138_8
   have HR138_9 := am hi138_9
   have HC138_9 := am hl138_9
   clear hi138_9 hl138_9
   replace p138 := eq_true p138
   replace q138 := eq_true q138
   go_upto_if 25 with (first | ((with_reducible refine gate_callee (f := 25) rfl ?_); refine goesL_ (some 23) rfl rfl Try.func25 kr rfl #[.agg #[.int .i64 ((rd_T45 l0 x5_1).f0), .int .i64 ((rd_T45 l0 x5_1).f1), .int .i64 ((rd_T45 l0 x5_1).f2), .int .i64 ((rd_T45 l0 x5_1).f3), .int .i64 ((rd_T45 l0 x5_1).f4), .int .i64 ((rd_T45 l0 x5_1).f5.f0), .int .i64 ((rd_T45 l0 x5_1).f5.f1), .slice A138_7 ((rd_T45 l0 x5_1).f5.f2).length c138_7, .slice A138_8 ((rd_T45 l0 x5_1).f6).length c138_8, .slice A138_9 ((rd_T45 l0 x5_1).f7).length c138_9], .int .i64 x1_1] rfl q0 ?_; (with_reducible refine (laws_szNode.calls k1 ((rd_T45 l0 x5_1).f0) ((rd_T45 l0 x5_1).f1) ((rd_T45 l0 x5_1).f2) ((rd_T45 l0 x5_1).f3) ((rd_T45 l0 x5_1).f4) ((rd_T45 l0 x5_1).f5.f0) ((rd_T45 l0 x5_1).f5.f1) _ _ ((rd_T45 l0 x5_1).f5.f2) _ _ ((rd_T45 l0 x5_1).f6) _ _ ((rd_T45 l0 x5_1).f7) x1_1 t139 _ ?side1 ?side2 ?side3 ?side4 ?side5 ?side6 A6.out).mono ?_); (case side1 => exact (by repeat (first | exact (Kd.C_below HR138_7.out HB.out) | (with_reducible refine Kd.C_alloc ?_ _) | (with_reducible refine Kd.C_drewN ?_ _) | (with_reducible refine Kd.C_drew ?_)))); (case side2 => exact HC138_7.out); (case side3 => exact (by repeat (first | exact (Kd.C_below HR138_8.out HB.out) | (with_reducible refine Kd.C_alloc ?_ _) | (with_reducible refine Kd.C_drewN ?_ _) | (with_reducible refine Kd.C_drew ?_)))); (case side4 => exact HC138_8.out); (case side5 => exact (by repeat (first | exact (Kd.C_below HR138_9.out HB.out) | (with_reducible refine Kd.C_alloc ?_ _) | (with_reducible refine Kd.C_drewN ?_ _) | (with_reducible refine Kd.C_drew ?_)))); (case side6 => exact HC138_9.out); rintro e w7 ⟨rfl, hb⟩; refine ⟨_, rfl, ?_⟩; replace HB := am (below_step q2 hb); (try clear hb); (try clear hb2); (try clear hk); (try clear hi)))
   have H := H9.out
   clear H9
   by_cases c8 : t139 < 0
   · rw [if_pos c8] at H
     have c8b0 : decide (t139 < 0) = true := decide_eq_true c8
     clear c8
     (first | rw [c8b0] | (simp only [i64_w, i32_w]; rw [c8b0]) | skip)
     obtain rfl := sj H
     go_wp2
     go_ret
     exact ⟨er, q2⟩
   rw [if_neg c8] at H
   have c8b0 : decide (t139 < 0) = false := decide_eq_false c8
   clear c8
   (first | rw [c8b0] | (simp only [i64_w, i32_w]; rw [c8b0]) | skip)
   have H' := am H
   clear H
   go_wp2
   go_roundg k1
   case measure => have := HK1.out; omega
   case rel => exact ⟨(t139), (wrap64 (x5_1 + 1)), q3, q3, H', ⟨by have := HK1.out; omega⟩, ⟨q2⟩⟩

/-! ### laws_szMsg: function 15 -/
def laws_szMsg.f (k : Nat) (a0_0 : Int) (a0_1 : Int) (a0_2 : Int) (a0_3 : Int) (a0_4 : Int) (a0_5 : Int) (a0_6 : Int) (a0_7 : Bool) (l0_8 : List (S112)) (a1 : Int) : Option (Int) := (laws_szEntryS.f k l0_8 a1).bind fun t141 => (if t141 < 0 then (some (-1)) else (some t141))
theorem laws_szMsg.mono : ∀ a0 a1 a2 a3 a4 a5 a6 a7 a8 a9 k, LeO (laws_szMsg.f k a0 a1 a2 a3 a4 a5 a6 a7 a8 a9) (laws_szMsg.f (k + 1) a0 a1 a2 a3 a4 a5 a6 a7 a8 a9) := by
 intro a0 a1 a2 a3 a4 a5 a6 a7 a8 a9 k
 unfold laws_szMsg.f
 repeat' first
     | (with_reducible exact laws_szEntryS.mono _ _ _)
     | (with_reducible exact LeO.refl _)
     | (with_reducible exact LeO.none _)
     | (with_reducible refine LeO.ite ?_ ?_)
     | (with_reducible refine LeO.bind ?_ (fun _ => ?_))
     | exact laws_szEntryS.mono _ _ _
     | exact LeO.none _
     | refine LeO.ite ?_ ?_
     | refine LeO.bind ?_ (fun _ => ?_)
set_option maxHeartbeats 8000000 in
set_option maxRecDepth 100000 in
theorem laws_szMsg.calls (k : Nat) (a0_0 : Int) (a0_1 : Int) (a0_2 : Int) (a0_3 : Int) (a0_4 : Int) (a0_5 : Int) (a0_6 : Int) (a0_7 : Bool) (A0_8 : Option Addr) (c0_8 : Nat) (l0_8 : List (S112)) (a1 : Int) (r : Int) (w : World) (hr0_8 : Kd.C k112 w A0_8 l0_8.length l0_8) (hc0_8 : l0_8.length ≤ c0_8) (h : laws_szMsg.f k a0_0 a0_1 a0_2 a0_3 a0_4 a0_5 a0_6 a0_7 l0_8 a1 = some r) :
   Calls Try.prog 15 #[.agg #[.int .i64 a0_0, .int .i64 a0_1, .int .i64 a0_2, .int .i64 a0_3, .int .i64 a0_4, .int .i64 a0_5, .int .i64 a0_6, .bool a0_7, .slice A0_8 l0_8.length c0_8], .int .i64 a1] w fun e w' => e = .returned (.int .i64 r) ∧ Below w.heap.size w w' := by
 have hu24 := Try.underlying24
 have HR0_8 := am hr0_8
 have HC0_8 := am hc0_8
 clear hr0_8 hc0_8
 have HB := am (Below.refl w.heap.size w)
 have H : ((laws_szEntryS.f k l0_8 a1).bind fun t141 => (if t141 < 0 then (some (-1)) else (some t141))) = some r := h
 clear h
 replace H := Option.bind_eq_some_iff.mp H
 obtain ⟨t141, A30, H⟩ := H
 replace H : (if t141 < 0 then (some (-1)) else (some t141)) = some r := H
 have A3 := am A30
 clear A30
 have H9 := am H
 clear H
 go_enter Try.func15, Try.ntmps15
 go_upto_if 10 with (first | ((with_reducible refine gate_dst (N := 2) rfl ?_); refine box_event ?hg (N := 2) ?hd (cs := #[.int .i64 a0_0, .int .i64 a0_1, .int .i64 a0_2, .int .i64 a0_3, .int .i64 a0_4, .int .i64 a0_5, .int .i64 a0_6, .bool a0_7, .slice A0_8 l0_8.length c0_8]) (t := 24) ?hr ?_; (case hd => rfl); (case hg => rfl); (case hr => first | (go_simp; done) | (go_simp; rfl)); intro gb140 hg w4 hbox hb; have BK140 := am (hbox); have GW140 := am ((by rw [hg]; exact (below_size q2) : w.heap.size ≤ gb140)); have GE140 := am ((by rw [hg]; exact (below_size q2) : w.heap.size ≤ gb140)); replace HB := am (below_step q2 hb); clear hb hbox hg; obtain ⟨hcz5_0, hcz5_1, hcz5_2, hcz5_3, hcz5_4, hcz5_5, hcz5_6, hcz5_7, hcz5_8⟩ := bc9 w4 BK140.out) | ((with_reducible refine gate_callee (f := 61) rfl ?_); refine goesL_ (some 8) rfl rfl Try.func61 kr rfl #[.slice A0_8 l0_8.length c0_8, .int .i64 a1] rfl q0 ?_; (with_reducible refine (laws_szEntryS.calls k _ _ l0_8 a1 t141 _ ?side1 ?side2 A3.out).mono ?_); (case side1 => exact q6); (case side2 => exact HC0_8.out); rintro e w6 ⟨rfl, hb⟩; refine ⟨_, rfl, ?_⟩; replace BK140 := am (blk_below (g := gb140) (o := .cells #[.int .i64 a0_0, .int .i64 a0_1, .int .i64 a0_2, .int .i64 a0_3, .int .i64 a0_4, .int .i64 a0_5, .int .i64 a0_6, .bool a0_7, .slice A0_8 l0_8.length c0_8] 24 (0, 0)) (by (with_reducible repeat (first | refine blk_drewN ?_ _ | refine blk_drew ?_ | refine blk_alloc ?_ _)); exact BK140.out) hb); replace HB := am (below_step q2 hb); (try clear hb); (try clear hb2); (try clear hk); (try clear hi)))
 have H := H9.out
 clear H9
 by_cases c7 : t141 < 0
 · rw [if_pos c7] at H
   have c7b0 : decide (t141 < 0) = true := decide_eq_true c7
   clear c7
   (first | rw [c7b0] | (simp only [i64_w, i32_w]; rw [c7b0]) | skip)
   obtain rfl := sj H
   go_wp2
   go_ret
   exact ⟨er, q2⟩
 rw [if_neg c7] at H
 have c7b0 : decide (t141 < 0) = false := decide_eq_false c7
 clear c7
 (first | rw [c7b0] | (simp only [i64_w, i32_w]; rw [c7b0]) | skip)
 obtain rfl := sj H
 go_wp2
 go_ret
 exact ⟨er, q2⟩

/-! ### laws_szMsgS: function 95 -/
def laws_szMsgS.l0 : Nat → List (S24) → Int → Int → Option (Int)
 | 0, _, _, _ => none
 | k + 1, x0, x1, x5 => if x5 < (x0.length : Int) then (if 0 ≤ x5 then ((laws_szMsg.f k ((rd_T24 x0 x5).f0) ((rd_T24 x0 x5).f1) ((rd_T24 x0 x5).f2) ((rd_T24 x0 x5).f3) ((rd_T24 x0 x5).f4) ((rd_T24 x0 x5).f5) ((rd_T24 x0 x5).f6) ((rd_T24 x0 x5).f7) ((rd_T24 x0 x5).f8) x1).bind fun t143 => (if t143 < 0 then (some (-1)) else (laws_szMsgS.l0 k x0 t143 (wrap64 (x5 + 1))))) else (none)) else (some x1)
def laws_szMsgS.f (k : Nat) (l0 : List (S24)) (a1 : Int) : Option (Int) := if (wrap64 (a1 - (l0.length : Int))) < 0 then (some (-1)) else (laws_szMsgS.l0 k l0 (wrap64 (a1 - (l0.length : Int))) 0)
theorem laws_szMsgS.mono_l : ∀ k, (∀ y0 y1 y2, LeO (laws_szMsgS.l0 k y0 y1 y2) (laws_szMsgS.l0 (k + 1) y0 y1 y2))
 | 0 => fun _ _ _ r h => by simp [laws_szMsgS.l0] at h
 | k + 1 => by
   have ih0 := laws_szMsgS.mono_l k
   · intro y0 y1 y2
     unfold laws_szMsgS.l0
     repeat' first
     | (with_reducible exact ih0 _ _ _)
     | (with_reducible exact laws_szMsg.mono _ _ _ _ _ _ _ _ _ _ _)
     | (with_reducible exact LeO.refl _)
     | (with_reducible exact LeO.none _)
     | (with_reducible refine LeO.ite ?_ ?_)
     | (with_reducible refine LeO.bind ?_ (fun _ => ?_))
     | exact ih0 _ _ _
     | exact laws_szMsg.mono _ _ _ _ _ _ _ _ _ _ _
     | exact LeO.none _
     | refine LeO.ite ?_ ?_
     | refine LeO.bind ?_ (fun _ => ?_)
theorem laws_szMsgS.mono : ∀ a0 a1 k, LeO (laws_szMsgS.f k a0 a1) (laws_szMsgS.f (k + 1) a0 a1) := by
 intro a0 a1 k
 have ih0 := laws_szMsgS.mono_l k
 unfold laws_szMsgS.f
 repeat' first
     | (with_reducible exact ih0 _ _ _)
     | (with_reducible exact laws_szMsg.mono _ _ _ _ _ _ _ _ _ _ _)
     | (with_reducible exact LeO.refl _)
     | (with_reducible exact LeO.none _)
     | (with_reducible refine LeO.ite ?_ ?_)
     | (with_reducible refine LeO.bind ?_ (fun _ => ?_))
     | exact ih0 _ _ _
     | exact laws_szMsg.mono _ _ _ _ _ _ _ _ _ _ _
     | exact LeO.none _
     | refine LeO.ite ?_ ?_
     | refine LeO.bind ?_ (fun _ => ?_)
set_option maxHeartbeats 8000000 in
set_option maxRecDepth 100000 in
theorem laws_szMsgS.calls (k : Nat) (A0 : Option Addr) (c0 : Nat) (l0 : List (S24)) (a1 : Int) (r : Int) (w : World) (hr0 : Kd.C k24 w A0 l0.length l0) (hc0 : l0.length ≤ c0) (h : laws_szMsgS.f k l0 a1 = some r) :
   Calls Try.prog 95 #[.slice A0 l0.length c0, .int .i64 a1] w fun e w' => e = .returned (.int .i64 r) ∧ Below w.heap.size w w' := by
 have hu24 := Try.underlying24
 have HR0 := am hr0
 have HC0 := am hc0
 clear hr0 hc0
 have HB := am (Below.refl w.heap.size w)
 have H : (if (wrap64 (a1 - (l0.length : Int))) < 0 then (some (-1)) else (laws_szMsgS.l0 k l0 (wrap64 (a1 - (l0.length : Int))) 0)) = some r := h
 clear h
 by_cases c3 : (wrap64 (a1 - (l0.length : Int))) < 0
 · rw [if_pos c3] at H
   have c3b0 : decide ((wrap64 (a1 - (l0.length : Int))) < 0) = true := decide_eq_true c3
   clear c3
   obtain rfl := sj H
   go_enter Try.func95, Try.ntmps95
   go_wp2
   go_ret
   exact ⟨er, q2⟩
 rw [if_neg c3] at H
 have c3b0 : decide ((wrap64 (a1 - (l0.length : Int))) < 0) = false := decide_eq_false c3
 clear c3
 have H' := am H
 clear H
 go_enter Try.func95, Try.ntmps95
 go_wp2
 go_loopg [1, 5] k (fun kq v1 v5 w' => ∃ (x1_1 : Int) (x5_1 : Int), v1 = .int .i64 x1_1 ∧ v5 = .int .i64 x5_1 ∧ Aside0 (laws_szMsgS.l0 kq l0 x1_1 x5_1 = some r) ∧ Aside0 (kq ≤ k) ∧ Aside0 (Below w.heap.size w w'))
 case atStart => exact ⟨(wrap64 (a1 - (l0.length : Int))), (0), q3, q3, H', ⟨Nat.le_refl _⟩, ⟨q2⟩⟩
 clear H'
 try clear c3
 try clear c3b0
 obtain ⟨x1_1, x5_1, rfl, rfl, HA, HK1, HB⟩ := hrel
 cases gk with
 | zero => exact absurd HA.out (by simp [laws_szMsgS.l0])
 | succ k1 =>
   have H := HA.out
   clear HA
   simp only [laws_szMsgS.l0] at H
   by_cases c4 : x5_1 < (l0.length : Int)
   rotate_left
   · rw [if_neg c4] at H
     have c4b0 : decide (x5_1 < (l0.length : Int)) = false := decide_eq_false c4
     clear c4
     obtain rfl := sj H
     go_wp2
     go_ret
     exact ⟨er, q2⟩
   rw [if_pos c4] at H
   have c4b0 : decide (x5_1 < (l0.length : Int)) = true := decide_eq_true c4
   clear c4
   by_cases c5 : 0 ≤ x5_1
   rotate_left
   · rw [if_neg c5] at H
     exact absurd H (by simp)
   rw [if_pos c5] at H
   have c5b0 : decide (0 ≤ x5_1) = true := decide_eq_true c5
   clear c5
   replace H := Option.bind_eq_some_iff.mp H
   obtain ⟨t143, A60, H⟩ := H
   replace H : (if t143 < 0 then (some (-1)) else (laws_szMsgS.l0 k1 l0 t143 (wrap64 (x5_1 + 1)))) = some r := H
   have A6 := am A60
   clear A60
   have H9 := am H
   clear H
   have p142 : 0 ≤ (x5_1 : Int) := of_decide_eq_true q1
   have q142 : x5_1 < (l0.length : Int) := of_decide_eq_true q1
   obtain ⟨ad142, A142_8, c142_8, e142, hx142_0, hx142_1, hx142_2, hx142_3, hx142_4, hx142_5, hx142_6, hx142_7, hx142_8, hl142_8, hi142_8⟩ := at_T24 HR0.out x5_1 p142 q142
   cases e142
   replace hx142_0 := cm HB.out hx142_0
   replace hx142_1 := cm HB.out hx142_1
   replace hx142_2 := cm HB.out hx142_2
   replace hx142_3 := cm HB.out hx142_3
   replace hx142_4 := cm HB.out hx142_4
   replace hx142_5 := cm HB.out hx142_5
   replace hx142_6 := cm HB.out hx142_6
   replace hx142_7 := cm HB.out hx142_7
   replace hx142_8 := cm HB.out hx142_8
   have HR142_8 := am hi142_8
   have HC142_8 := am hl142_8
   clear hi142_8 hl142_8
   replace p142 := eq_true p142
   replace q142 := eq_true q142
   go_upto_if 25 with (first | ((with_reducible refine gate_callee (f := 15) rfl ?_); refine goesL_ (some 23) rfl rfl Try.func15 kr rfl #[.agg #[.int .i64 ((rd_T24 l0 x5_1).f0), .int .i64 ((rd_T24 l0 x5_1).f1), .int .i64 ((rd_T24 l0 x5_1).f2), .int .i64 ((rd_T24 l0 x5_1).f3), .int .i64 ((rd_T24 l0 x5_1).f4), .int .i64 ((rd_T24 l0 x5_1).f5), .int .i64 ((rd_T24 l0 x5_1).f6), .bool ((rd_T24 l0 x5_1).f7), .slice A142_8 ((rd_T24 l0 x5_1).f8).length c142_8], .int .i64 x1_1] rfl q0 ?_; (with_reducible refine (laws_szMsg.calls k1 ((rd_T24 l0 x5_1).f0) ((rd_T24 l0 x5_1).f1) ((rd_T24 l0 x5_1).f2) ((rd_T24 l0 x5_1).f3) ((rd_T24 l0 x5_1).f4) ((rd_T24 l0 x5_1).f5) ((rd_T24 l0 x5_1).f6) ((rd_T24 l0 x5_1).f7) _ _ ((rd_T24 l0 x5_1).f8) x1_1 t143 _ ?side1 ?side2 A6.out).mono ?_); (case side1 => exact (by repeat (first | exact (Kd.C_below HR142_8.out HB.out) | (with_reducible refine Kd.C_alloc ?_ _) | (with_reducible refine Kd.C_drewN ?_ _) | (with_reducible refine Kd.C_drew ?_)))); (case side2 => exact HC142_8.out); rintro e w7 ⟨rfl, hb⟩; refine ⟨_, rfl, ?_⟩; replace HB := am (below_step q2 hb); (try clear hb); (try clear hb2); (try clear hk); (try clear hi)))
   have H := H9.out
   clear H9
   by_cases c8 : t143 < 0
   · rw [if_pos c8] at H
     have c8b0 : decide (t143 < 0) = true := decide_eq_true c8
     clear c8
     (first | rw [c8b0] | (simp only [i64_w, i32_w]; rw [c8b0]) | skip)
     obtain rfl := sj H
     go_wp2
     go_ret
     exact ⟨er, q2⟩
   rw [if_neg c8] at H
   have c8b0 : decide (t143 < 0) = false := decide_eq_false c8
   clear c8
   (first | rw [c8b0] | (simp only [i64_w, i32_w]; rw [c8b0]) | skip)
   have H' := am H
   clear H
   go_wp2
   go_roundg k1
   case measure => have := HK1.out; omega
   case rel => exact ⟨(t143), (wrap64 (x5_1 + 1)), q3, q3, H', ⟨by have := HK1.out; omega⟩, ⟨q2⟩⟩

end Go.Proofs.Ytkcadcoohmofcaa.QFnExactSafeGroup
