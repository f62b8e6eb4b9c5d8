-- Printed by the session's own program wip/prx.py.
import Derived.Test.YtkcadcoohmofcaaSqFnExactGroupOk
import Derived.Test.YtkcadcoohmofcaaQFnExactGroupOkx0
namespace Go.Proofs.Ytkcadcoohmofcaa.QFnExactGroupOk
open Go.RowKit Go.Proofs.YtkcadcoohmofcaaW.PrintWords Go.Proofs.YtkcadcoohmofcaaW.PrintLast Go.Proofs.YtkcadcoohmofcaaW.PrintMore Go.Proofs.Ytkcadcoohmofcaa.SqFnExactGroupOk
attribute [local go_sem] max2_int min2_int max_two min_two max_three min_three max_four min_four Go.Proofs.Ytkcadcoohmofcaa.Set.isSome_setCell
set_option linter.unusedVariables false
set_option linter.unusedSimpArgs false

-- squeezed
theorem u11_0 {P : Prop} (h : P := by repeat (first | (with_reducible first | exact HB.out | apply below_alloc | apply pw_below_drewN | apply below_drew1) | exact HB.out)) : P := h
theorem u11_1 {P : Prop} (h : P := by repeat (first | (with_reducible first | exact HB.out | apply below_alloc | apply pw_below_drewN | apply below_drew1 | refine below_set ?_ GE224.out | refine below_set ?_ GE225.out | refine below_set ?_ GE226.out) | exact HB.out)) : P := h
theorem u11_2 {P : Prop} (h : P := by first | (with_reducible assumption) | assumption) : P := h
theorem u11_3 {P : Prop} (h : P := by repeat (first | (with_reducible first | exact HB.out | apply below_alloc | apply pw_below_drewN | apply below_drew1 | refine below_set ?_ GE281.out | refine below_set ?_ GE282.out | refine below_set ?_ GE283.out) | exact HB.out)) : P := h
theorem u11_4 {P : Prop} (h : P := by (try simp only [List.map_toArray, List.map_cons, List.map_nil]); first | done | rfl | (simp only [List.length_drop, List.length_take]; rfl)) : P := h
theorem u11_5 {P : Prop} (h : P := by repeat (first | (with_reducible first | exact HB.out | apply below_alloc | apply pw_below_drewN | apply below_drew1 | refine below_set ?_ GE213.out | refine below_set ?_ GE214.out | refine below_set ?_ GE215.out) | exact HB.out)) : P := h
theorem u11_6 {P : Prop} (h : P := by repeat (first | (with_reducible first | exact HB.out | apply below_alloc | apply pw_below_drewN | apply below_drew1 | refine below_set ?_ GE259.out | refine below_set ?_ GE260.out | refine below_set ?_ GE261.out) | exact HB.out)) : P := h
theorem u11_7 {P : Prop} (h : P := by (with_reducible repeat (first | refine blk_drewN ?_ _ | refine blk_drew ?_ | refine blk_alloc ?_ _)); exact BK203.out) : P := h
theorem u11_8 {P : Prop} (h : P := by (with_reducible repeat (first | refine blk_drewN ?_ _ | refine blk_drew ?_ | refine blk_alloc ?_ _)); exact BK213.out) : P := h
theorem u11_9 {P : Prop} (h : P := by (with_reducible repeat (first | refine blk_drewN ?_ _ | refine blk_drew ?_ | refine blk_alloc ?_ _)); exact BK224.out) : P := h
theorem u11_10 {P : Prop} (h : P := by (with_reducible repeat (first | refine blk_drewN ?_ _ | refine blk_drew ?_ | refine blk_alloc ?_ _)); exact BK259.out) : P := h
theorem u11_11 {P : Prop} (h : P := by (with_reducible repeat (first | refine blk_drewN ?_ _ | refine blk_drew ?_ | refine blk_alloc ?_ _)); exact BK281.out) : P := h
theorem u11_12 {P : Prop} (h : P := by (with_reducible repeat (first | apply Kd.R_alloc | apply Kd.R_drewN | apply Kd.R_drew)); exact HO_3.out) : P := h
theorem u11_13 {P : Prop} (h : P := by (with_reducible repeat (first | apply Kd.S_alloc | apply Kd.S_drewN | apply Kd.S_drew)); exact HO_3.out) : P := h
theorem u11_14 {P : Prop} (h : P := by repeat (first | (with_reducible first | exact HB.out | apply below_alloc | apply pw_below_drewN | apply below_drew1 | refine below_set ?_ GE203.out | refine below_set ?_ GE204.out) | exact HB.out)) : P := h
theorem u11_15 {P : Prop} (h : P := by repeat (first | (with_reducible first | exact HB.out | apply below_alloc | apply pw_below_drewN | apply below_drew1 | refine below_set ?_ GE213.out | refine below_set ?_ GE214.out) | exact HB.out)) : P := h
theorem u11_16 {P : Prop} (h : P := by repeat (first | (with_reducible first | exact HB.out | apply below_alloc | apply pw_below_drewN | apply below_drew1 | refine below_set ?_ GE224.out | refine below_set ?_ GE225.out) | exact HB.out)) : P := h
theorem u11_17 {P : Prop} (h : P := by repeat (first | (with_reducible first | exact HB.out | apply below_alloc | apply pw_below_drewN | apply below_drew1 | refine below_set ?_ GE259.out | refine below_set ?_ GE260.out) | exact HB.out)) : P := h
theorem u11_18 {P : Prop} (h : P := by repeat (first | (with_reducible first | exact HB.out | apply below_alloc | apply pw_below_drewN | apply below_drew1 | refine below_set ?_ GE281.out | refine below_set ?_ GE282.out) | exact HB.out)) : P := h
theorem u11_19 {P : Prop} (h : P := by repeat (first | (with_reducible first | exact HB.out | apply below_alloc | apply pw_below_drewN | apply below_drew1 | refine below_set ?_ GE203.out) | exact HB.out)) : P := h
theorem u11_20 {P : Prop} (h : P := by repeat (first | (with_reducible first | exact HB.out | apply below_alloc | apply pw_below_drewN | apply below_drew1 | refine below_set ?_ GE213.out) | exact HB.out)) : P := h
theorem u11_21 {P : Prop} (h : P := by repeat (first | (with_reducible first | exact HB.out | apply below_alloc | apply pw_below_drewN | apply below_drew1 | refine below_set ?_ GE224.out) | exact HB.out)) : P := h
theorem u11_22 {P : Prop} (h : P := by repeat (first | (with_reducible first | exact HB.out | apply below_alloc | apply pw_below_drewN | apply below_drew1 | refine below_set ?_ GE259.out) | exact HB.out)) : P := h
theorem u11_23 {P : Prop} (h : P := by repeat (first | (with_reducible first | exact HB.out | apply below_alloc | apply pw_below_drewN | apply below_drew1 | refine below_set ?_ GE281.out) | exact HB.out)) : P := h
theorem u11_24 {P : Prop} (h : P := by repeat (first | (with_reducible first | exact HB.out | apply below_alloc | apply pw_below_drewN | apply below_drew1 | refine below_set ?_ GE290.out) | exact HB.out)) : P := h
theorem u11_25 {P : Prop} (h : P := by first | rfl | (simp; done) | (simp [*]; done)) : P := h
theorem u11_26 {P : Prop} (h : P := by (with_reducible repeat (first | apply Kd.R_alloc | apply Kd.R_drewN | apply Kd.R_drew)); exact (Kd.R_mono (Kd.R_far (p := ⟨gb226, 8, none⟩) (Kd.R_types HO234.out BK226.out (by decide)) (fun _ hk => hk.2) (.slice Ao18 t232.length co18)) (fun _ h_ => h_.1))) : P := h
theorem u11_27 {P : Prop} (h : P := by (with_reducible repeat (first | refine blk_drewN ?_ _ | refine blk_drew ?_ | refine blk_alloc ?_ _)); refine blk_far ?_ NB281_283.out _; (with_reducible repeat (first | refine blk_drewN ?_ _ | refine blk_drew ?_ | refine blk_alloc ?_ _)); exact BK281.out) : P := h
theorem u11_28 {P : Prop} (h : P := by (with_reducible repeat (first | refine blk_drewN ?_ _ | refine blk_drew ?_ | refine blk_alloc ?_ _)); refine blk_far ?_ NB282_283.out _; (with_reducible repeat (first | refine blk_drewN ?_ _ | refine blk_drew ?_ | refine blk_alloc ?_ _)); exact BK282.out) : P := h
theorem u11_29 {P : Prop} (h : P := by (with_reducible repeat (first | refine blk_drewN ?_ _ | refine blk_drew ?_ | refine blk_alloc ?_ _)); exact BK204.out) : P := h
theorem u11_30 {P : Prop} (h : P := by (with_reducible repeat (first | refine blk_drewN ?_ _ | refine blk_drew ?_ | refine blk_alloc ?_ _)); exact BK214.out) : P := h
theorem u11_31 {P : Prop} (h : P := by (with_reducible repeat (first | refine blk_drewN ?_ _ | refine blk_drew ?_ | refine blk_alloc ?_ _)); exact BK225.out) : P := h
theorem u11_32 {P : Prop} (h : P := by (with_reducible repeat (first | refine blk_drewN ?_ _ | refine blk_drew ?_ | refine blk_alloc ?_ _)); exact BK260.out) : P := h
theorem u11_33 {P : Prop} (h : P := by (with_reducible repeat (first | refine blk_drewN ?_ _ | refine blk_drew ?_ | refine blk_alloc ?_ _)); exact BK282.out) : P := h
/-! ### laws_toEntry: function 108 -/
def laws_toEntry.f (a0_0 : Int) (a0_1 : ByteArray) : Option (Int × ByteArray) := some (a0_0, a0_1)
set_option maxHeartbeats 8000000 in
set_option maxRecDepth 100000 in
theorem laws_toEntry.calls (a0_0 : Int) (a0_1 : ByteArray) (r1 : Int) (r2 : ByteArray) (w : World) (h : laws_toEntry.f a0_0 a0_1 = some (r1, r2)) :
   Calls Try.prog 108 #[.agg #[.int .i64 a0_0, .string a0_1]] w fun e w' => e = .returned (.agg #[.int .i64 r1, .string r2]) ∧ Below w.heap.size w w' := by
 have hu112 := Try.underlying112
 have hu85 := Try.underlying85
 have HB := am (Below.refl w.heap.size w)
 have H : (some (a0_0, a0_1)) = some (r1, r2) := h
 clear h
 simp only [Option.some.injEq, Prod.mk.injEq] at H
 obtain ⟨rfl, rfl⟩ := H
 go_enter Try.func108, Try.ntmps108
 go_wp2_with (first | ((with_reducible refine gate_dst (N := 1) rfl ?_); refine box_event ?hg (N := 1) ?hd (cs := #[.int .i64 a0_0, .string a0_1]) (t := 112) ?hr ?_; (case hd => rfl); (case hg => rfl); (case hr => first | (go_simp; done) | (go_simp; rfl)); intro gb203 hg w2 hbox hb; have n0_ := am (below_step u11_0 hb); have n1_ := am (hbox); have n2_ := am ((by rw [hg]; exact (below_size u11_0) : w.heap.size ≤ gb203)); have n3_ := am ((by rw [hg]; exact (below_size u11_0) : w.heap.size ≤ gb203)); clear HB; have HB := n0_; have BK203 := n1_; have GW203 := n2_; have GE203 := n3_; clear n0_ n1_ n2_ n3_; clear hb hbox hg) | ((with_reducible refine gate_dst (N := 2) rfl ?_); refine box_event ?hg (N := 2) ?hd (cs := #[.int .i64 0, .string (⟨#[]⟩ : ByteArray)]) (t := 85) ?hr ?_; (case hd => rfl); (case hg => rfl); (case hr => first | (go_simp; done) | (go_simp; rfl)); intro gb204 hg w3 hbox hb; have n0_ := am (blk_below (g := gb203) (o := .cells #[.int .i64 a0_0, .string a0_1] 112 (0, 0)) u11_7 hb); have n1_ := am (below_step u11_19 hb); have n2_ := am (hbox); have n3_ := am ((by rw [hg]; exact (below_size u11_19) : w.heap.size ≤ gb204)); have n4_ := am ((by rw [hg]; exact (below_size u11_19) : w.heap.size ≤ gb204)); have n5_ := am ((by rw [hg]; exact Nat.ne_of_lt (blk_lt (g := gb203) (o := .cells #[.int .i64 a0_0, .string a0_1] 112 (0, 0)) u11_7) : gb203 ≠ gb204)); have n6_ := am ((by rw [hg]; exact Nat.ne_of_gt (blk_lt (g := gb203) (o := .cells #[.int .i64 a0_0, .string a0_1] 112 (0, 0)) u11_7) : gb204 ≠ gb203)); clear BK203; clear HB; have BK203 := n0_; have HB := n1_; have BK204 := n2_; have GW204 := n3_; have GE204 := n4_; have NB203_204 := n5_; have NB204_203 := n6_; clear n0_ n1_ n2_ n3_ n4_ n5_ n6_; clear hb hbox hg) | ((with_reducible refine gate_dst (N := 3) rfl ?_); refine box_event ?hg (N := 3) ?hd (cs := #[.int .i64 0, .string (⟨#[]⟩ : ByteArray)]) (t := 85) ?hr ?_; (case hd => rfl); (case hg => rfl); (case hr => first | (go_simp; done) | (go_simp; rfl)); intro gb205 hg w4 hbox hb; have n0_ := am (blk_below (g := gb203) (o := .cells #[.int .i64 a0_0, .string a0_1] 112 (0, 0)) u11_7 hb); have n1_ := am (blk_below (g := gb204) (o := .cells #[.int .i64 0, .string (⟨#[]⟩ : ByteArray)] 85 (0, 0)) u11_29 hb); have n2_ := am (below_step u11_14 hb); have n3_ := am (hbox); have n4_ := am ((by rw [hg]; exact (below_size u11_14) : w.heap.size ≤ gb205)); have n5_ := am ((by rw [hg]; exact (below_size u11_14) : w.heap.size ≤ gb205)); have n6_ := am ((by rw [hg]; exact Nat.ne_of_lt (blk_lt (g := gb203) (o := .cells #[.int .i64 a0_0, .string a0_1] 112 (0, 0)) u11_7) : gb203 ≠ gb205)); have n7_ := am ((by rw [hg]; exact Nat.ne_of_gt (blk_lt (g := gb203) (o := .cells #[.int .i64 a0_0, .string a0_1] 112 (0, 0)) u11_7) : gb205 ≠ gb203)); have n8_ := am ((by rw [hg]; exact Nat.ne_of_lt (blk_lt (g := gb204) (o := .cells #[.int .i64 0, .string (⟨#[]⟩ : ByteArray)] 85 (0, 0)) u11_29) : gb204 ≠ gb205)); have n9_ := am ((by rw [hg]; exact Nat.ne_of_gt (blk_lt (g := gb204) (o := .cells #[.int .i64 0, .string (⟨#[]⟩ : ByteArray)] 85 (0, 0)) u11_29) : gb205 ≠ gb204)); clear BK203; clear BK204; clear HB; have BK203 := n0_; have BK204 := n1_; have HB := n2_; have BK205 := n3_; have GW205 := n4_; have GE205 := n5_; have NB203_205 := n6_; have NB205_203 := n7_; have NB204_205 := n8_; have NB205_204 := n9_; clear n0_ n1_ n2_ n3_ n4_ n5_ n6_ n7_ n8_ n9_; clear hb hbox hg; have hnb5 := NB203_204.out; have hnc5 := NB204_203.out; have hnb6 := NB203_205.out; have hnc6 := NB205_203.out; have hcz7_0 : w4.cell? ⟨gb203, 0, none⟩ = some (.int .i64 a0_0) := (blk_cell BK203.out 0).trans rfl; have hcz7_1 : w4.cell? ⟨gb203, 1, none⟩ = some (.string a0_1) := (blk_cell BK203.out 1).trans rfl; have hfz7_0 := blk_frozen BK203.out 0; have hfz7_1 := blk_frozen BK203.out 1; have hnb8 := NB205_204.out; have hnc8 := NB204_205.out; have hcz9_0 : w4.cell? ⟨gb205, 0, none⟩ = some (.int .i64 0) := (blk_cell BK205.out 0).trans rfl; have hcz9_1 : w4.cell? ⟨gb205, 1, none⟩ = some (.string (⟨#[]⟩ : ByteArray)) := (blk_cell BK205.out 1).trans rfl; have hfz9_0 := blk_frozen BK205.out 0; have hfz9_1 := blk_frozen BK205.out 1; have hcz10_0 : w4.cell? ⟨gb204, 0, none⟩ = some (.int .i64 0) := (blk_cell BK204.out 0).trans rfl; have hcz10_1 : w4.cell? ⟨gb204, 1, none⟩ = some (.string (⟨#[]⟩ : ByteArray)) := (blk_cell BK204.out 1).trans rfl; have hfz10_0 := blk_frozen BK204.out 0; have hfz10_1 := blk_frozen BK204.out 1))
 refine bodyPost_ret (results_cell_row rfl _ _ gb204 85 #[.int .i64 a0_0, .string a0_1] (0, 0) _ rfl (by (with_reducible repeat (first | refine blk_drewN ?_ _ | refine blk_drew ?_ | refine blk_alloc ?_ _)); refine blk_put (cs := #[.int .i64 a0_0, .string (⟨#[]⟩ : ByteArray)]) ?_ 1 _ rfl; (with_reducible repeat (first | refine blk_drewN ?_ _ | refine blk_drew ?_ | refine blk_alloc ?_ _)); refine blk_put (cs := #[.int .i64 0, .string (⟨#[]⟩ : ByteArray)]) ?_ 0 _ rfl; (with_reducible repeat (first | refine blk_drewN ?_ _ | refine blk_drew ?_ | refine blk_alloc ?_ _)); refine blk_far ?_ NB204_205.out _; (with_reducible repeat (first | refine blk_drewN ?_ _ | refine blk_drew ?_ | refine blk_alloc ?_ _)); refine blk_far ?_ NB204_205.out _; (with_reducible repeat (first | refine blk_drewN ?_ _ | refine blk_drew ?_ | refine blk_alloc ?_ _)); exact BK204.out) Try.underlying85 rfl kr) rfl ?_
 exact ⟨by first | rfl | (simp [errW_none, errW_some] <;> rfl) | (simp [*, errW_none, errW_some] <;> rfl), (by repeat (first | (with_reducible first | exact HB.out | apply below_alloc | apply pw_below_drewN | apply below_drew1 | refine below_set ?_ GE203.out | refine below_set ?_ GE204.out | refine below_set ?_ GE205.out) | exact HB.out))⟩

/-! ### laws_toEntryS: function 65 -/
def laws_toEntryS.l0 : Nat → List (S112) → List (S85) → Int → Option ((List (S85)))
 | 0, _, _, _ => none
 | k + 1, x0, x3, x4 => if x4 < (x0.length : Int) then (if 0 ≤ x4 then ((laws_toEntry.f ((rd_T112 x0 x4).f0) ((rd_T112 x0 x4).f1)).bind fun bt210 => (if x4 < (x3.length : Int) then (laws_toEntryS.l0 k x0 (x3.set (x4 : Int).toNat (⟨bt210.1, bt210.2⟩ : S85)) (wrap64 (x4 + 1))) else (none))) else (none)) else (some x3)
def laws_toEntryS.f (k : Nat) (l0 : List (S112)) : Option ((List (S85))) := if 0 ≤ (l0.length : Int) then (if ((l0.length : Int) : Int).toNat ≤ 11728124029610 then (laws_toEntryS.l0 k l0 (List.replicate ((l0.length : Int) : Int).toNat z85) 0) else (none)) else (none)
theorem laws_toEntryS.mono_l : ∀ k, (∀ y0 y1 y2, LeO (laws_toEntryS.l0 k y0 y1 y2) (laws_toEntryS.l0 (k + 1) y0 y1 y2))
 | 0 => fun _ _ _ r h => by simp [laws_toEntryS.l0] at h
 | k + 1 => by
   have ih0 := laws_toEntryS.mono_l k
   · intro y0 y1 y2
     unfold laws_toEntryS.l0
     repeat' first
     | (with_reducible exact ih0 _ _ _)
     | (with_reducible exact LeO.refl _)
     | (with_reducible exact LeO.none _)
     | (with_reducible refine LeO.ite ?_ ?_)
     | (with_reducible refine LeO.bind ?_ (fun _ => ?_))
     | exact ih0 _ _ _
     | exact LeO.none _
     | refine LeO.ite ?_ ?_
     | refine LeO.bind ?_ (fun _ => ?_)
theorem laws_toEntryS.mono : ∀ a0 k, LeO (laws_toEntryS.f k a0) (laws_toEntryS.f (k + 1) a0) := by
 intro a0 k
 have ih0 := laws_toEntryS.mono_l k
 unfold laws_toEntryS.f
 repeat' first
     | (with_reducible exact ih0 _ _ _)
     | (with_reducible exact LeO.refl _)
     | (with_reducible exact LeO.none _)
     | (with_reducible refine LeO.ite ?_ ?_)
     | (with_reducible refine LeO.bind ?_ (fun _ => ?_))
     | exact ih0 _ _ _
     | exact LeO.none _
     | refine LeO.ite ?_ ?_
     | refine LeO.bind ?_ (fun _ => ?_)
set_option maxHeartbeats 8000000 in
set_option maxRecDepth 100000 in
theorem laws_toEntryS.calls (k : Nat) (A0 : Option Addr) (c0 : Nat) (l0 : List (S112)) (r : List (S85)) (w : World) (hr0 : Kd.C k112 w A0 l0.length l0) (hc0 : l0.length ≤ c0) (h : laws_toEntryS.f k l0 = some r) :
   Calls Try.prog 65 #[.slice A0 l0.length c0] w fun e w' => ∃ v0_ : Value, e = .returned (v0_) ∧ Kd.R k85 85 w' w.heap.size (fun _ => True) v0_ r ∧ Below w.heap.size w w' := by
 have hu112 := Try.underlying112
 have hu85 := Try.underlying85
 have HR0 := am hr0
 have HC0 := am hc0
 clear hr0 hc0
 have HB := am (Below.refl w.heap.size w)
 have H : (if 0 ≤ (l0.length : Int) then (if ((l0.length : Int) : Int).toNat ≤ 11728124029610 then (laws_toEntryS.l0 k l0 (List.replicate ((l0.length : Int) : Int).toNat z85) 0) else (none)) else (none)) = some r := h
 clear h
 by_cases c2 : 0 ≤ (l0.length : Int)
 rotate_left
 · rw [if_neg c2] at H
   exact absurd H (by simp)
 rw [if_pos c2] at H
 have c2b0 := eq_true c2
 have c2b1 : decide (0 ≤ (l0.length : Int)) = true := decide_eq_true c2
 clear c2
 by_cases c3 : ((l0.length : Int) : Int).toNat ≤ 11728124029610
 rotate_left
 · rw [if_neg c3] at H
   exact absurd H (by simp)
 rw [if_pos c3] at H
 have c3b0 := eq_true c3
 have c3b1 : decide (((l0.length : Int) : Int).toNat ≤ 11728124029610) = true := decide_eq_true c3
 clear c3
 obtain ⟨y206, hy206⟩ : ∃ y_ : List (S85), y_ = (List.replicate ((l0.length : Int) : Int).toNat z85) := ⟨_, rfl⟩
 replace H : (laws_toEntryS.l0 k l0 y206 0) = some r := by first | (rw [hy206]; with_reducible exact H) | (have H2_ := (Option.bind_some _ _).symm.trans H; rw [hy206]; with_reducible exact H2_) | (have H2_ := (Option.bind_some _ _).symm.trans H; with_reducible exact H2_) | with_reducible exact H | (rw [hy206]; exact H) | exact H
 have Ny206 := am hy206
 clear hy206
 have H' := am H
 clear H
 go_enter Try.func65, Try.ntmps65
 go_wp2_with (first | ((with_reducible refine gate_dst (N := 7) rfl ?_); refine Kd.R_make k85 _ 85 rfl (N := 7) rfl 27 _ _ rfl (l0.length : Int) rfl rfl Try.underlying27 (.agg #[(.int .i64 0), (.string ⟨#[]⟩)]) 24 info85 rfl (by decide) (by omega) z85 (ok := fun _ => True) (okp := fun _ => True) (k85_mkM _ _ _ z85 ) (fun _ hk => hk) trivial (of_decide_eq_true u11_2) (Nat.le_trans (Nat.mul_le_mul_right _ (of_decide_eq_true u11_2 : (l0.length : Int).toNat ≤ 11728124029610)) (by omega)) (Below.refl _ _) (Nat.le_refl _) ?_; intro v207 w4 ho5 hb hg_ hnew_; clear hg_ hnew_; (first | rw [← Ny206.out] at ho5 | (simp only [Int.reduceToNat] at ho5; rw [← Ny206.out] at ho5)); have n0_ := am (Kd.R_lower ho5 (below_size u11_0)); have n1_ := am (below_step u11_0 hb); clear HB; have HO208 := n0_; have HB := n1_; clear n0_ n1_; clear hb ho5))
 go_loopg [4] k (fun kq v4 w' => ∃ (x3_1 : List (S85)) (x4_1 : Int), v4 = .int .i64 x4_1 ∧ Aside0 (laws_toEntryS.l0 kq l0 x3_1 x4_1 = some r) ∧ Aside0 (kq ≤ k) ∧ Aside0 (Kd.R k85 85 w' w.heap.size (fun _ => True) v207 x3_1) ∧ Aside0 (Below w.heap.size w w'))
 case atStart => exact ⟨(y206), (0), u11_25, H', ⟨Nat.le_refl _⟩, ⟨(by (with_reducible repeat (first | apply Kd.R_alloc | apply Kd.R_drewN | apply Kd.R_drew)); exact HO208.out)⟩, ⟨u11_0⟩⟩
 clear H'
 try clear c2
 try clear c2b0
 try clear c2b1
 try clear p2
 try clear c3
 try clear c3b0
 try clear c3b1
 obtain ⟨x3_1, x4_1, rfl, HA, HK1, HO_3, HB⟩ := hrel
 cases gk with
 | zero => exact absurd HA.out (by simp [laws_toEntryS.l0])
 | succ k1 =>
   have H := HA.out
   clear HA
   simp only [laws_toEntryS.l0] at H
   by_cases c6 : x4_1 < (l0.length : Int)
   rotate_left
   · rw [if_neg c6] at H
     have c6b0 : decide (x4_1 < (l0.length : Int)) = false := decide_eq_false c6
     clear c6
     obtain rfl := Option.some.inj H
     go_wp2
     go_ret
     exact ⟨_, by first | rfl | (simp [errW_none, errW_some] <;> rfl) | (simp [*, errW_none, errW_some] <;> rfl), u11_12, u11_0⟩
   rw [if_pos c6] at H
   have c6b0 : decide (x4_1 < (l0.length : Int)) = true := decide_eq_true c6
   clear c6
   by_cases c7 : 0 ≤ x4_1
   rotate_left
   · rw [if_neg c7] at H
     exact absurd H (by simp)
   rw [if_pos c7] at H
   have c7b0 : decide (0 ≤ x4_1) = true := decide_eq_true c7
   clear c7
   replace H := Option.bind_eq_some_iff.mp H
   obtain ⟨⟨t210, t211⟩, A80, H⟩ := H
   (try dsimp only at H)
   have A8 := am A80
   clear A80
   by_cases c9 : x4_1 < (x3_1.length : Int)
   rotate_left
   · rw [if_neg c9] at H
     exact absurd H (by simp)
   rw [if_pos c9] at H
   have c9b0 : decide (x4_1 < (x3_1.length : Int)) = true := decide_eq_true c9
   clear c9
   obtain ⟨y212, hy212⟩ : ∃ y_ : List (S85), y_ = (x3_1.set (x4_1 : Int).toNat (⟨t210, t211⟩ : S85)) := ⟨_, rfl⟩
   replace H : (laws_toEntryS.l0 k1 l0 y212 (wrap64 (x4_1 + 1))) = some r := by first | (rw [hy212]; with_reducible exact H) | (have H2_ := (Option.bind_some _ _).symm.trans H; rw [hy212]; with_reducible exact H2_) | (have H2_ := (Option.bind_some _ _).symm.trans H; with_reducible exact H2_) | with_reducible exact H | (rw [hy212]; exact H) | exact H
   have Ny212 := am hy212
   clear hy212
   have H' := am H
   clear H
   have p209 : 0 ≤ (x4_1 : Int) := of_decide_eq_true u11_2
   have q209 : x4_1 < (l0.length : Int) := of_decide_eq_true u11_2
   obtain ⟨ad209, e209, hx209_0, hx209_1⟩ := at_T112 HR0.out x4_1 p209 q209
   cases e209
   replace hx209_0 := (HB.out.cell (World.block_lt_of_cell? w _ hx209_0)).trans hx209_0
   replace hx209_1 := (HB.out.cell (World.block_lt_of_cell? w _ hx209_1)).trans hx209_1
   replace p209 := eq_true p209
   replace q209 := eq_true q209
   go_wp2_with (first | ((with_reducible refine gate_callee (f := 108) rfl ?_); refine goesL_ (some 20) rfl rfl Try.func108 kr rfl #[.agg #[.int .i64 ((rd_T112 l0 x4_1).f0), .string ((rd_T112 l0 x4_1).f1)]] rfl u11_4 ?_; (with_reducible refine (laws_toEntry.calls ((rd_T112 l0 x4_1).f0) ((rd_T112 l0 x4_1).f1) t210 t211 _ A8.out).mono ?_); rintro e w11 ⟨rfl, hb⟩; refine ⟨_, rfl, ?_⟩; have n0_ := am (Kd.R_below u11_12 hb); have n1_ := am (below_step u11_0 hb); clear HO_3; clear HB; have HO_3 := n0_; have HB := n1_; clear n0_ n1_; (try clear hb); (try clear hb2); (try clear hk); (try clear hi); have p10 : 0 ≤ (x4_1 : Int) := of_decide_eq_true u11_2; have q10 : (x4_1 : Int) < ((x3_1.length : Int) : Int) := of_decide_eq_true u11_2; obtain ⟨go10, co10, eo10, gb10, gl10, cl10, HG10⟩ := Kd.R_form HO_3.out (by omega); (first | cases eo10 | (injection eo10 with ea_ en_ ec_; (first | subst ea_ | (injection ea_ with ea_; subst ea_)); subst ec_; clear en_)); have GB10 := am gb10; have GG10 := am HG10; clear gb10 gl10 HG10; obtain ⟨ce10, hcl10, hM10, hcc10, hfr10⟩ := Kd.R_elem HO_3.out z85 (x4_1 : Int) p10 q10; obtain rfl := k85_openM hM10; have hx10_0 : w11.cell? ⟨go10, (x4_1 : Int).toNat * 2, none⟩ = some (.int .i64 ((rd_T85 x3_1 x4_1).f0)) := hcc10 0 _ rfl; have hx10_1 : w11.cell? ⟨go10, (x4_1 : Int).toNat * 2 + 1, none⟩ = some (.string ((rd_T85 x3_1 x4_1).f1)) := hcc10 1 _ rfl; have hf10_0 : w11.frozen? ⟨go10, (x4_1 : Int).toNat * 2, none⟩ = false := hfr10 0; have hf10_1 : w11.frozen? ⟨go10, (x4_1 : Int).toNat * 2 + 1, none⟩ = false := hfr10 1; clear hcl10 hcc10 hfr10 hM10; replace p10 := eq_true p10; replace q10 := eq_true q10; have HX12 := am (show Kd.R k85 85 w11 w.heap.size (fun _ => True) (.slice (some ⟨go10, 0, none⟩) x3_1.length co10) x3_1 from u11_12); obtain ⟨ce12, hcl12, hM12, hcc12, hfr12⟩ := Kd.R_elem HX12.out z85 (x4_1 : Int) (of_decide_eq_true u11_2) (by have h_ : (x4_1 : Int) < ((x3_1.length : Int) : Int) := of_decide_eq_true u11_2; first | exact h_ | (have e_ := (Kd.R_reads' HO_3.out).1; omega) | simpa using h_); obtain rfl := k85_openM hM12; have HP12 := Kd.R_seg HX12.out (x4_1 : Int) (of_decide_eq_true u11_2) (by have h_ : (x4_1 : Int) < ((x3_1.length : Int) : Int) := of_decide_eq_true u11_2; first | exact h_ | (have e_ := (Kd.R_reads' HO_3.out).1; omega) | simpa using h_) (seg := [.int .i64 t210, .string t211]) (j := 0) hcl12 hcc12 (show 2 ≤ 2 from by decide) (x' := (⟨t210, t211⟩ : S85)) (k85_mkM _ _ _ (⟨t210, t211⟩ : S85) ) (fun _ hk => hk); have hx12_0 := hcc12 0 _ rfl; (try simp only [show (k85).sz = 2 from rfl, Nat.mul_one, Nat.add_zero] at hx12_0); have hf12_0 := hfr12 0; (try simp only [show (k85).sz = 2 from rfl, Nat.mul_one, Nat.add_zero] at hf12_0); have hx12_1 := hcc12 1 _ rfl; (try simp only [show (k85).sz = 2 from rfl, Nat.mul_one, Nat.add_zero] at hx12_1); have hf12_1 := hfr12 1; (try simp only [show (k85).sz = 2 from rfl, Nat.mul_one, Nat.add_zero] at hf12_1); clear hcl12 hcc12 hfr12 hM12) | ((with_reducible refine gate_store (t := 85) (p := 21) rfl ?_); refine store_event (t := 85) (p := 21) (v := ?vo_w13) (w1 := ((w11.setCell ⟨go10, (x4_1 : Int).toNat * 2, none⟩ (.int .i64 t210)).setCell ⟨go10, (x4_1 : Int).toNat * 2 + 1, none⟩ (.string t211))) ?hg ?ho ?hn ?hr ?_; (case ho => rfl); (case hg => rfl); (case hn => rfl); (case hr => first | (go_simp; done) | (go_simp; rfl)); intro w13 hw; have hg : w11.grownBy w13 (some go10) := (by rw [hw]; exact HP12.2); have hp_ : Kd.R k85 85 w13 w.heap.size (fun _ => True) (.slice (some ⟨go10, 0, none⟩) x3_1.length co10) y212 := (by rw [hw, Ny212.out]; exact HP12.1); clear HP12; have n0_ := am (hp_); have n1_ := am ((by rw [hw]; exact below_set (below_set (HB.out) GB10.out) GB10.out : Below w.heap.size w w13)); clear HO_3; clear HB; have HO_3 := n0_; have HB := n1_; clear n0_ n1_; clear hg hw hp_))
   go_roundg k1
   case measure => have := HK1.out; omega
   case rel => exact ⟨(y212), (wrap64 (x4_1 + 1)), u11_25, H', ⟨by have := HK1.out; omega⟩, ⟨u11_12⟩, ⟨u11_0⟩⟩

/-! ### laws_toRLog: function 76 -/
def laws_toRLog.f (k : Nat) (a0_0 : Int) (a0_1 : Int) (l0_2 : List (S112)) : Option (Int × Int × (List (S85))) := (laws_toEntryS.f k l0_2).bind fun t216 => (some (a0_0, a0_1, t216))
theorem laws_toRLog.mono : ∀ a0 a1 a2 k, LeO (laws_toRLog.f k a0 a1 a2) (laws_toRLog.f (k + 1) a0 a1 a2) := by
 intro a0 a1 a2 k
 unfold laws_toRLog.f
 repeat' first
     | (with_reducible exact laws_toEntryS.mono _ _)
     | (with_reducible exact LeO.refl _)
     | (with_reducible exact LeO.none _)
     | (with_reducible refine LeO.ite ?_ ?_)
     | (with_reducible refine LeO.bind ?_ (fun _ => ?_))
     | exact laws_toEntryS.mono _ _
     | exact LeO.none _
     | refine LeO.ite ?_ ?_
     | refine LeO.bind ?_ (fun _ => ?_)
set_option maxHeartbeats 8000000 in
set_option maxRecDepth 100000 in
theorem laws_toRLog.calls (k : Nat) (a0_0 : Int) (a0_1 : Int) (A0_2 : Option Addr) (c0_2 : Nat) (l0_2 : List (S112)) (r1 : Int) (r2 : Int) (r3 : List (S85)) (w : World) (hr0_2 : Kd.C k112 w A0_2 l0_2.length l0_2) (hc0_2 : l0_2.length ≤ c0_2) (h : laws_toRLog.f k a0_0 a0_1 l0_2 = some (r1, r2, r3)) :
   Calls Try.prog 76 #[.agg #[.int .i64 a0_0, .int .i64 a0_1, .slice A0_2 l0_2.length c0_2]] w fun e w' => ∃ v2_ : Value, e = .returned (.agg #[.int .i64 r1, .int .i64 r2, v2_]) ∧ Kd.R k85 85 w' w.heap.size (fun _ => True) v2_ r3 ∧ Below w.heap.size w w' := by
 have hu43 := Try.underlying43
 have hu34 := Try.underlying34
 have HR0_2 := am hr0_2
 have HC0_2 := am hc0_2
 clear hr0_2 hc0_2
 have HB := am (Below.refl w.heap.size w)
 have H : ((laws_toEntryS.f k l0_2).bind fun t216 => (some (a0_0, a0_1, t216))) = some (r1, r2, r3) := h
 clear h
 replace H := Option.bind_eq_some_iff.mp H
 obtain ⟨t216, A20, H⟩ := H
 replace H : (some (a0_0, a0_1, t216)) = some (r1, r2, r3) := H
 have A2 := am A20
 clear A20
 simp only [Option.some.injEq, Prod.mk.injEq] at H
 obtain ⟨rfl, rfl, rfl⟩ := H
 go_enter Try.func76, Try.ntmps76
 go_wp2_with (first | ((with_reducible refine gate_dst (N := 1) rfl ?_); refine box_event ?hg (N := 1) ?hd (cs := #[.int .i64 a0_0, .int .i64 a0_1, .slice A0_2 l0_2.length c0_2]) (t := 43) ?hr ?_; (case hd => rfl); (case hg => rfl); (case hr => first | (go_simp; done) | (go_simp; rfl)); intro gb213 hg w3 hbox hb; have n0_ := am (below_step u11_0 hb); have n1_ := am (hbox); have n2_ := am ((by rw [hg]; exact (below_size u11_0) : w.heap.size ≤ gb213)); have n3_ := am ((by rw [hg]; exact (below_size u11_0) : w.heap.size ≤ gb213)); clear HB; have HB := n0_; have BK213 := n1_; have GW213 := n2_; have GE213 := n3_; clear n0_ n1_ n2_ n3_; clear hb hbox hg) | ((with_reducible refine gate_dst (N := 2) rfl ?_); refine box_event ?hg (N := 2) ?hd (cs := #[.int .i64 0, .int .i64 0, .slice none 0 0]) (t := 34) ?hr ?_; (case hd => rfl); (case hg => rfl); (case hr => first | (go_simp; done) | (go_simp; rfl)); intro gb214 hg w4 hbox hb; have n0_ := am (blk_below (g := gb213) (o := .cells #[.int .i64 a0_0, .int .i64 a0_1, .slice A0_2 l0_2.length c0_2] 43 (0, 0)) u11_8 hb); have n1_ := am (below_step u11_20 hb); have n2_ := am (hbox); have n3_ := am ((by rw [hg]; exact (below_size u11_20) : w.heap.size ≤ gb214)); have n4_ := am ((by rw [hg]; exact (below_size u11_20) : w.heap.size ≤ gb214)); have n5_ := am ((by rw [hg]; exact Nat.ne_of_lt (blk_lt (g := gb213) (o := .cells #[.int .i64 a0_0, .int .i64 a0_1, .slice A0_2 l0_2.length c0_2] 43 (0, 0)) u11_8) : gb213 ≠ gb214)); have n6_ := am ((by rw [hg]; exact Nat.ne_of_gt (blk_lt (g := gb213) (o := .cells #[.int .i64 a0_0, .int .i64 a0_1, .slice A0_2 l0_2.length c0_2] 43 (0, 0)) u11_8) : gb214 ≠ gb213)); clear BK213; clear HB; have BK213 := n0_; have HB := n1_; have BK214 := n2_; have GW214 := n3_; have GE214 := n4_; have NB213_214 := n5_; have NB214_213 := n6_; clear n0_ n1_ n2_ n3_ n4_ n5_ n6_; clear hb hbox hg) | ((with_reducible refine gate_dst (N := 3) rfl ?_); refine box_event ?hg (N := 3) ?hd (cs := #[.int .i64 0, .int .i64 0, .slice none 0 0]) (t := 34) ?hr ?_; (case hd => rfl); (case hg => rfl); (case hr => first | (go_simp; done) | (go_simp; rfl)); intro gb215 hg w5 hbox hb; have n0_ := am (blk_below (g := gb213) (o := .cells #[.int .i64 a0_0, .int .i64 a0_1, .slice A0_2 l0_2.length c0_2] 43 (0, 0)) u11_8 hb); have n1_ := am (blk_below (g := gb214) (o := .cells #[.int .i64 0, .int .i64 0, .slice none 0 0] 34 (0, 0)) u11_30 hb); have n2_ := am (below_step u11_15 hb); have n3_ := am (hbox); have n4_ := am ((by rw [hg]; exact (below_size u11_15) : w.heap.size ≤ gb215)); have n5_ := am ((by rw [hg]; exact (below_size u11_15) : w.heap.size ≤ gb215)); have n6_ := am ((by rw [hg]; exact Nat.ne_of_lt (blk_lt (g := gb213) (o := .cells #[.int .i64 a0_0, .int .i64 a0_1, .slice A0_2 l0_2.length c0_2] 43 (0, 0)) u11_8) : gb213 ≠ gb215)); have n7_ := am ((by rw [hg]; exact Nat.ne_of_gt (blk_lt (g := gb213) (o := .cells #[.int .i64 a0_0, .int .i64 a0_1, .slice A0_2 l0_2.length c0_2] 43 (0, 0)) u11_8) : gb215 ≠ gb213)); have n8_ := am ((by rw [hg]; exact Nat.ne_of_lt (blk_lt (g := gb214) (o := .cells #[.int .i64 0, .int .i64 0, .slice none 0 0] 34 (0, 0)) u11_30) : gb214 ≠ gb215)); have n9_ := am ((by rw [hg]; exact Nat.ne_of_gt (blk_lt (g := gb214) (o := .cells #[.int .i64 0, .int .i64 0, .slice none 0 0] 34 (0, 0)) u11_30) : gb215 ≠ gb214)); clear BK213; clear BK214; clear HB; have BK213 := n0_; have BK214 := n1_; have HB := n2_; have BK215 := n3_; have GW215 := n4_; have GE215 := n5_; have NB213_215 := n6_; have NB215_213 := n7_; have NB214_215 := n8_; have NB215_214 := n9_; clear n0_ n1_ n2_ n3_ n4_ n5_ n6_ n7_ n8_ n9_; clear hb hbox hg; have hnb6 := NB213_214.out; have hnc6 := NB214_213.out; have hnb7 := NB213_215.out; have hnc7 := NB215_213.out; have hcz8_0 : w5.cell? ⟨gb213, 0, none⟩ = some (.int .i64 a0_0) := (blk_cell BK213.out 0).trans rfl; have hcz8_1 : w5.cell? ⟨gb213, 1, none⟩ = some (.int .i64 a0_1) := (blk_cell BK213.out 1).trans rfl; have hcz8_2 : w5.cell? ⟨gb213, 2, none⟩ = some (.slice A0_2 l0_2.length c0_2) := (blk_cell BK213.out 2).trans rfl; have hfz8_0 := blk_frozen BK213.out 0; have hfz8_1 := blk_frozen BK213.out 1; have hfz8_2 := blk_frozen BK213.out 2; have hnb9 := NB215_214.out; have hnc9 := NB214_215.out; have hcz10_0 : w5.cell? ⟨gb215, 0, none⟩ = some (.int .i64 0) := (blk_cell BK215.out 0).trans rfl; have hcz10_1 : w5.cell? ⟨gb215, 1, none⟩ = some (.int .i64 0) := (blk_cell BK215.out 1).trans rfl; have hcz10_2 : w5.cell? ⟨gb215, 2, none⟩ = some (.slice none 0 0) := (blk_cell BK215.out 2).trans rfl; have hfz10_0 := blk_frozen BK215.out 0; have hfz10_1 := blk_frozen BK215.out 1; have hfz10_2 := blk_frozen BK215.out 2) | ((with_reducible refine gate_callee (f := 65) rfl ?_); refine goesL_ (some 12) rfl rfl Try.func65 kr rfl #[.slice A0_2 l0_2.length c0_2] rfl u11_4 ?_; (with_reducible refine (laws_toEntryS.calls k _ _ l0_2 t216 _ ?side1 ?side2 A2.out).mono ?_); (case side1 => exact (by exact Kd.C_below HR0_2.out u11_5)); (case side2 => exact HC0_2.out); rintro e w11 ⟨v217, rfl, ho0, hb⟩; refine ⟨_, rfl, ?_⟩; have n0_ := am (Kd.R_lower ho0 (below_size u11_5)); have n1_ := am (blk_below (g := gb213) (o := .cells #[.int .i64 a0_0, .int .i64 a0_1, .slice A0_2 l0_2.length c0_2] 43 (0, 0)) (by (with_reducible repeat (first | refine blk_drewN ?_ _ | refine blk_drew ?_ | refine blk_alloc ?_ _)); refine blk_far ?_ NB213_215.out _; (with_reducible repeat (first | refine blk_drewN ?_ _ | refine blk_drew ?_ | refine blk_alloc ?_ _)); refine blk_far ?_ NB213_215.out _; (with_reducible repeat (first | refine blk_drewN ?_ _ | refine blk_drew ?_ | refine blk_alloc ?_ _)); exact BK213.out) hb); have n2_ := am (blk_below (g := gb214) (o := .cells #[.int .i64 0, .int .i64 0, .slice none 0 0] 34 (0, 0)) (by (with_reducible repeat (first | refine blk_drewN ?_ _ | refine blk_drew ?_ | refine blk_alloc ?_ _)); refine blk_far ?_ NB214_215.out _; (with_reducible repeat (first | refine blk_drewN ?_ _ | refine blk_drew ?_ | refine blk_alloc ?_ _)); refine blk_far ?_ NB214_215.out _; (with_reducible repeat (first | refine blk_drewN ?_ _ | refine blk_drew ?_ | refine blk_alloc ?_ _)); exact BK214.out) hb); have n3_ := am (blk_below (g := gb215) (o := .cells #[.int .i64 a0_0, .int .i64 a0_1, .slice none 0 0] 34 (0, 0)) (by (with_reducible repeat (first | refine blk_drewN ?_ _ | refine blk_drew ?_ | refine blk_alloc ?_ _)); refine blk_put (cs := #[.int .i64 a0_0, .int .i64 0, .slice none 0 0]) ?_ 1 _ rfl; (with_reducible repeat (first | refine blk_drewN ?_ _ | refine blk_drew ?_ | refine blk_alloc ?_ _)); refine blk_put (cs := #[.int .i64 0, .int .i64 0, .slice none 0 0]) ?_ 0 _ rfl; (with_reducible repeat (first | refine blk_drewN ?_ _ | refine blk_drew ?_ | refine blk_alloc ?_ _)); exact BK215.out) hb); have n4_ := am (below_step u11_5 hb); clear BK213; clear BK214; clear BK215; clear HB; have HO218 := n0_; have BK213 := n1_; have BK214 := n2_; have BK215 := n3_; have HB := n4_; clear n0_ n1_ n2_ n3_ n4_; (try clear hb); (try clear hb2); (try clear hk); (try clear hi); (try clear ho0); obtain ⟨Ao12, co12, eo12⟩ := Kd.R_slice HO218.out; subst eo12; have hcz13_0 : w11.cell? ⟨gb215, 0, none⟩ = some (.int .i64 a0_0) := (blk_cell BK215.out 0).trans rfl; have hcz13_1 : w11.cell? ⟨gb215, 1, none⟩ = some (.int .i64 a0_1) := (blk_cell BK215.out 1).trans rfl; have hcz13_2 : w11.cell? ⟨gb215, 2, none⟩ = some (.slice none 0 0) := (blk_cell BK215.out 2).trans rfl; have hfz13_0 := blk_frozen BK215.out 0; have hfz13_1 := blk_frozen BK215.out 1; have hfz13_2 := blk_frozen BK215.out 2; have hcz14_0 : w11.cell? ⟨gb214, 0, none⟩ = some (.int .i64 0) := (blk_cell BK214.out 0).trans rfl; have hcz14_1 : w11.cell? ⟨gb214, 1, none⟩ = some (.int .i64 0) := (blk_cell BK214.out 1).trans rfl; have hcz14_2 : w11.cell? ⟨gb214, 2, none⟩ = some (.slice none 0 0) := (blk_cell BK214.out 2).trans rfl; have hfz14_0 := blk_frozen BK214.out 0; have hfz14_1 := blk_frozen BK214.out 1; have hfz14_2 := blk_frozen BK214.out 2))
 refine bodyPost_ret (results_cell_row rfl _ _ gb214 34 #[.int .i64 a0_0, .int .i64 a0_1, .slice Ao12 t216.length co12] (0, 0) _ rfl (by (with_reducible repeat (first | refine blk_drewN ?_ _ | refine blk_drew ?_ | refine blk_alloc ?_ _)); refine blk_put (cs := #[.int .i64 a0_0, .int .i64 a0_1, .slice none 0 0]) ?_ 2 _ rfl; (with_reducible repeat (first | refine blk_drewN ?_ _ | refine blk_drew ?_ | refine blk_alloc ?_ _)); refine blk_put (cs := #[.int .i64 a0_0, .int .i64 0, .slice none 0 0]) ?_ 1 _ rfl; (with_reducible repeat (first | refine blk_drewN ?_ _ | refine blk_drew ?_ | refine blk_alloc ?_ _)); refine blk_put (cs := #[.int .i64 0, .int .i64 0, .slice none 0 0]) ?_ 0 _ rfl; (with_reducible repeat (first | refine blk_drewN ?_ _ | refine blk_drew ?_ | refine blk_alloc ?_ _)); refine blk_far ?_ NB214_215.out _; (with_reducible repeat (first | refine blk_drewN ?_ _ | refine blk_drew ?_ | refine blk_alloc ?_ _)); exact BK214.out) Try.underlying34 rfl kr) rfl ?_
 exact ⟨_, by first | rfl | (simp [errW_none, errW_some] <;> rfl) | (simp [*, errW_none, errW_some] <;> rfl), (by (with_reducible repeat (first | apply Kd.R_alloc | apply Kd.R_drewN | apply Kd.R_drew)); exact Kd.R_mono (Kd.R_far (p := ⟨gb214, 2, none⟩) (Kd.R_far (p := ⟨gb214, 1, none⟩) (Kd.R_far (p := ⟨gb214, 0, none⟩) (Kd.R_far (p := ⟨gb215, 2, none⟩) (Kd.R_types (Kd.R_types HO218.out BK215.out (by decide)) BK214.out (by decide)) (fun _ hk => hk.1.2) (.slice Ao12 t216.length co12)) (fun _ hk => hk.2) (.int .i64 a0_0)) (fun _ hk => hk.2) (.int .i64 a0_1)) (fun _ hk => hk.2) (.slice Ao12 t216.length co12)) (fun _ hk => trivial)), u11_5⟩

/-! ### laws_toIntS: function 77 -/
def laws_toIntS.l0 : Nat → List Int → List Int → Int → Option (List Int)
 | 0, _, _, _ => none
 | k + 1, x0, x3, x4 => if x4 < (x0.length : Int) then (if 0 ≤ x4 then (if x4 < (x3.length : Int) then (laws_toIntS.l0 k x0 (x3.set (x4 : Int).toNat (rd x0 x4)) (wrap64 (x4 + 1))) else (none)) else (none)) else (some x3)
def laws_toIntS.f (k : Nat) (l0 : List Int) : Option (List Int) := if 0 ≤ (l0.length : Int) then (if ((l0.length : Int) : Int).toNat ≤ 35184372088832 then (laws_toIntS.l0 k l0 (List.replicate ((l0.length : Int) : Int).toNat 0) 0) else (none)) else (none)
theorem laws_toIntS.mono_l : ∀ k, (∀ y0 y1 y2, LeO (laws_toIntS.l0 k y0 y1 y2) (laws_toIntS.l0 (k + 1) y0 y1 y2))
 | 0 => fun _ _ _ r h => by simp [laws_toIntS.l0] at h
 | k + 1 => by
   have ih0 := laws_toIntS.mono_l k
   · intro y0 y1 y2
     unfold laws_toIntS.l0
     repeat' first
     | (with_reducible exact ih0 _ _ _)
     | (with_reducible exact LeO.refl _)
     | (with_reducible exact LeO.none _)
     | (with_reducible refine LeO.ite ?_ ?_)
     | (with_reducible refine LeO.bind ?_ (fun _ => ?_))
     | exact ih0 _ _ _
     | exact LeO.none _
     | refine LeO.ite ?_ ?_
     | refine LeO.bind ?_ (fun _ => ?_)
theorem laws_toIntS.mono : ∀ a0 k, LeO (laws_toIntS.f k a0) (laws_toIntS.f (k + 1) a0) := by
 intro a0 k
 have ih0 := laws_toIntS.mono_l k
 unfold laws_toIntS.f
 repeat' first
     | (with_reducible exact ih0 _ _ _)
     | (with_reducible exact LeO.refl _)
     | (with_reducible exact LeO.none _)
     | (with_reducible refine LeO.ite ?_ ?_)
     | (with_reducible refine LeO.bind ?_ (fun _ => ?_))
     | exact ih0 _ _ _
     | exact LeO.none _
     | refine LeO.ite ?_ ?_
     | refine LeO.bind ?_ (fun _ => ?_)
set_option maxHeartbeats 8000000 in
set_option maxRecDepth 100000 in
theorem laws_toIntS.calls (k : Nat) (A0 : Option Addr) (c0 : Nat) (l0 : List Int) (r : List Int) (w : World) (hr0 : Kd.C (Kd.int .i64) w A0 l0.length l0) (hc0 : l0.length ≤ c0) (h : laws_toIntS.f k l0 = some r) :
   Calls Try.prog 77 #[.slice A0 l0.length c0] w fun e w' => ∃ v0_ : Value, e = .returned (v0_) ∧ Kd.R (Kd.int .i64) 3 w' w.heap.size (fun _ => True) v0_ r ∧ Below w.heap.size w w' := by
 have HR0 := am hr0
 have HC0 := am hc0
 clear hr0 hc0
 have HB := am (Below.refl w.heap.size w)
 have H : (if 0 ≤ (l0.length : Int) then (if ((l0.length : Int) : Int).toNat ≤ 35184372088832 then (laws_toIntS.l0 k l0 (List.replicate ((l0.length : Int) : Int).toNat 0) 0) else (none)) else (none)) = some r := h
 clear h
 by_cases c2 : 0 ≤ (l0.length : Int)
 rotate_left
 · rw [if_neg c2] at H
   exact absurd H (by simp)
 rw [if_pos c2] at H
 have c2b0 := eq_true c2
 have c2b1 : decide (0 ≤ (l0.length : Int)) = true := decide_eq_true c2
 clear c2
 by_cases c3 : ((l0.length : Int) : Int).toNat ≤ 35184372088832
 rotate_left
 · rw [if_neg c3] at H
   exact absurd H (by simp)
 rw [if_pos c3] at H
 have c3b0 := eq_true c3
 have c3b1 : decide (((l0.length : Int) : Int).toNat ≤ 35184372088832) = true := decide_eq_true c3
 clear c3
 obtain ⟨y219, hy219⟩ : ∃ y_ : List Int, y_ = (List.replicate ((l0.length : Int) : Int).toNat 0) := ⟨_, rfl⟩
 replace H : (laws_toIntS.l0 k l0 y219 0) = some r := by first | (rw [hy219]; with_reducible exact H) | (have H2_ := (Option.bind_some _ _).symm.trans H; rw [hy219]; with_reducible exact H2_) | (have H2_ := (Option.bind_some _ _).symm.trans H; with_reducible exact H2_) | with_reducible exact H | (rw [hy219]; exact H) | exact H
 have Ny219 := am hy219
 clear hy219
 have H' := am H
 clear H
 go_enter Try.func77, Try.ntmps77
 go_wp2_with (first | ((with_reducible refine gate_dst (N := 7) rfl ?_); refine Kd.R_make (Kd.int .i64) _ 3 rfl (N := 7) rfl 35 _ _ rfl (l0.length : Int) rfl rfl Try.underlying35 (.int .i64 0) 8 info3 rfl (by decide) (by omega) 0 (ok := fun _ => True) (okp := fun _ => True) rfl (fun _ hk => hk) trivial (of_decide_eq_true u11_2) (Nat.le_trans (Nat.mul_le_mul_right _ (of_decide_eq_true u11_2 : (l0.length : Int).toNat ≤ 35184372088832)) (by omega)) (Below.refl _ _) (Nat.le_refl _) ?_; intro v220 w4 ho5 hb hg_ hnew_; clear hg_ hnew_; (first | rw [← Ny219.out] at ho5 | (simp only [Int.reduceToNat] at ho5; rw [← Ny219.out] at ho5)); have n0_ := am (Kd.R_lower ho5 (below_size u11_0)); have n1_ := am (below_step u11_0 hb); clear HB; have HO221 := n0_; have HB := n1_; clear n0_ n1_; clear hb ho5))
 go_loopg [4] k (fun kq v4 w' => ∃ (x3_1 : List Int) (x4_1 : Int), v4 = .int .i64 x4_1 ∧ Aside0 (laws_toIntS.l0 kq l0 x3_1 x4_1 = some r) ∧ Aside0 (kq ≤ k) ∧ Aside0 (Kd.R (Kd.int .i64) 3 w' w.heap.size (fun _ => True) v220 x3_1) ∧ Aside0 (Below w.heap.size w w'))
 case atStart => exact ⟨(y219), (0), u11_25, H', ⟨Nat.le_refl _⟩, ⟨(by (with_reducible repeat (first | apply Kd.R_alloc | apply Kd.R_drewN | apply Kd.R_drew)); exact HO221.out)⟩, ⟨u11_0⟩⟩
 clear H'
 try clear c2
 try clear c2b0
 try clear c2b1
 try clear p2
 try clear c3
 try clear c3b0
 try clear c3b1
 obtain ⟨x3_1, x4_1, rfl, HA, HK1, HO_3, HB⟩ := hrel
 cases gk with
 | zero => exact absurd HA.out (by simp [laws_toIntS.l0])
 | succ k1 =>
   have H := HA.out
   clear HA
   simp only [laws_toIntS.l0] at H
   by_cases c6 : x4_1 < (l0.length : Int)
   rotate_left
   · rw [if_neg c6] at H
     have c6b0 : decide (x4_1 < (l0.length : Int)) = false := decide_eq_false c6
     clear c6
     obtain rfl := Option.some.inj H
     go_wp2
     go_ret
     exact ⟨_, by first | rfl | (simp [errW_none, errW_some] <;> rfl) | (simp [*, errW_none, errW_some] <;> rfl), u11_12, u11_0⟩
   rw [if_pos c6] at H
   have c6b0 : decide (x4_1 < (l0.length : Int)) = true := decide_eq_true c6
   clear c6
   by_cases c7 : 0 ≤ x4_1
   rotate_left
   · rw [if_neg c7] at H
     exact absurd H (by simp)
   rw [if_pos c7] at H
   have c7b0 : decide (0 ≤ x4_1) = true := decide_eq_true c7
   clear c7
   by_cases c8 : x4_1 < (x3_1.length : Int)
   rotate_left
   · rw [if_neg c8] at H
     exact absurd H (by simp)
   rw [if_pos c8] at H
   have c8b0 : decide (x4_1 < (x3_1.length : Int)) = true := decide_eq_true c8
   clear c8
   obtain ⟨y223, hy223⟩ : ∃ y_ : List Int, y_ = (x3_1.set (x4_1 : Int).toNat (rd l0 x4_1)) := ⟨_, rfl⟩
   replace H : (laws_toIntS.l0 k1 l0 y223 (wrap64 (x4_1 + 1))) = some r := by first | (rw [hy223]; with_reducible exact H) | (have H2_ := (Option.bind_some _ _).symm.trans H; rw [hy223]; with_reducible exact H2_) | (have H2_ := (Option.bind_some _ _).symm.trans H; with_reducible exact H2_) | with_reducible exact H | (rw [hy223]; exact H) | exact H
   have Ny223 := am hy223
   clear hy223
   have H' := am H
   clear H
   have p222 : 0 ≤ (x4_1 : Int) := of_decide_eq_true u11_2
   have q222 : x4_1 < (l0.length : Int) := of_decide_eq_true u11_2
   obtain ⟨ad222, e222, hx222_0⟩ := Kd.at_int HR0.out x4_1 p222 q222
   cases e222
   replace hx222_0 := (HB.out.cell (World.block_lt_of_cell? w _ hx222_0)).trans hx222_0
   replace p222 := eq_true p222
   replace q222 := eq_true q222
   have p9 : 0 ≤ (x4_1 : Int) := of_decide_eq_true u11_2
   have q9 : (x4_1 : Int) < ((x3_1.length : Int) : Int) := of_decide_eq_true u11_2
   obtain ⟨go9, co9, eo9, gb9, gl9, cl9, HG9⟩ := Kd.R_form HO_3.out (by omega)
   (first | cases eo9 | (injection eo9 with ea_ en_ ec_; (first | subst ea_ | (injection ea_ with ea_; subst ea_)); subst ec_; clear en_))
   have GB9 := am gb9
   have GG9 := am HG9
   clear gb9 gl9 HG9
   obtain ⟨hx9_0, hf9_0⟩ := Kd.R_celln 0 HO_3.out (x4_1 : Int) p9 q9
   replace p9 := eq_true p9
   replace q9 := eq_true q9
   have HP10 := Kd.R_putg HO_3.out (x4_1 : Int) (rd l0 x4_1)
   go_wp2_with (first | ((with_reducible refine gate_store (t := 3) (p := 20) rfl ?_); refine store_event (t := 3) (p := 20) (v := ?vo_w11) (w1 := (wr.setCell ⟨go9, (x4_1 : Int).toNat, none⟩ (.int .i64 (rd l0 x4_1)))) ?hg ?ho ?hn ?hr ?_; (case ho => rfl); (case hg => rfl); (case hn => rfl); (case hr => first | (go_simp; done) | (go_simp; rfl)); intro w11 hw; have hg : wr.grownBy w11 (some go9) := (by rw [hw]; exact HP10.2); have hp_ : Kd.R (Kd.int .i64) 3 w11 w.heap.size (fun _ => True) (.slice (some ⟨go9, 0, none⟩) x3_1.length co9) y223 := (by rw [hw, Ny223.out]; exact HP10.1); clear HP10; have n0_ := am (hp_); have n1_ := am ((by rw [hw]; exact below_set (HB.out) GB9.out : Below w.heap.size w w11)); clear HO_3; clear HB; have HO_3 := n0_; have HB := n1_; clear n0_ n1_; clear hg hw hp_))
   go_roundg k1
   case measure => have := HK1.out; omega
   case rel => exact ⟨(y223), (wrap64 (x4_1 + 1)), u11_25, H', ⟨by have := HK1.out; omega⟩, ⟨u11_12⟩, ⟨u11_0⟩⟩

/-! ### laws_toNode: function 27 -/
def laws_toNode.f (k : Nat) (a0_0 : Int) (a0_1 : Int) (a0_2 : Int) (a0_3 : Int) (a0_4 : Int) (a0_5 : Int) (a0_6 : Int) (l0_7 : List (S112)) (l0_8 : List Int) (l0_9 : List Int) : Option (Int × Int × Int × Int × Int × Int × Int × (List (S85)) × List Int × List Int) := (laws_toRLog.f k a0_5 a0_6 l0_7).bind fun bt227 => ((laws_toIntS.f k l0_8).bind fun t232 => ((laws_toIntS.f k l0_9).bind fun t235 => (some (a0_0, a0_1, a0_2, a0_3, a0_4, bt227.1, bt227.2.1, bt227.2.2, t232, t235))))
theorem laws_toNode.mono : ∀ a0 a1 a2 a3 a4 a5 a6 a7 a8 a9 k, LeO (laws_toNode.f k a0 a1 a2 a3 a4 a5 a6 a7 a8 a9) (laws_toNode.f (k + 1) a0 a1 a2 a3 a4 a5 a6 a7 a8 a9) := by
 intro a0 a1 a2 a3 a4 a5 a6 a7 a8 a9 k
 unfold laws_toNode.f
 repeat' first
     | (with_reducible exact laws_toIntS.mono _ _)
     | (with_reducible exact laws_toRLog.mono _ _ _ _)
     | (with_reducible exact LeO.refl _)
     | (with_reducible exact LeO.none _)
     | (with_reducible refine LeO.ite ?_ ?_)
     | (with_reducible refine LeO.bind ?_ (fun _ => ?_))
     | exact laws_toIntS.mono _ _
     | exact laws_toRLog.mono _ _ _ _
     | exact LeO.none _
     | refine LeO.ite ?_ ?_
     | refine LeO.bind ?_ (fun _ => ?_)
set_option maxHeartbeats 8000000 in
set_option maxRecDepth 100000 in
theorem laws_toNode.calls (k : Nat) (a0_0 : Int) (a0_1 : Int) (a0_2 : Int) (a0_3 : Int) (a0_4 : Int) (a0_5 : Int) (a0_6 : Int) (A0_7 : Option Addr) (c0_7 : Nat) (l0_7 : List (S112)) (A0_8 : Option Addr) (c0_8 : Nat) (l0_8 : List Int) (A0_9 : Option Addr) (c0_9 : Nat) (l0_9 : List Int) (r1 : Int) (r2 : Int) (r3 : Int) (r4 : Int) (r5 : Int) (r6 : Int) (r7 : Int) (r8 : List (S85)) (r9 : List Int) (r10 : List Int) (w : World) (hr0_7 : Kd.C k112 w A0_7 l0_7.length l0_7) (hc0_7 : l0_7.length ≤ c0_7) (hr0_8 : Kd.C (Kd.int .i64) w A0_8 l0_8.length l0_8) (hc0_8 : l0_8.length ≤ c0_8) (hr0_9 : Kd.C (Kd.int .i64) w A0_9 l0_9.length l0_9) (hc0_9 : l0_9.length ≤ c0_9) (h : laws_toNode.f k a0_0 a0_1 a0_2 a0_3 a0_4 a0_5 a0_6 l0_7 l0_8 l0_9 = some (r1, r2, r3, r4, r5, r6, r7, r8, r9, r10)) :
   Calls Try.prog 27 #[.agg #[.int .i64 a0_0, .int .i64 a0_1, .int .i64 a0_2, .int .i64 a0_3, .int .i64 a0_4, .int .i64 a0_5, .int .i64 a0_6, .slice A0_7 l0_7.length c0_7, .slice A0_8 l0_8.length c0_8, .slice A0_9 l0_9.length c0_9]] w fun e w' => ∃ v7_ v8_ v9_ : Value, e = .returned (.agg #[.int .i64 r1, .int .i64 r2, .int .i64 r3, .int .i64 r4, .int .i64 r5, .int .i64 r6, .int .i64 r7, v7_, v8_, v9_]) ∧ Kd.R k85 85 w' w.heap.size (fun _ => True) v7_ r8 ∧ Kd.R (Kd.int .i64) 3 w' w.heap.size (fun k_ => some k_ ≠ (v9_ : Value).ownBlock) v8_ r9 ∧ Kd.R (Kd.int .i64) 3 w' w.heap.size (fun k_ => some k_ ≠ (v8_ : Value).ownBlock) v9_ r10 ∧ Below w.heap.size w w' := by
 have hu45 := Try.underlying45
 have hu37 := Try.underlying37
 have hu43 := Try.underlying43
 have hu34 := Try.underlying34
 have HR0_7 := am hr0_7
 have HC0_7 := am hc0_7
 clear hr0_7 hc0_7
 have HR0_8 := am hr0_8
 have HC0_8 := am hc0_8
 clear hr0_8 hc0_8
 have HR0_9 := am hr0_9
 have HC0_9 := am hc0_9
 clear hr0_9 hc0_9
 have HB := am (Below.refl w.heap.size w)
 have H : ((laws_toRLog.f k a0_5 a0_6 l0_7).bind fun bt227 => ((laws_toIntS.f k l0_8).bind fun t232 => ((laws_toIntS.f k l0_9).bind fun t235 => (some (a0_0, a0_1, a0_2, a0_3, a0_4, bt227.1, bt227.2.1, bt227.2.2, t232, t235))))) = some (r1, r2, r3, r4, r5, r6, r7, r8, r9, r10) := h
 clear h
 replace H := Option.bind_eq_some_iff.mp H
 obtain ⟨⟨t227, t228, t229⟩, A20, H⟩ := H
 (try dsimp only at H)
 have A2 := am A20
 clear A20
 replace H := Option.bind_eq_some_iff.mp H
 obtain ⟨t232, A30, H⟩ := H
 have A3 := am A30
 clear A30
 replace H := Option.bind_eq_some_iff.mp H
 obtain ⟨t235, A40, H⟩ := H
 have A4 := am A40
 clear A40
 simp only [Option.some.injEq, Prod.mk.injEq] at H
 obtain ⟨rfl, rfl, rfl, rfl, rfl, rfl, rfl, rfl, rfl, rfl⟩ := H
 go_enter Try.func27, Try.ntmps27
 go_wp2_with (first | ((with_reducible refine gate_dst (N := 1) rfl ?_); refine box_event ?hg (N := 1) ?hd (cs := #[.int .i64 a0_0, .int .i64 a0_1, .int .i64 a0_2, .int .i64 a0_3, .int .i64 a0_4, .int .i64 a0_5, .int .i64 a0_6, .slice A0_7 l0_7.length c0_7, .slice A0_8 l0_8.length c0_8, .slice A0_9 l0_9.length c0_9]) (t := 45) ?hr ?_; (case hd => rfl); (case hg => rfl); (case hr => first | (go_simp; done) | (go_simp; rfl)); intro gb224 hg w5 hbox hb; have n0_ := am (below_step u11_0 hb); have n1_ := am (hbox); have n2_ := am ((by rw [hg]; exact (below_size u11_0) : w.heap.size ≤ gb224)); have n3_ := am ((by rw [hg]; exact (below_size u11_0) : w.heap.size ≤ gb224)); clear HB; have HB := n0_; have BK224 := n1_; have GW224 := n2_; have GE224 := n3_; clear n0_ n1_ n2_ n3_; clear hb hbox hg) | ((with_reducible refine gate_dst (N := 2) rfl ?_); refine box_event ?hg (N := 2) ?hd (cs := #[.int .i64 0, .int .i64 0, .int .i64 0, .int .i64 0, .int .i64 0, .int .i64 0, .int .i64 0, .slice none 0 0, .slice none 0 0, .slice none 0 0]) (t := 37) ?hr ?_; (case hd => rfl); (case hg => rfl); (case hr => first | (go_simp; done) | (go_simp; rfl)); intro gb225 hg w6 hbox hb; have n0_ := am (blk_below (g := gb224) (o := .cells #[.int .i64 a0_0, .int .i64 a0_1, .int .i64 a0_2, .int .i64 a0_3, .int .i64 a0_4, .int .i64 a0_5, .int .i64 a0_6, .slice A0_7 l0_7.length c0_7, .slice A0_8 l0_8.length c0_8, .slice A0_9 l0_9.length c0_9] 45 (0, 0)) u11_9 hb); have n1_ := am (below_step u11_21 hb); have n2_ := am (hbox); have n3_ := am ((by rw [hg]; exact (below_size u11_21) : w.heap.size ≤ gb225)); have n4_ := am ((by rw [hg]; exact (below_size u11_21) : w.heap.size ≤ gb225)); have n5_ := am ((by rw [hg]; exact Nat.ne_of_lt (blk_lt (g := gb224) (o := .cells #[.int .i64 a0_0, .int .i64 a0_1, .int .i64 a0_2, .int .i64 a0_3, .int .i64 a0_4, .int .i64 a0_5, .int .i64 a0_6, .slice A0_7 l0_7.length c0_7, .slice A0_8 l0_8.length c0_8, .slice A0_9 l0_9.length c0_9] 45 (0, 0)) u11_9) : gb224 ≠ gb225)); have n6_ := am ((by rw [hg]; exact Nat.ne_of_gt (blk_lt (g := gb224) (o := .cells #[.int .i64 a0_0, .int .i64 a0_1, .int .i64 a0_2, .int .i64 a0_3, .int .i64 a0_4, .int .i64 a0_5, .int .i64 a0_6, .slice A0_7 l0_7.length c0_7, .slice A0_8 l0_8.length c0_8, .slice A0_9 l0_9.length c0_9] 45 (0, 0)) u11_9) : gb225 ≠ gb224)); clear BK224; clear HB; have BK224 := n0_; have HB := n1_; have BK225 := n2_; have GW225 := n3_; have GE225 := n4_; have NB224_225 := n5_; have NB225_224 := n6_; clear n0_ n1_ n2_ n3_ n4_ n5_ n6_; clear hb hbox hg) | ((with_reducible refine gate_dst (N := 3) rfl ?_); refine box_event ?hg (N := 3) ?hd (cs := #[.int .i64 0, .int .i64 0, .int .i64 0, .int .i64 0, .int .i64 0, .int .i64 0, .int .i64 0, .slice none 0 0, .slice none 0 0, .slice none 0 0]) (t := 37) ?hr ?_; (case hd => rfl); (case hg => rfl); (case hr => first | (go_simp; done) | (go_simp; rfl)); intro gb226 hg w7 hbox hb; have n0_ := am (blk_below (g := gb224) (o := .cells #[.int .i64 a0_0, .int .i64 a0_1, .int .i64 a0_2, .int .i64 a0_3, .int .i64 a0_4, .int .i64 a0_5, .int .i64 a0_6, .slice A0_7 l0_7.length c0_7, .slice A0_8 l0_8.length c0_8, .slice A0_9 l0_9.length c0_9] 45 (0, 0)) u11_9 hb); have n1_ := am (blk_below (g := gb225) (o := .cells #[.int .i64 0, .int .i64 0, .int .i64 0, .int .i64 0, .int .i64 0, .int .i64 0, .int .i64 0, .slice none 0 0, .slice none 0 0, .slice none 0 0] 37 (0, 0)) u11_31 hb); have n2_ := am (below_step u11_16 hb); have n3_ := am (hbox); have n4_ := am ((by rw [hg]; exact (below_size u11_16) : w.heap.size ≤ gb226)); have n5_ := am ((by rw [hg]; exact (below_size u11_16) : w.heap.size ≤ gb226)); have n6_ := am ((by rw [hg]; exact Nat.ne_of_lt (blk_lt (g := gb224) (o := .cells #[.int .i64 a0_0, .int .i64 a0_1, .int .i64 a0_2, .int .i64 a0_3, .int .i64 a0_4, .int .i64 a0_5, .int .i64 a0_6, .slice A0_7 l0_7.length c0_7, .slice A0_8 l0_8.length c0_8, .slice A0_9 l0_9.length c0_9] 45 (0, 0)) u11_9) : gb224 ≠ gb226)); have n7_ := am ((by rw [hg]; exact Nat.ne_of_gt (blk_lt (g := gb224) (o := .cells #[.int .i64 a0_0, .int .i64 a0_1, .int .i64 a0_2, .int .i64 a0_3, .int .i64 a0_4, .int .i64 a0_5, .int .i64 a0_6, .slice A0_7 l0_7.length c0_7, .slice A0_8 l0_8.length c0_8, .slice A0_9 l0_9.length c0_9] 45 (0, 0)) u11_9) : gb226 ≠ gb224)); have n8_ := am ((by rw [hg]; exact Nat.ne_of_lt (blk_lt (g := gb225) (o := .cells #[.int .i64 0, .int .i64 0, .int .i64 0, .int .i64 0, .int .i64 0, .int .i64 0, .int .i64 0, .slice none 0 0, .slice none 0 0, .slice none 0 0] 37 (0, 0)) u11_31) : gb225 ≠ gb226)); have n9_ := am ((by rw [hg]; exact Nat.ne_of_gt (blk_lt (g := gb225) (o := .cells #[.int .i64 0, .int .i64 0, .int .i64 0, .int .i64 0, .int .i64 0, .int .i64 0, .int .i64 0, .slice none 0 0, .slice none 0 0, .slice none 0 0] 37 (0, 0)) u11_31) : gb226 ≠ gb225)); clear BK224; clear BK225; clear HB; have BK224 := n0_; have BK225 := n1_; have HB := n2_; have BK226 := n3_; have GW226 := n4_; have GE226 := n5_; have NB224_226 := n6_; have NB226_224 := n7_; have NB225_226 := n8_; have NB226_225 := n9_; clear n0_ n1_ n2_ n3_ n4_ n5_ n6_ n7_ n8_ n9_; clear hb hbox hg; have hnb8 := NB224_225.out; have hnc8 := NB225_224.out; have hnb9 := NB224_226.out; have hnc9 := NB226_224.out; have hcz10_0 : w7.cell? ⟨gb224, 0, none⟩ = some (.int .i64 a0_0) := (blk_cell BK224.out 0).trans rfl; have hcz10_1 : w7.cell? ⟨gb224, 1, none⟩ = some (.int .i64 a0_1) := (blk_cell BK224.out 1).trans rfl; have hcz10_2 : w7.cell? ⟨gb224, 2, none⟩ = some (.int .i64 a0_2) := (blk_cell BK224.out 2).trans rfl; have hcz10_3 : w7.cell? ⟨gb224, 3, none⟩ = some (.int .i64 a0_3) := (blk_cell BK224.out 3).trans rfl; have hcz10_4 : w7.cell? ⟨gb224, 4, none⟩ = some (.int .i64 a0_4) := (blk_cell BK224.out 4).trans rfl; have hcz10_5 : w7.cell? ⟨gb224, 5, none⟩ = some (.int .i64 a0_5) := (blk_cell BK224.out 5).trans rfl; have hcz10_6 : w7.cell? ⟨gb224, 6, none⟩ = some (.int .i64 a0_6) := (blk_cell BK224.out 6).trans rfl; have hcz10_7 : w7.cell? ⟨gb224, 7, none⟩ = some (.slice A0_7 l0_7.length c0_7) := (blk_cell BK224.out 7).trans rfl; have hcz10_8 : w7.cell? ⟨gb224, 8, none⟩ = some (.slice A0_8 l0_8.length c0_8) := (blk_cell BK224.out 8).trans rfl; have hcz10_9 : w7.cell? ⟨gb224, 9, none⟩ = some (.slice A0_9 l0_9.length c0_9) := (blk_cell BK224.out 9).trans rfl; have hfz10_0 := blk_frozen BK224.out 0; have hfz10_1 := blk_frozen BK224.out 1; have hfz10_2 := blk_frozen BK224.out 2; have hfz10_3 := blk_frozen BK224.out 3; have hfz10_4 := blk_frozen BK224.out 4; have hfz10_5 := blk_frozen BK224.out 5; have hfz10_6 := blk_frozen BK224.out 6; have hfz10_7 := blk_frozen BK224.out 7; have hfz10_8 := blk_frozen BK224.out 8; have hfz10_9 := blk_frozen BK224.out 9; have hnb11 := NB226_225.out; have hnc11 := NB225_226.out; have hcz12_0 : w7.cell? ⟨gb226, 0, none⟩ = some (.int .i64 0) := (blk_cell BK226.out 0).trans rfl; have hcz12_1 : w7.cell? ⟨gb226, 1, none⟩ = some (.int .i64 0) := (blk_cell BK226.out 1).trans rfl; have hcz12_2 : w7.cell? ⟨gb226, 2, none⟩ = some (.int .i64 0) := (blk_cell BK226.out 2).trans rfl; have hcz12_3 : w7.cell? ⟨gb226, 3, none⟩ = some (.int .i64 0) := (blk_cell BK226.out 3).trans rfl; have hcz12_4 : w7.cell? ⟨gb226, 4, none⟩ = some (.int .i64 0) := (blk_cell BK226.out 4).trans rfl; have hcz12_5 : w7.cell? ⟨gb226, 5, none⟩ = some (.int .i64 0) := (blk_cell BK226.out 5).trans rfl; have hcz12_6 : w7.cell? ⟨gb226, 6, none⟩ = some (.int .i64 0) := (blk_cell BK226.out 6).trans rfl; have hcz12_7 : w7.cell? ⟨gb226, 7, none⟩ = some (.slice none 0 0) := (blk_cell BK226.out 7).trans rfl; have hcz12_8 : w7.cell? ⟨gb226, 8, none⟩ = some (.slice none 0 0) := (blk_cell BK226.out 8).trans rfl; have hcz12_9 : w7.cell? ⟨gb226, 9, none⟩ = some (.slice none 0 0) := (blk_cell BK226.out 9).trans rfl; have hfz12_0 := blk_frozen BK226.out 0; have hfz12_1 := blk_frozen BK226.out 1; have hfz12_2 := blk_frozen BK226.out 2; have hfz12_3 := blk_frozen BK226.out 3; have hfz12_4 := blk_frozen BK226.out 4; have hfz12_5 := blk_frozen BK226.out 5; have hfz12_6 := blk_frozen BK226.out 6; have hfz12_7 := blk_frozen BK226.out 7; have hfz12_8 := blk_frozen BK226.out 8; have hfz12_9 := blk_frozen BK226.out 9) | ((with_reducible refine gate_callee (f := 76) rfl ?_); refine goesL_ (some 21) rfl rfl Try.func76 kr rfl #[.agg #[.int .i64 a0_5, .int .i64 a0_6, .slice A0_7 l0_7.length c0_7]] rfl u11_4 ?_; (with_reducible refine (laws_toRLog.calls k a0_5 a0_6 _ _ l0_7 t227 t228 t229 _ ?side1 ?side2 A2.out).mono ?_); (case side1 => exact (by exact Kd.C_below HR0_7.out u11_1)); (case side2 => exact HC0_7.out); rintro e w13 ⟨v230, rfl, ho0, hb⟩; refine ⟨_, rfl, ?_⟩; have n0_ := am (Kd.R_lower ho0 (below_size u11_1)); have n1_ := am (blk_below (g := gb224) (o := .cells #[.int .i64 a0_0, .int .i64 a0_1, .int .i64 a0_2, .int .i64 a0_3, .int .i64 a0_4, .int .i64 a0_5, .int .i64 a0_6, .slice A0_7 l0_7.length c0_7, .slice A0_8 l0_8.length c0_8, .slice A0_9 l0_9.length c0_9] 45 (0, 0)) (by (with_reducible repeat (first | refine blk_drewN ?_ _ | refine blk_drew ?_ | refine blk_alloc ?_ _)); refine blk_far ?_ NB224_226.out _; (with_reducible repeat (first | refine blk_drewN ?_ _ | refine blk_drew ?_ | refine blk_alloc ?_ _)); refine blk_far ?_ NB224_226.out _; (with_reducible repeat (first | refine blk_drewN ?_ _ | refine blk_drew ?_ | refine blk_alloc ?_ _)); refine blk_far ?_ NB224_226.out _; (with_reducible repeat (first | refine blk_drewN ?_ _ | refine blk_drew ?_ | refine blk_alloc ?_ _)); refine blk_far ?_ NB224_226.out _; (with_reducible repeat (first | refine blk_drewN ?_ _ | refine blk_drew ?_ | refine blk_alloc ?_ _)); refine blk_far ?_ NB224_226.out _; (with_reducible repeat (first | refine blk_drewN ?_ _ | refine blk_drew ?_ | refine blk_alloc ?_ _)); exact BK224.out) hb); have n2_ := am (blk_below (g := gb225) (o := .cells #[.int .i64 0, .int .i64 0, .int .i64 0, .int .i64 0, .int .i64 0, .int .i64 0, .int .i64 0, .slice none 0 0, .slice none 0 0, .slice none 0 0] 37 (0, 0)) (by (with_reducible repeat (first | refine blk_drewN ?_ _ | refine blk_drew ?_ | refine blk_alloc ?_ _)); refine blk_far ?_ NB225_226.out _; (with_reducible repeat (first | refine blk_drewN ?_ _ | refine blk_drew ?_ | refine blk_alloc ?_ _)); refine blk_far ?_ NB225_226.out _; (with_reducible repeat (first | refine blk_drewN ?_ _ | refine blk_drew ?_ | refine blk_alloc ?_ _)); refine blk_far ?_ NB225_226.out _; (with_reducible repeat (first | refine blk_drewN ?_ _ | refine blk_drew ?_ | refine blk_alloc ?_ _)); refine blk_far ?_ NB225_226.out _; (with_reducible repeat (first | refine blk_drewN ?_ _ | refine blk_drew ?_ | refine blk_alloc ?_ _)); refine blk_far ?_ NB225_226.out _; (with_reducible repeat (first | refine blk_drewN ?_ _ | refine blk_drew ?_ | refine blk_alloc ?_ _)); exact BK225.out) hb); have n3_ := am (blk_below (g := gb226) (o := .cells #[.int .i64 a0_0, .int .i64 a0_1, .int .i64 a0_2, .int .i64 a0_3, .int .i64 a0_4, .int .i64 0, .int .i64 0, .slice none 0 0, .slice none 0 0, .slice none 0 0] 37 (0, 0)) (by (with_reducible repeat (first | refine blk_drewN ?_ _ | refine blk_drew ?_ | refine blk_alloc ?_ _)); refine blk_put (cs := #[.int .i64 a0_0, .int .i64 a0_1, .int .i64 a0_2, .int .i64 a0_3, .int .i64 0, .int .i64 0, .int .i64 0, .slice none 0 0, .slice none 0 0, .slice none 0 0]) ?_ 4 _ rfl; (with_reducible repeat (first | refine blk_drewN ?_ _ | refine blk_drew ?_ | refine blk_alloc ?_ _)); refine blk_put (cs := #[.int .i64 a0_0, .int .i64 a0_1, .int .i64 a0_2, .int .i64 0, .int .i64 0, .int .i64 0, .int .i64 0, .slice none 0 0, .slice none 0 0, .slice none 0 0]) ?_ 3 _ rfl; (with_reducible repeat (first | refine blk_drewN ?_ _ | refine blk_drew ?_ | refine blk_alloc ?_ _)); refine blk_put (cs := #[.int .i64 a0_0, .int .i64 a0_1, .int .i64 0, .int .i64 0, .int .i64 0, .int .i64 0, .int .i64 0, .slice none 0 0, .slice none 0 0, .slice none 0 0]) ?_ 2 _ rfl; (with_reducible repeat (first | refine blk_drewN ?_ _ | refine blk_drew ?_ | refine blk_alloc ?_ _)); refine blk_put (cs := #[.int .i64 a0_0, .int .i64 0, .int .i64 0, .int .i64 0, .int .i64 0, .int .i64 0, .int .i64 0, .slice none 0 0, .slice none 0 0, .slice none 0 0]) ?_ 1 _ rfl; (with_reducible repeat (first | refine blk_drewN ?_ _ | refine blk_drew ?_ | refine blk_alloc ?_ _)); refine blk_put (cs := #[.int .i64 0, .int .i64 0, .int .i64 0, .int .i64 0, .int .i64 0, .int .i64 0, .int .i64 0, .slice none 0 0, .slice none 0 0, .slice none 0 0]) ?_ 0 _ rfl; (with_reducible repeat (first | refine blk_drewN ?_ _ | refine blk_drew ?_ | refine blk_alloc ?_ _)); exact BK226.out) hb); have n4_ := am (below_step u11_1 hb); clear BK224; clear BK225; clear BK226; clear HB; have HO231 := n0_; have BK224 := n1_; have BK225 := n2_; have BK226 := n3_; have HB := n4_; clear n0_ n1_ n2_ n3_ n4_; (try clear hb); (try clear hb2); (try clear hk); (try clear hi); (try clear ho0); have hcz14_0 : w13.cell? ⟨gb226, 0, none⟩ = some (.int .i64 a0_0) := (blk_cell BK226.out 0).trans rfl; have hcz14_1 : w13.cell? ⟨gb226, 1, none⟩ = some (.int .i64 a0_1) := (blk_cell BK226.out 1).trans rfl; have hcz14_2 : w13.cell? ⟨gb226, 2, none⟩ = some (.int .i64 a0_2) := (blk_cell BK226.out 2).trans rfl; have hcz14_3 : w13.cell? ⟨gb226, 3, none⟩ = some (.int .i64 a0_3) := (blk_cell BK226.out 3).trans rfl; have hcz14_4 : w13.cell? ⟨gb226, 4, none⟩ = some (.int .i64 a0_4) := (blk_cell BK226.out 4).trans rfl; have hcz14_5 : w13.cell? ⟨gb226, 5, none⟩ = some (.int .i64 0) := (blk_cell BK226.out 5).trans rfl; have hcz14_6 : w13.cell? ⟨gb226, 6, none⟩ = some (.int .i64 0) := (blk_cell BK226.out 6).trans rfl; have hcz14_7 : w13.cell? ⟨gb226, 7, none⟩ = some (.slice none 0 0) := (blk_cell BK226.out 7).trans rfl; have hcz14_8 : w13.cell? ⟨gb226, 8, none⟩ = some (.slice none 0 0) := (blk_cell BK226.out 8).trans rfl; have hcz14_9 : w13.cell? ⟨gb226, 9, none⟩ = some (.slice none 0 0) := (blk_cell BK226.out 9).trans rfl; have hfz14_0 := blk_frozen BK226.out 0; have hfz14_1 := blk_frozen BK226.out 1; have hfz14_2 := blk_frozen BK226.out 2; have hfz14_3 := blk_frozen BK226.out 3; have hfz14_4 := blk_frozen BK226.out 4; have hfz14_5 := blk_frozen BK226.out 5; have hfz14_6 := blk_frozen BK226.out 6; have hfz14_7 := blk_frozen BK226.out 7; have hfz14_8 := blk_frozen BK226.out 8; have hfz14_9 := blk_frozen BK226.out 9; obtain ⟨Ao15, co15, eo15⟩ := Kd.R_slice HO231.out; subst eo15; have hcz16_0 : w13.cell? ⟨gb224, 0, none⟩ = some (.int .i64 a0_0) := (blk_cell BK224.out 0).trans rfl; have hcz16_1 : w13.cell? ⟨gb224, 1, none⟩ = some (.int .i64 a0_1) := (blk_cell BK224.out 1).trans rfl; have hcz16_2 : w13.cell? ⟨gb224, 2, none⟩ = some (.int .i64 a0_2) := (blk_cell BK224.out 2).trans rfl; have hcz16_3 : w13.cell? ⟨gb224, 3, none⟩ = some (.int .i64 a0_3) := (blk_cell BK224.out 3).trans rfl; have hcz16_4 : w13.cell? ⟨gb224, 4, none⟩ = some (.int .i64 a0_4) := (blk_cell BK224.out 4).trans rfl; have hcz16_5 : w13.cell? ⟨gb224, 5, none⟩ = some (.int .i64 a0_5) := (blk_cell BK224.out 5).trans rfl; have hcz16_6 : w13.cell? ⟨gb224, 6, none⟩ = some (.int .i64 a0_6) := (blk_cell BK224.out 6).trans rfl; have hcz16_7 : w13.cell? ⟨gb224, 7, none⟩ = some (.slice A0_7 l0_7.length c0_7) := (blk_cell BK224.out 7).trans rfl; have hcz16_8 : w13.cell? ⟨gb224, 8, none⟩ = some (.slice A0_8 l0_8.length c0_8) := (blk_cell BK224.out 8).trans rfl; have hcz16_9 : w13.cell? ⟨gb224, 9, none⟩ = some (.slice A0_9 l0_9.length c0_9) := (blk_cell BK224.out 9).trans rfl; have hfz16_0 := blk_frozen BK224.out 0; have hfz16_1 := blk_frozen BK224.out 1; have hfz16_2 := blk_frozen BK224.out 2; have hfz16_3 := blk_frozen BK224.out 3; have hfz16_4 := blk_frozen BK224.out 4; have hfz16_5 := blk_frozen BK224.out 5; have hfz16_6 := blk_frozen BK224.out 6; have hfz16_7 := blk_frozen BK224.out 7; have hfz16_8 := blk_frozen BK224.out 8; have hfz16_9 := blk_frozen BK224.out 9) | ((with_reducible refine gate_callee (f := 77) rfl ?_); refine goesL_ (some 25) rfl rfl Try.func77 kr rfl #[.slice A0_8 l0_8.length c0_8] rfl u11_4 ?_; (with_reducible refine (laws_toIntS.calls k _ _ l0_8 t232 _ ?side1 ?side2 A3.out).mono ?_); (case side1 => exact (by exact Kd.C_below HR0_8.out u11_1)); (case side2 => exact HC0_8.out); rintro e w17 ⟨v233, rfl, ho0, hb⟩; refine ⟨_, rfl, ?_⟩; have n0_ := am (Kd.R_below (by (with_reducible repeat (first | apply Kd.R_alloc | apply Kd.R_drewN | apply Kd.R_drew)); exact (Kd.R_mono (Kd.R_far (p := ⟨gb226, 7, none⟩) (Kd.R_far (p := ⟨gb226, 6, none⟩) (Kd.R_far (p := ⟨gb226, 5, none⟩) (Kd.R_types HO231.out BK226.out (by decide)) (fun _ hk => hk.2) (.int .i64 t227)) (fun _ hk => hk.2) (.int .i64 t228)) (fun _ hk => hk.2) (.slice Ao15 t229.length co15)) (fun _ h_ => h_.1))) hb); have n1_ := am (Kd.R_lower ho0 (below_size u11_1)); have n2_ := am (blk_below (g := gb224) (o := .cells #[.int .i64 a0_0, .int .i64 a0_1, .int .i64 a0_2, .int .i64 a0_3, .int .i64 a0_4, .int .i64 a0_5, .int .i64 a0_6, .slice A0_7 l0_7.length c0_7, .slice A0_8 l0_8.length c0_8, .slice A0_9 l0_9.length c0_9] 45 (0, 0)) (by (with_reducible repeat (first | refine blk_drewN ?_ _ | refine blk_drew ?_ | refine blk_alloc ?_ _)); refine blk_far ?_ NB224_226.out _; (with_reducible repeat (first | refine blk_drewN ?_ _ | refine blk_drew ?_ | refine blk_alloc ?_ _)); refine blk_far ?_ NB224_226.out _; (with_reducible repeat (first | refine blk_drewN ?_ _ | refine blk_drew ?_ | refine blk_alloc ?_ _)); refine blk_far ?_ NB224_226.out _; (with_reducible repeat (first | refine blk_drewN ?_ _ | refine blk_drew ?_ | refine blk_alloc ?_ _)); exact BK224.out) hb); have n3_ := am (blk_below (g := gb225) (o := .cells #[.int .i64 0, .int .i64 0, .int .i64 0, .int .i64 0, .int .i64 0, .int .i64 0, .int .i64 0, .slice none 0 0, .slice none 0 0, .slice none 0 0] 37 (0, 0)) (by (with_reducible repeat (first | refine blk_drewN ?_ _ | refine blk_drew ?_ | refine blk_alloc ?_ _)); refine blk_far ?_ NB225_226.out _; (with_reducible repeat (first | refine blk_drewN ?_ _ | refine blk_drew ?_ | refine blk_alloc ?_ _)); refine blk_far ?_ NB225_226.out _; (with_reducible repeat (first | refine blk_drewN ?_ _ | refine blk_drew ?_ | refine blk_alloc ?_ _)); refine blk_far ?_ NB225_226.out _; (with_reducible repeat (first | refine blk_drewN ?_ _ | refine blk_drew ?_ | refine blk_alloc ?_ _)); exact BK225.out) hb); have n4_ := am (blk_below (g := gb226) (o := .cells #[.int .i64 a0_0, .int .i64 a0_1, .int .i64 a0_2, .int .i64 a0_3, .int .i64 a0_4, .int .i64 t227, .int .i64 t228, .slice Ao15 t229.length co15, .slice none 0 0, .slice none 0 0] 37 (0, 0)) (by (with_reducible repeat (first | refine blk_drewN ?_ _ | refine blk_drew ?_ | refine blk_alloc ?_ _)); refine blk_put (cs := #[.int .i64 a0_0, .int .i64 a0_1, .int .i64 a0_2, .int .i64 a0_3, .int .i64 a0_4, .int .i64 t227, .int .i64 t228, .slice none 0 0, .slice none 0 0, .slice none 0 0]) ?_ 7 _ rfl; (with_reducible repeat (first | refine blk_drewN ?_ _ | refine blk_drew ?_ | refine blk_alloc ?_ _)); refine blk_put (cs := #[.int .i64 a0_0, .int .i64 a0_1, .int .i64 a0_2, .int .i64 a0_3, .int .i64 a0_4, .int .i64 t227, .int .i64 0, .slice none 0 0, .slice none 0 0, .slice none 0 0]) ?_ 6 _ rfl; (with_reducible repeat (first | refine blk_drewN ?_ _ | refine blk_drew ?_ | refine blk_alloc ?_ _)); refine blk_put (cs := #[.int .i64 a0_0, .int .i64 a0_1, .int .i64 a0_2, .int .i64 a0_3, .int .i64 a0_4, .int .i64 0, .int .i64 0, .slice none 0 0, .slice none 0 0, .slice none 0 0]) ?_ 5 _ rfl; (with_reducible repeat (first | refine blk_drewN ?_ _ | refine blk_drew ?_ | refine blk_alloc ?_ _)); exact BK226.out) hb); have n5_ := am (below_step u11_1 hb); clear HO231; clear BK224; clear BK225; clear BK226; clear HB; have HO231 := n0_; have HO234 := n1_; have BK224 := n2_; have BK225 := n3_; have BK226 := n4_; have HB := n5_; clear n0_ n1_ n2_ n3_ n4_ n5_; (try clear hb); (try clear hb2); (try clear hk); (try clear hi); (try clear ho0); obtain ⟨Ao18, co18, eo18⟩ := Kd.R_slice HO234.out; subst eo18; have hcz19_0 : w17.cell? ⟨gb226, 0, none⟩ = some (.int .i64 a0_0) := (blk_cell BK226.out 0).trans rfl; have hcz19_1 : w17.cell? ⟨gb226, 1, none⟩ = some (.int .i64 a0_1) := (blk_cell BK226.out 1).trans rfl; have hcz19_2 : w17.cell? ⟨gb226, 2, none⟩ = some (.int .i64 a0_2) := (blk_cell BK226.out 2).trans rfl; have hcz19_3 : w17.cell? ⟨gb226, 3, none⟩ = some (.int .i64 a0_3) := (blk_cell BK226.out 3).trans rfl; have hcz19_4 : w17.cell? ⟨gb226, 4, none⟩ = some (.int .i64 a0_4) := (blk_cell BK226.out 4).trans rfl; have hcz19_5 : w17.cell? ⟨gb226, 5, none⟩ = some (.int .i64 t227) := (blk_cell BK226.out 5).trans rfl; have hcz19_6 : w17.cell? ⟨gb226, 6, none⟩ = some (.int .i64 t228) := (blk_cell BK226.out 6).trans rfl; have hcz19_7 : w17.cell? ⟨gb226, 7, none⟩ = some (.slice Ao15 t229.length co15) := (blk_cell BK226.out 7).trans rfl; have hcz19_8 : w17.cell? ⟨gb226, 8, none⟩ = some (.slice none 0 0) := (blk_cell BK226.out 8).trans rfl; have hcz19_9 : w17.cell? ⟨gb226, 9, none⟩ = some (.slice none 0 0) := (blk_cell BK226.out 9).trans rfl; have hfz19_0 := blk_frozen BK226.out 0; have hfz19_1 := blk_frozen BK226.out 1; have hfz19_2 := blk_frozen BK226.out 2; have hfz19_3 := blk_frozen BK226.out 3; have hfz19_4 := blk_frozen BK226.out 4; have hfz19_5 := blk_frozen BK226.out 5; have hfz19_6 := blk_frozen BK226.out 6; have hfz19_7 := blk_frozen BK226.out 7; have hfz19_8 := blk_frozen BK226.out 8; have hfz19_9 := blk_frozen BK226.out 9; have hcz20_0 : w17.cell? ⟨gb224, 0, none⟩ = some (.int .i64 a0_0) := (blk_cell BK224.out 0).trans rfl; have hcz20_1 : w17.cell? ⟨gb224, 1, none⟩ = some (.int .i64 a0_1) := (blk_cell BK224.out 1).trans rfl; have hcz20_2 : w17.cell? ⟨gb224, 2, none⟩ = some (.int .i64 a0_2) := (blk_cell BK224.out 2).trans rfl; have hcz20_3 : w17.cell? ⟨gb224, 3, none⟩ = some (.int .i64 a0_3) := (blk_cell BK224.out 3).trans rfl; have hcz20_4 : w17.cell? ⟨gb224, 4, none⟩ = some (.int .i64 a0_4) := (blk_cell BK224.out 4).trans rfl; have hcz20_5 : w17.cell? ⟨gb224, 5, none⟩ = some (.int .i64 a0_5) := (blk_cell BK224.out 5).trans rfl; have hcz20_6 : w17.cell? ⟨gb224, 6, none⟩ = some (.int .i64 a0_6) := (blk_cell BK224.out 6).trans rfl; have hcz20_7 : w17.cell? ⟨gb224, 7, none⟩ = some (.slice A0_7 l0_7.length c0_7) := (blk_cell BK224.out 7).trans rfl; have hcz20_8 : w17.cell? ⟨gb224, 8, none⟩ = some (.slice A0_8 l0_8.length c0_8) := (blk_cell BK224.out 8).trans rfl; have hcz20_9 : w17.cell? ⟨gb224, 9, none⟩ = some (.slice A0_9 l0_9.length c0_9) := (blk_cell BK224.out 9).trans rfl; have hfz20_0 := blk_frozen BK224.out 0; have hfz20_1 := blk_frozen BK224.out 1; have hfz20_2 := blk_frozen BK224.out 2; have hfz20_3 := blk_frozen BK224.out 3; have hfz20_4 := blk_frozen BK224.out 4; have hfz20_5 := blk_frozen BK224.out 5; have hfz20_6 := blk_frozen BK224.out 6; have hfz20_7 := blk_frozen BK224.out 7; have hfz20_8 := blk_frozen BK224.out 8; have hfz20_9 := blk_frozen BK224.out 9) | ((with_reducible refine gate_callee (f := 77) rfl ?_); refine goesL_ (some 29) rfl rfl Try.func77 kr rfl #[.slice A0_9 l0_9.length c0_9] rfl u11_4 ?_; (with_reducible refine (laws_toIntS.calls k _ _ l0_9 t235 _ ?side1 ?side2 A4.out).mono ?_); (case side1 => exact (by exact Kd.C_below HR0_9.out u11_1)); (case side2 => exact HC0_9.out); rintro e w21 ⟨v236, rfl, ho0, hb⟩; refine ⟨_, rfl, ?_⟩; have n0_ := am (Kd.R_below (by (with_reducible repeat (first | apply Kd.R_alloc | apply Kd.R_drewN | apply Kd.R_drew)); exact (Kd.R_mono (Kd.R_far (p := ⟨gb226, 8, none⟩) (Kd.R_types HO231.out BK226.out (by decide)) (fun _ hk => hk.2) (.slice Ao18 t232.length co18)) (fun _ h_ => h_.1))) hb); have n1_ := am (Kd.R_elder' u11_26 (Kd.R_base ho0) hb); have n2_ := am (Kd.R_lower (Kd.R_new' ho0 (Kd.R_lt u11_26)) (below_size u11_1)); have n3_ := am (blk_below (g := gb224) (o := .cells #[.int .i64 a0_0, .int .i64 a0_1, .int .i64 a0_2, .int .i64 a0_3, .int .i64 a0_4, .int .i64 a0_5, .int .i64 a0_6, .slice A0_7 l0_7.length c0_7, .slice A0_8 l0_8.length c0_8, .slice A0_9 l0_9.length c0_9] 45 (0, 0)) (by (with_reducible repeat (first | refine blk_drewN ?_ _ | refine blk_drew ?_ | refine blk_alloc ?_ _)); refine blk_far ?_ NB224_226.out _; (with_reducible repeat (first | refine blk_drewN ?_ _ | refine blk_drew ?_ | refine blk_alloc ?_ _)); exact BK224.out) hb); have n4_ := am (blk_below (g := gb225) (o := .cells #[.int .i64 0, .int .i64 0, .int .i64 0, .int .i64 0, .int .i64 0, .int .i64 0, .int .i64 0, .slice none 0 0, .slice none 0 0, .slice none 0 0] 37 (0, 0)) (by (with_reducible repeat (first | refine blk_drewN ?_ _ | refine blk_drew ?_ | refine blk_alloc ?_ _)); refine blk_far ?_ NB225_226.out _; (with_reducible repeat (first | refine blk_drewN ?_ _ | refine blk_drew ?_ | refine blk_alloc ?_ _)); exact BK225.out) hb); have n5_ := am (blk_below (g := gb226) (o := .cells #[.int .i64 a0_0, .int .i64 a0_1, .int .i64 a0_2, .int .i64 a0_3, .int .i64 a0_4, .int .i64 t227, .int .i64 t228, .slice Ao15 t229.length co15, .slice Ao18 t232.length co18, .slice none 0 0] 37 (0, 0)) (by (with_reducible repeat (first | refine blk_drewN ?_ _ | refine blk_drew ?_ | refine blk_alloc ?_ _)); refine blk_put (cs := #[.int .i64 a0_0, .int .i64 a0_1, .int .i64 a0_2, .int .i64 a0_3, .int .i64 a0_4, .int .i64 t227, .int .i64 t228, .slice Ao15 t229.length co15, .slice none 0 0, .slice none 0 0]) ?_ 8 _ rfl; (with_reducible repeat (first | refine blk_drewN ?_ _ | refine blk_drew ?_ | refine blk_alloc ?_ _)); exact BK226.out) hb); have n6_ := am (below_step u11_1 hb); clear HO231; clear HO234; clear BK224; clear BK225; clear BK226; clear HB; have HO231 := n0_; have HO234 := n1_; have HO237 := n2_; have BK224 := n3_; have BK225 := n4_; have BK226 := n5_; have HB := n6_; clear n0_ n1_ n2_ n3_ n4_ n5_ n6_; (try clear hb); (try clear hb2); (try clear hk); (try clear hi); (try clear ho0); obtain ⟨Ao22, co22, eo22⟩ := Kd.R_slice HO237.out; subst eo22; have hcz23_0 : w21.cell? ⟨gb226, 0, none⟩ = some (.int .i64 a0_0) := (blk_cell BK226.out 0).trans rfl; have hcz23_1 : w21.cell? ⟨gb226, 1, none⟩ = some (.int .i64 a0_1) := (blk_cell BK226.out 1).trans rfl; have hcz23_2 : w21.cell? ⟨gb226, 2, none⟩ = some (.int .i64 a0_2) := (blk_cell BK226.out 2).trans rfl; have hcz23_3 : w21.cell? ⟨gb226, 3, none⟩ = some (.int .i64 a0_3) := (blk_cell BK226.out 3).trans rfl; have hcz23_4 : w21.cell? ⟨gb226, 4, none⟩ = some (.int .i64 a0_4) := (blk_cell BK226.out 4).trans rfl; have hcz23_5 : w21.cell? ⟨gb226, 5, none⟩ = some (.int .i64 t227) := (blk_cell BK226.out 5).trans rfl; have hcz23_6 : w21.cell? ⟨gb226, 6, none⟩ = some (.int .i64 t228) := (blk_cell BK226.out 6).trans rfl; have hcz23_7 : w21.cell? ⟨gb226, 7, none⟩ = some (.slice Ao15 t229.length co15) := (blk_cell BK226.out 7).trans rfl; have hcz23_8 : w21.cell? ⟨gb226, 8, none⟩ = some (.slice Ao18 t232.length co18) := (blk_cell BK226.out 8).trans rfl; have hcz23_9 : w21.cell? ⟨gb226, 9, none⟩ = some (.slice none 0 0) := (blk_cell BK226.out 9).trans rfl; have hfz23_0 := blk_frozen BK226.out 0; have hfz23_1 := blk_frozen BK226.out 1; have hfz23_2 := blk_frozen BK226.out 2; have hfz23_3 := blk_frozen BK226.out 3; have hfz23_4 := blk_frozen BK226.out 4; have hfz23_5 := blk_frozen BK226.out 5; have hfz23_6 := blk_frozen BK226.out 6; have hfz23_7 := blk_frozen BK226.out 7; have hfz23_8 := blk_frozen BK226.out 8; have hfz23_9 := blk_frozen BK226.out 9; have hcz24_0 : w21.cell? ⟨gb225, 0, none⟩ = some (.int .i64 0) := (blk_cell BK225.out 0).trans rfl; have hcz24_1 : w21.cell? ⟨gb225, 1, none⟩ = some (.int .i64 0) := (blk_cell BK225.out 1).trans rfl; have hcz24_2 : w21.cell? ⟨gb225, 2, none⟩ = some (.int .i64 0) := (blk_cell BK225.out 2).trans rfl; have hcz24_3 : w21.cell? ⟨gb225, 3, none⟩ = some (.int .i64 0) := (blk_cell BK225.out 3).trans rfl; have hcz24_4 : w21.cell? ⟨gb225, 4, none⟩ = some (.int .i64 0) := (blk_cell BK225.out 4).trans rfl; have hcz24_5 : w21.cell? ⟨gb225, 5, none⟩ = some (.int .i64 0) := (blk_cell BK225.out 5).trans rfl; have hcz24_6 : w21.cell? ⟨gb225, 6, none⟩ = some (.int .i64 0) := (blk_cell BK225.out 6).trans rfl; have hcz24_7 : w21.cell? ⟨gb225, 7, none⟩ = some (.slice none 0 0) := (blk_cell BK225.out 7).trans rfl; have hcz24_8 : w21.cell? ⟨gb225, 8, none⟩ = some (.slice none 0 0) := (blk_cell BK225.out 8).trans rfl; have hcz24_9 : w21.cell? ⟨gb225, 9, none⟩ = some (.slice none 0 0) := (blk_cell BK225.out 9).trans rfl; have hfz24_0 := blk_frozen BK225.out 0; have hfz24_1 := blk_frozen BK225.out 1; have hfz24_2 := blk_frozen BK225.out 2; have hfz24_3 := blk_frozen BK225.out 3; have hfz24_4 := blk_frozen BK225.out 4; have hfz24_5 := blk_frozen BK225.out 5; have hfz24_6 := blk_frozen BK225.out 6; have hfz24_7 := blk_frozen BK225.out 7; have hfz24_8 := blk_frozen BK225.out 8; have hfz24_9 := blk_frozen BK225.out 9))
 refine bodyPost_ret (results_cell_row rfl _ _ gb225 37 #[.int .i64 a0_0, .int .i64 a0_1, .int .i64 a0_2, .int .i64 a0_3, .int .i64 a0_4, .int .i64 t227, .int .i64 t228, .slice Ao15 t229.length co15, .slice Ao18 t232.length co18, .slice Ao22 t235.length co22] (0, 0) _ rfl (by (with_reducible repeat (first | refine blk_drewN ?_ _ | refine blk_drew ?_ | refine blk_alloc ?_ _)); refine blk_put (cs := #[.int .i64 a0_0, .int .i64 a0_1, .int .i64 a0_2, .int .i64 a0_3, .int .i64 a0_4, .int .i64 t227, .int .i64 t228, .slice Ao15 t229.length co15, .slice Ao18 t232.length co18, .slice none 0 0]) ?_ 9 _ rfl; (with_reducible repeat (first | refine blk_drewN ?_ _ | refine blk_drew ?_ | refine blk_alloc ?_ _)); refine blk_put (cs := #[.int .i64 a0_0, .int .i64 a0_1, .int .i64 a0_2, .int .i64 a0_3, .int .i64 a0_4, .int .i64 t227, .int .i64 t228, .slice Ao15 t229.length co15, .slice none 0 0, .slice none 0 0]) ?_ 8 _ rfl; (with_reducible repeat (first | refine blk_drewN ?_ _ | refine blk_drew ?_ | refine blk_alloc ?_ _)); refine blk_put (cs := #[.int .i64 a0_0, .int .i64 a0_1, .int .i64 a0_2, .int .i64 a0_3, .int .i64 a0_4, .int .i64 t227, .int .i64 t228, .slice none 0 0, .slice none 0 0, .slice none 0 0]) ?_ 7 _ rfl; (with_reducible repeat (first | refine blk_drewN ?_ _ | refine blk_drew ?_ | refine blk_alloc ?_ _)); refine blk_put (cs := #[.int .i64 a0_0, .int .i64 a0_1, .int .i64 a0_2, .int .i64 a0_3, .int .i64 a0_4, .int .i64 t227, .int .i64 0, .slice none 0 0, .slice none 0 0, .slice none 0 0]) ?_ 6 _ rfl; (with_reducible repeat (first | refine blk_drewN ?_ _ | refine blk_drew ?_ | refine blk_alloc ?_ _)); refine blk_put (cs := #[.int .i64 a0_0, .int .i64 a0_1, .int .i64 a0_2, .int .i64 a0_3, .int .i64 a0_4, .int .i64 0, .int .i64 0, .slice none 0 0, .slice none 0 0, .slice none 0 0]) ?_ 5 _ rfl; (with_reducible repeat (first | refine blk_drewN ?_ _ | refine blk_drew ?_ | refine blk_alloc ?_ _)); refine blk_put (cs := #[.int .i64 a0_0, .int .i64 a0_1, .int .i64 a0_2, .int .i64 a0_3, .int .i64 0, .int .i64 0, .int .i64 0, .slice none 0 0, .slice none 0 0, .slice none 0 0]) ?_ 4 _ rfl; (with_reducible repeat (first | refine blk_drewN ?_ _ | refine blk_drew ?_ | refine blk_alloc ?_ _)); refine blk_put (cs := #[.int .i64 a0_0, .int .i64 a0_1, .int .i64 a0_2, .int .i64 0, .int .i64 0, .int .i64 0, .int .i64 0, .slice none 0 0, .slice none 0 0, .slice none 0 0]) ?_ 3 _ rfl; (with_reducible repeat (first | refine blk_drewN ?_ _ | refine blk_drew ?_ | refine blk_alloc ?_ _)); refine blk_put (cs := #[.int .i64 a0_0, .int .i64 a0_1, .int .i64 0, .int .i64 0, .int .i64 0, .int .i64 0, .int .i64 0, .slice none 0 0, .slice none 0 0, .slice none 0 0]) ?_ 2 _ rfl; (with_reducible repeat (first | refine blk_drewN ?_ _ | refine blk_drew ?_ | refine blk_alloc ?_ _)); refine blk_put (cs := #[.int .i64 a0_0, .int .i64 0, .int .i64 0, .int .i64 0, .int .i64 0, .int .i64 0, .int .i64 0, .slice none 0 0, .slice none 0 0, .slice none 0 0]) ?_ 1 _ rfl; (with_reducible repeat (first | refine blk_drewN ?_ _ | refine blk_drew ?_ | refine blk_alloc ?_ _)); refine blk_put (cs := #[.int .i64 0, .int .i64 0, .int .i64 0, .int .i64 0, .int .i64 0, .int .i64 0, .int .i64 0, .slice none 0 0, .slice none 0 0, .slice none 0 0]) ?_ 0 _ rfl; (with_reducible repeat (first | refine blk_drewN ?_ _ | refine blk_drew ?_ | refine blk_alloc ?_ _)); refine blk_far ?_ NB225_226.out _; (with_reducible repeat (first | refine blk_drewN ?_ _ | refine blk_drew ?_ | refine blk_alloc ?_ _)); exact BK225.out) Try.underlying37 rfl kr) rfl ?_
 exact ⟨_, _, _, by first | rfl | (simp [errW_none, errW_some] <;> rfl) | (simp [*, errW_none, errW_some] <;> rfl), (by (with_reducible repeat (first | apply Kd.R_alloc | apply Kd.R_drewN | apply Kd.R_drew)); exact Kd.R_mono (Kd.R_far (p := ⟨gb225, 9, none⟩) (Kd.R_far (p := ⟨gb225, 8, none⟩) (Kd.R_far (p := ⟨gb225, 7, none⟩) (Kd.R_far (p := ⟨gb225, 6, none⟩) (Kd.R_far (p := ⟨gb225, 5, none⟩) (Kd.R_far (p := ⟨gb225, 4, none⟩) (Kd.R_far (p := ⟨gb225, 3, none⟩) (Kd.R_far (p := ⟨gb225, 2, none⟩) (Kd.R_far (p := ⟨gb225, 1, none⟩) (Kd.R_far (p := ⟨gb225, 0, none⟩) (Kd.R_far (p := ⟨gb226, 9, none⟩) (Kd.R_types (Kd.R_types HO231.out BK226.out (by decide)) BK225.out (by decide)) (fun _ hk => hk.1.2) (.slice Ao22 t235.length co22)) (fun _ hk => hk.2) (.int .i64 a0_0)) (fun _ hk => hk.2) (.int .i64 a0_1)) (fun _ hk => hk.2) (.int .i64 a0_2)) (fun _ hk => hk.2) (.int .i64 a0_3)) (fun _ hk => hk.2) (.int .i64 a0_4)) (fun _ hk => hk.2) (.int .i64 t227)) (fun _ hk => hk.2) (.int .i64 t228)) (fun _ hk => hk.2) (.slice Ao15 t229.length co15)) (fun _ hk => hk.2) (.slice Ao18 t232.length co18)) (fun _ hk => hk.2) (.slice Ao22 t235.length co22)) (fun _ hk => trivial)), (by (with_reducible repeat (first | apply Kd.R_alloc | apply Kd.R_drewN | apply Kd.R_drew)); exact Kd.R_mono (Kd.R_far (p := ⟨gb225, 9, none⟩) (Kd.R_far (p := ⟨gb225, 8, none⟩) (Kd.R_far (p := ⟨gb225, 7, none⟩) (Kd.R_far (p := ⟨gb225, 6, none⟩) (Kd.R_far (p := ⟨gb225, 5, none⟩) (Kd.R_far (p := ⟨gb225, 4, none⟩) (Kd.R_far (p := ⟨gb225, 3, none⟩) (Kd.R_far (p := ⟨gb225, 2, none⟩) (Kd.R_far (p := ⟨gb225, 1, none⟩) (Kd.R_far (p := ⟨gb225, 0, none⟩) (Kd.R_far (p := ⟨gb226, 9, none⟩) (Kd.R_types (Kd.R_types HO234.out BK226.out (by decide)) BK225.out (by decide)) (fun _ hk => hk.1.2) (.slice Ao22 t235.length co22)) (fun _ hk => hk.2) (.int .i64 a0_0)) (fun _ hk => hk.2) (.int .i64 a0_1)) (fun _ hk => hk.2) (.int .i64 a0_2)) (fun _ hk => hk.2) (.int .i64 a0_3)) (fun _ hk => hk.2) (.int .i64 a0_4)) (fun _ hk => hk.2) (.int .i64 t227)) (fun _ hk => hk.2) (.int .i64 t228)) (fun _ hk => hk.2) (.slice Ao15 t229.length co15)) (fun _ hk => hk.2) (.slice Ao18 t232.length co18)) (fun _ hk => hk.2) (.slice Ao22 t235.length co22)) (fun _ hk => hk.1.1.2)), (by (with_reducible repeat (first | apply Kd.R_alloc | apply Kd.R_drewN | apply Kd.R_drew)); exact Kd.R_mono (Kd.R_far (p := ⟨gb225, 9, none⟩) (Kd.R_far (p := ⟨gb225, 8, none⟩) (Kd.R_far (p := ⟨gb225, 7, none⟩) (Kd.R_far (p := ⟨gb225, 6, none⟩) (Kd.R_far (p := ⟨gb225, 5, none⟩) (Kd.R_far (p := ⟨gb225, 4, none⟩) (Kd.R_far (p := ⟨gb225, 3, none⟩) (Kd.R_far (p := ⟨gb225, 2, none⟩) (Kd.R_far (p := ⟨gb225, 1, none⟩) (Kd.R_far (p := ⟨gb225, 0, none⟩) (Kd.R_far (p := ⟨gb226, 9, none⟩) (Kd.R_types (Kd.R_types HO237.out BK226.out (by decide)) BK225.out (by decide)) (fun _ hk => hk.1.2) (.slice Ao22 t235.length co22)) (fun _ hk => hk.2) (.int .i64 a0_0)) (fun _ hk => hk.2) (.int .i64 a0_1)) (fun _ hk => hk.2) (.int .i64 a0_2)) (fun _ hk => hk.2) (.int .i64 a0_3)) (fun _ hk => hk.2) (.int .i64 a0_4)) (fun _ hk => hk.2) (.int .i64 t227)) (fun _ hk => hk.2) (.int .i64 t228)) (fun _ hk => hk.2) (.slice Ao15 t229.length co15)) (fun _ hk => hk.2) (.slice Ao18 t232.length co18)) (fun _ hk => hk.2) (.slice Ao22 t235.length co22)) (fun _ hk => hk.1.1.2)), u11_1⟩

/-! ### laws_toNodeS: function 96 -/
def laws_toNodeS.l0 : Nat → List (S45) → List (S37) → Int → Option ((List (S37)))
 | 0, _, _, _ => none
 | k + 1, x0, x3, x4 => if x4 < (x0.length : Int) then (if 0 ≤ x4 then ((laws_toNode.f k ((rd_T45 x0 x4).f0) ((rd_T45 x0 x4).f1) ((rd_T45 x0 x4).f2) ((rd_T45 x0 x4).f3) ((rd_T45 x0 x4).f4) ((rd_T45 x0 x4).f5.f0) ((rd_T45 x0 x4).f5.f1) ((rd_T45 x0 x4).f5.f2) ((rd_T45 x0 x4).f6) ((rd_T45 x0 x4).f7)).bind fun bt242 => (if x4 < (x3.length : Int) then (laws_toNodeS.l0 k x0 (x3.set (x4 : Int).toNat (⟨bt242.1, bt242.2.1, bt242.2.2.1, bt242.2.2.2.1, bt242.2.2.2.2.1, (⟨bt242.2.2.2.2.2.1, bt242.2.2.2.2.2.2.1, bt242.2.2.2.2.2.2.2.1⟩ : S34), bt242.2.2.2.2.2.2.2.2.1, bt242.2.2.2.2.2.2.2.2.2⟩ : S37)) (wrap64 (x4 + 1))) else (none))) else (none)) else (some x3)
def laws_toNodeS.f (k : Nat) (l0 : List (S45)) : Option ((List (S37))) := if 0 ≤ (l0.length : Int) then (if ((l0.length : Int) : Int).toNat ≤ 2199023255552 then (laws_toNodeS.l0 k l0 (List.replicate ((l0.length : Int) : Int).toNat z37) 0) else (none)) else (none)
theorem laws_toNodeS.mono_l : ∀ k, (∀ y0 y1 y2, LeO (laws_toNodeS.l0 k y0 y1 y2) (laws_toNodeS.l0 (k + 1) y0 y1 y2))
 | 0 => fun _ _ _ r h => by simp [laws_toNodeS.l0] at h
 | k + 1 => by
   have ih0 := laws_toNodeS.mono_l k
   · intro y0 y1 y2
     unfold laws_toNodeS.l0
     repeat' first
     | (with_reducible exact ih0 _ _ _)
     | (with_reducible exact laws_toNode.mono _ _ _ _ _ _ _ _ _ _ _)
     | (with_reducible exact LeO.refl _)
     | (with_reducible exact LeO.none _)
     | (with_reducible refine LeO.ite ?_ ?_)
     | (with_reducible refine LeO.bind ?_ (fun _ => ?_))
     | exact ih0 _ _ _
     | exact laws_toNode.mono _ _ _ _ _ _ _ _ _ _ _
     | exact LeO.none _
     | refine LeO.ite ?_ ?_
     | refine LeO.bind ?_ (fun _ => ?_)
theorem laws_toNodeS.mono : ∀ a0 k, LeO (laws_toNodeS.f k a0) (laws_toNodeS.f (k + 1) a0) := by
 intro a0 k
 have ih0 := laws_toNodeS.mono_l k
 unfold laws_toNodeS.f
 repeat' first
     | (with_reducible exact ih0 _ _ _)
     | (with_reducible exact laws_toNode.mono _ _ _ _ _ _ _ _ _ _ _)
     | (with_reducible exact LeO.refl _)
     | (with_reducible exact LeO.none _)
     | (with_reducible refine LeO.ite ?_ ?_)
     | (with_reducible refine LeO.bind ?_ (fun _ => ?_))
     | exact ih0 _ _ _
     | exact laws_toNode.mono _ _ _ _ _ _ _ _ _ _ _
     | exact LeO.none _
     | refine LeO.ite ?_ ?_
     | refine LeO.bind ?_ (fun _ => ?_)
set_option maxHeartbeats 8000000 in
set_option maxRecDepth 100000 in
theorem laws_toNodeS.calls (k : Nat) (A0 : Option Addr) (c0 : Nat) (l0 : List (S45)) (r : List (S37)) (w : World) (hr0 : Kd.C k45 w A0 l0.length l0) (hc0 : l0.length ≤ c0) (h : laws_toNodeS.f k l0 = some r) :
   Calls Try.prog 96 #[.slice A0 l0.length c0] w fun e w' => ∃ v0_ : Value, e = .returned (v0_) ∧ Kd.S k37 37 w' w.heap.size (fun _ => True) v0_ r ∧ Below w.heap.size w w' := by
 have hu45 := Try.underlying45
 have hu37 := Try.underlying37
 have HR0 := am hr0
 have HC0 := am hc0
 clear hr0 hc0
 have HB := am (Below.refl w.heap.size w)
 have H : (if 0 ≤ (l0.length : Int) then (if ((l0.length : Int) : Int).toNat ≤ 2199023255552 then (laws_toNodeS.l0 k l0 (List.replicate ((l0.length : Int) : Int).toNat z37) 0) else (none)) else (none)) = some r := h
 clear h
 by_cases c2 : 0 ≤ (l0.length : Int)
 rotate_left
 · rw [if_neg c2] at H
   exact absurd H (by simp)
 rw [if_pos c2] at H
 have c2b0 := eq_true c2
 have c2b1 : decide (0 ≤ (l0.length : Int)) = true := decide_eq_true c2
 clear c2
 by_cases c3 : ((l0.length : Int) : Int).toNat ≤ 2199023255552
 rotate_left
 · rw [if_neg c3] at H
   exact absurd H (by simp)
 rw [if_pos c3] at H
 have c3b0 := eq_true c3
 have c3b1 : decide (((l0.length : Int) : Int).toNat ≤ 2199023255552) = true := decide_eq_true c3
 clear c3
 obtain ⟨y238, hy238⟩ : ∃ y_ : List (S37), y_ = (List.replicate ((l0.length : Int) : Int).toNat z37) := ⟨_, rfl⟩
 replace H : (laws_toNodeS.l0 k l0 y238 0) = some r := by first | (rw [hy238]; with_reducible exact H) | (have H2_ := (Option.bind_some _ _).symm.trans H; rw [hy238]; with_reducible exact H2_) | (have H2_ := (Option.bind_some _ _).symm.trans H; with_reducible exact H2_) | with_reducible exact H | (rw [hy238]; exact H) | exact H
 have Ny238 := am hy238
 clear hy238
 have H' := am H
 clear H
 go_enter Try.func96, Try.ntmps96
 go_wp2_with (first | ((with_reducible refine gate_dst (N := 7) rfl ?_); refine Kd.S_make k37 _ 37 rfl (N := 7) rfl 50 _ _ rfl (l0.length : Int) rfl rfl Try.underlying50 (.agg #[(.int .i64 0), (.int .i64 0), (.int .i64 0), (.int .i64 0), (.int .i64 0), (.int .i64 0), (.int .i64 0), (.slice none 0 0), (.slice none 0 0), (.slice none 0 0)]) 128 info37 rfl (by decide) (by omega) z37 (ok := fun _ => True) (okp := fun _ => True) (k37_mkM _ _ _ z37 (Kd.R_nil _ _ _ _ _) (Kd.R_nil _ _ _ _ _) (Kd.R_nil _ _ _ _ _)) (fun _ hk => hk) trivial (of_decide_eq_true u11_2) (Nat.le_trans (Nat.mul_le_mul_right _ (of_decide_eq_true u11_2 : (l0.length : Int).toNat ≤ 2199023255552)) (by omega)) (Below.refl _ _) (Nat.le_refl _) ?_; intro v239 w4 ho5 hb hg_ hnew_; clear hg_ hnew_; (first | rw [← Ny238.out] at ho5 | (simp only [Int.reduceToNat] at ho5; rw [← Ny238.out] at ho5)); have n0_ := am (Kd.S_lower ho5 (below_size u11_0)); have n1_ := am (below_step u11_0 hb); clear HB; have HO240 := n0_; have HB := n1_; clear n0_ n1_; clear hb ho5))
 go_loopg [4] k (fun kq v4 w' => ∃ (x3_1 : List (S37)) (x4_1 : Int), v4 = .int .i64 x4_1 ∧ Aside0 (laws_toNodeS.l0 kq l0 x3_1 x4_1 = some r) ∧ Aside0 (kq ≤ k) ∧ Aside0 (Kd.S k37 37 w' w.heap.size (fun _ => True) v239 x3_1) ∧ Aside0 (Below w.heap.size w w'))
 case atStart => exact ⟨(y238), (0), u11_25, H', ⟨Nat.le_refl _⟩, ⟨(by (with_reducible repeat (first | apply Kd.S_alloc | apply Kd.S_drewN | apply Kd.S_drew)); exact HO240.out)⟩, ⟨u11_0⟩⟩
 clear H'
 try clear c2
 try clear c2b0
 try clear c2b1
 try clear p2
 try clear c3
 try clear c3b0
 try clear c3b1
 obtain ⟨x3_1, x4_1, rfl, HA, HK1, HO_3, HB⟩ := hrel
 cases gk with
 | zero => exact absurd HA.out (by simp [laws_toNodeS.l0])
 | succ k1 =>
   have H := HA.out
   clear HA
   simp only [laws_toNodeS.l0] at H
   by_cases c6 : x4_1 < (l0.length : Int)
   rotate_left
   · rw [if_neg c6] at H
     have c6b0 : decide (x4_1 < (l0.length : Int)) = false := decide_eq_false c6
     clear c6
     obtain rfl := Option.some.inj H
     go_wp2
     go_ret
     exact ⟨_, by first | rfl | (simp [errW_none, errW_some] <;> rfl) | (simp [*, errW_none, errW_some] <;> rfl), u11_13, u11_0⟩
   rw [if_pos c6] at H
   have c6b0 : decide (x4_1 < (l0.length : Int)) = true := decide_eq_true c6
   clear c6
   by_cases c7 : 0 ≤ x4_1
   rotate_left
   · rw [if_neg c7] at H
     exact absurd H (by simp)
   rw [if_pos c7] at H
   have c7b0 : decide (0 ≤ x4_1) = true := decide_eq_true c7
   clear c7
   replace H := Option.bind_eq_some_iff.mp H
   obtain ⟨⟨t242, t243, t244, t245, t246, t247, t248, t249, t252, t255⟩, A80, H⟩ := H
   (try dsimp only at H)
   have A8 := am A80
   clear A80
   by_cases c9 : x4_1 < (x3_1.length : Int)
   rotate_left
   · rw [if_neg c9] at H
     exact absurd H (by simp)
   rw [if_pos c9] at H
   have c9b0 : decide (x4_1 < (x3_1.length : Int)) = true := decide_eq_true c9
   clear c9
   obtain ⟨y258, hy258⟩ : ∃ y_ : List (S37), y_ = (x3_1.set (x4_1 : Int).toNat (⟨t242, t243, t244, t245, t246, (⟨t247, t248, t249⟩ : S34), t252, t255⟩ : S37)) := ⟨_, rfl⟩
   replace H : (laws_toNodeS.l0 k1 l0 y258 (wrap64 (x4_1 + 1))) = some r := by first | (rw [hy258]; with_reducible exact H) | (have H2_ := (Option.bind_some _ _).symm.trans H; rw [hy258]; with_reducible exact H2_) | (have H2_ := (Option.bind_some _ _).symm.trans H; with_reducible exact H2_) | with_reducible exact H | (rw [hy258]; exact H) | exact H
   have Ny258 := am hy258
   clear hy258
   have H' := am H
   clear H
   have p241 : 0 ≤ (x4_1 : Int) := of_decide_eq_true u11_2
   have q241 : x4_1 < (l0.length : Int) := of_decide_eq_true u11_2
   obtain ⟨ad241, A241_7, c241_7, A241_8, c241_8, A241_9, c241_9, e241, hx241_0, hx241_1, hx241_2, hx241_3, hx241_4, hx241_5, hx241_6, hx241_7, hx241_8, hx241_9, hl241_7, hi241_7, hl241_8, hi241_8, hl241_9, hi241_9⟩ := at_T45 HR0.out x4_1 p241 q241
   cases e241
   replace hx241_0 := (HB.out.cell (World.block_lt_of_cell? w _ hx241_0)).trans hx241_0
   replace hx241_1 := (HB.out.cell (World.block_lt_of_cell? w _ hx241_1)).trans hx241_1
   replace hx241_2 := (HB.out.cell (World.block_lt_of_cell? w _ hx241_2)).trans hx241_2
   replace hx241_3 := (HB.out.cell (World.block_lt_of_cell? w _ hx241_3)).trans hx241_3
   replace hx241_4 := (HB.out.cell (World.block_lt_of_cell? w _ hx241_4)).trans hx241_4
   replace hx241_5 := (HB.out.cell (World.block_lt_of_cell? w _ hx241_5)).trans hx241_5
   replace hx241_6 := (HB.out.cell (World.block_lt_of_cell? w _ hx241_6)).trans hx241_6
   replace hx241_7 := (HB.out.cell (World.block_lt_of_cell? w _ hx241_7)).trans hx241_7
   replace hx241_8 := (HB.out.cell (World.block_lt_of_cell? w _ hx241_8)).trans hx241_8
   replace hx241_9 := (HB.out.cell (World.block_lt_of_cell? w _ hx241_9)).trans hx241_9
   have HR241_7 := am hi241_7
   have HC241_7 := am hl241_7
   clear hi241_7 hl241_7
   have HR241_8 := am hi241_8
   have HC241_8 := am hl241_8
   clear hi241_8 hl241_8
   have HR241_9 := am hi241_9
   have HC241_9 := am hl241_9
   clear hi241_9 hl241_9
   replace p241 := eq_true p241
   replace q241 := eq_true q241
   go_wp2_with (first | ((with_reducible refine gate_callee (f := 27) rfl ?_); refine goesL_ (some 20) rfl rfl Try.func27 kr rfl #[.agg #[.int .i64 ((rd_T45 l0 x4_1).f0), .int .i64 ((rd_T45 l0 x4_1).f1), .int .i64 ((rd_T45 l0 x4_1).f2), .int .i64 ((rd_T45 l0 x4_1).f3), .int .i64 ((rd_T45 l0 x4_1).f4), .int .i64 ((rd_T45 l0 x4_1).f5.f0), .int .i64 ((rd_T45 l0 x4_1).f5.f1), .slice A241_7 ((rd_T45 l0 x4_1).f5.f2).length c241_7, .slice A241_8 ((rd_T45 l0 x4_1).f6).length c241_8, .slice A241_9 ((rd_T45 l0 x4_1).f7).length c241_9]] rfl u11_4 ?_; (with_reducible refine (laws_toNode.calls k1 ((rd_T45 l0 x4_1).f0) ((rd_T45 l0 x4_1).f1) ((rd_T45 l0 x4_1).f2) ((rd_T45 l0 x4_1).f3) ((rd_T45 l0 x4_1).f4) ((rd_T45 l0 x4_1).f5.f0) ((rd_T45 l0 x4_1).f5.f1) _ _ ((rd_T45 l0 x4_1).f5.f2) _ _ ((rd_T45 l0 x4_1).f6) _ _ ((rd_T45 l0 x4_1).f7) t242 t243 t244 t245 t246 t247 t248 t249 t252 t255 _ ?side1 ?side2 ?side3 ?side4 ?side5 ?side6 A8.out).mono ?_); (case side1 => exact (by repeat (first | exact (Kd.C_below HR241_7.out HB.out) | (with_reducible refine Kd.C_alloc ?_ _) | (with_reducible refine Kd.C_drewN ?_ _) | (with_reducible refine Kd.C_drew ?_)))); (case side2 => exact HC241_7.out); (case side3 => exact (by repeat (first | exact (Kd.C_below HR241_8.out HB.out) | (with_reducible refine Kd.C_alloc ?_ _) | (with_reducible refine Kd.C_drewN ?_ _) | (with_reducible refine Kd.C_drew ?_)))); (case side4 => exact HC241_8.out); (case side5 => exact (by repeat (first | exact (Kd.C_below HR241_9.out HB.out) | (with_reducible refine Kd.C_alloc ?_ _) | (with_reducible refine Kd.C_drewN ?_ _) | (with_reducible refine Kd.C_drew ?_)))); (case side6 => exact HC241_9.out); rintro e w11 ⟨v250, v253, v256, rfl, ho0, ho1, ho2, hb⟩; refine ⟨_, rfl, ?_⟩; have n0_ := am (Kd.S_mono (Kd.S_told (Kd.S_told (Kd.S_told (Kd.S_old u11_13 hb) (Kd.R_base ho0)) (Kd.R_base ho1)) (Kd.R_base ho2)) (fun _ h_ => h_.1)); have n1_ := am (Kd.R_lower ho0 (below_size u11_0)); have n2_ := am (Kd.R_lower ho1 (below_size u11_0)); have n3_ := am (Kd.R_lower ho2 (below_size u11_0)); have n4_ := am (below_step u11_0 hb); clear HO_3; clear HB; have HO_3 := n0_; have HO251 := n1_; have HO254 := n2_; have HO257 := n3_; have HB := n4_; clear n0_ n1_ n2_ n3_ n4_; (try clear hb); (try clear hb2); (try clear hk); (try clear hi); (try clear ho0); (try clear ho1); (try clear ho2); have p10 : 0 ≤ (x4_1 : Int) := of_decide_eq_true u11_2; have q10 : (x4_1 : Int) < ((x3_1.length : Int) : Int) := of_decide_eq_true u11_2; obtain ⟨go10, co10, eo10, gb10, gl10, cl10, HG10⟩ := Kd.S_form HO_3.out (by omega); (first | cases eo10 | (injection eo10 with ea_ en_ ec_; (first | subst ea_ | (injection ea_ with ea_; subst ea_)); subst ec_; clear en_)); have GB10 := am gb10; have GG10 := am HG10; clear gb10 gl10 HG10; obtain ⟨_, ce10, hcl10, hM10, hcc10, hfr10, _, _⟩ := Kd.S_elem HO_3.out z37 (x4_1 : Int) p10 q10; obtain ⟨ve10_7, ve10_8, ve10_9, rfl, ge10_7, ge10_8, ge10_9⟩ := k37_openM hM10; have hx10_0 : w11.cell? ⟨go10, (x4_1 : Int).toNat * 10, none⟩ = some (.int .i64 ((rd_T37 x3_1 x4_1).f0)) := hcc10 0 _ rfl; have hx10_1 : w11.cell? ⟨go10, (x4_1 : Int).toNat * 10 + 1, none⟩ = some (.int .i64 ((rd_T37 x3_1 x4_1).f1)) := hcc10 1 _ rfl; have hx10_2 : w11.cell? ⟨go10, (x4_1 : Int).toNat * 10 + 2, none⟩ = some (.int .i64 ((rd_T37 x3_1 x4_1).f2)) := hcc10 2 _ rfl; have hx10_3 : w11.cell? ⟨go10, (x4_1 : Int).toNat * 10 + 3, none⟩ = some (.int .i64 ((rd_T37 x3_1 x4_1).f3)) := hcc10 3 _ rfl; have hx10_4 : w11.cell? ⟨go10, (x4_1 : Int).toNat * 10 + 4, none⟩ = some (.int .i64 ((rd_T37 x3_1 x4_1).f4)) := hcc10 4 _ rfl; have hx10_5 : w11.cell? ⟨go10, (x4_1 : Int).toNat * 10 + 5, none⟩ = some (.int .i64 ((rd_T37 x3_1 x4_1).f5.f0)) := hcc10 5 _ rfl; have hx10_6 : w11.cell? ⟨go10, (x4_1 : Int).toNat * 10 + 6, none⟩ = some (.int .i64 ((rd_T37 x3_1 x4_1).f5.f1)) := hcc10 6 _ rfl; have hx10_7 : w11.cell? ⟨go10, (x4_1 : Int).toNat * 10 + 7, none⟩ = some (ve10_7) := hcc10 7 _ rfl; have hx10_8 : w11.cell? ⟨go10, (x4_1 : Int).toNat * 10 + 8, none⟩ = some (ve10_8) := hcc10 8 _ rfl; have hx10_9 : w11.cell? ⟨go10, (x4_1 : Int).toNat * 10 + 9, none⟩ = some (ve10_9) := hcc10 9 _ rfl; have hf10_0 : w11.frozen? ⟨go10, (x4_1 : Int).toNat * 10, none⟩ = false := hfr10 0; have hf10_1 : w11.frozen? ⟨go10, (x4_1 : Int).toNat * 10 + 1, none⟩ = false := hfr10 1; have hf10_2 : w11.frozen? ⟨go10, (x4_1 : Int).toNat * 10 + 2, none⟩ = false := hfr10 2; have hf10_3 : w11.frozen? ⟨go10, (x4_1 : Int).toNat * 10 + 3, none⟩ = false := hfr10 3; have hf10_4 : w11.frozen? ⟨go10, (x4_1 : Int).toNat * 10 + 4, none⟩ = false := hfr10 4; have hf10_5 : w11.frozen? ⟨go10, (x4_1 : Int).toNat * 10 + 5, none⟩ = false := hfr10 5; have hf10_6 : w11.frozen? ⟨go10, (x4_1 : Int).toNat * 10 + 6, none⟩ = false := hfr10 6; have hf10_7 : w11.frozen? ⟨go10, (x4_1 : Int).toNat * 10 + 7, none⟩ = false := hfr10 7; have hf10_8 : w11.frozen? ⟨go10, (x4_1 : Int).toNat * 10 + 8, none⟩ = false := hfr10 8; have hf10_9 : w11.frozen? ⟨go10, (x4_1 : Int).toNat * 10 + 9, none⟩ = false := hfr10 9; clear hcl10 hcc10 hfr10 hM10; replace p10 := eq_true p10; replace q10 := eq_true q10; obtain ⟨Ao12, co12, eo12⟩ := Kd.R_slice HO257.out; subst eo12; obtain ⟨Ao13, co13, eo13⟩ := Kd.R_slice HO254.out; subst eo13; obtain ⟨Ao14, co14, eo14⟩ := Kd.R_slice HO251.out; subst eo14; have n_ := am (Kd.S_mono (ok' := (fun k_ => some k_ ≠ (.slice Ao14 t249.length co14 : Value).ownBlock ∧ some k_ ≠ (.slice Ao13 t252.length co13 : Value).ownBlock ∧ some k_ ≠ (.slice Ao12 t255.length co12 : Value).ownBlock)) HO_3.out (fun k_ hk => ⟨hk.1.1.2, ⟨hk.1.2, hk.2⟩⟩)); clear HO_3; have HO_3 := n_; clear n_; have HX15 := am (show Kd.S k37 37 w11 w.heap.size (fun k_ => ((fun _ => True)) k_ ∧ ¬ ((fun k_ => some k_ = (.slice Ao14 t249.length co14 : Value).ownBlock ∨ some k_ = (.slice Ao13 t252.length co13 : Value).ownBlock ∨ some k_ = (.slice Ao12 t255.length co12 : Value).ownBlock)) k_) (.slice (some ⟨go10, 0, none⟩) x3_1.length co10) x3_1 from (by (with_reducible repeat (first | apply Kd.S_alloc | apply Kd.S_drewN | apply Kd.S_drew)); exact Kd.S_mono HO_3.out (fun k_ hk => ⟨trivial, fun e_ => e_.elim (fun h_ => hk.1 h_) (fun h_ => h_.elim (fun h_ => hk.2.1 h_) (fun h_ => hk.2.2 h_))⟩))); obtain ⟨oki15, ce15, hcl15, hM15, hcc15, hfr15, hoki15, hH15⟩ := Kd.S_elem HX15.out z37 (x4_1 : Int) (of_decide_eq_true u11_2) (by have h_ : (x4_1 : Int) < ((x3_1.length : Int) : Int) := of_decide_eq_true u11_2; first | exact h_ | (have e_ := (Kd.S_reads' HO_3.out).1; omega) | simpa using h_); obtain ⟨ve15_7, ve15_8, ve15_9, rfl, ge15_7, ge15_8, ge15_9⟩ := k37_openM hM15; have HP15 := Kd.S_seg hH15 (of_decide_eq_true u11_2) (by have h_ : (x4_1 : Int) < ((x3_1.length : Int) : Int) := of_decide_eq_true u11_2; first | exact h_ | (have e_ := (Kd.S_reads' HO_3.out).1; omega) | simpa using h_) (seg := [.int .i64 t242, .int .i64 t243, .int .i64 t244, .int .i64 t245, .int .i64 t246, .int .i64 t247, .int .i64 t248, .slice Ao14 t249.length co14, .slice Ao13 t252.length co13, .slice Ao12 t255.length co12]) (j := 0) (show 10 ≤ 10 from by decide) (x' := (⟨t242, t243, t244, t245, t246, (⟨t247, t248, t249⟩ : S34), t252, t255⟩ : S37)) (k37_mkM _ _ _ (⟨t242, t243, t244, t245, t246, (⟨t247, t248, t249⟩ : S34), t252, t255⟩ : S37) (Kd.R_mono (Kd.R_tight rfl (Kd.R_mono (ok' := fun k_ => ((fun _ => True)) k_ ∧ k_ ≠ go10) (Kd.R_apart' (HO251.out) (Kd.S_typed HO_3.out) (by decide)) (fun k_ hk => ⟨trivial, fun e_ => (hk.2) (by rw [e_]; rfl)⟩))) (fun _ h_ => Or.inr (Or.inl h_))) (Kd.R_mono (Kd.R_tight rfl (Kd.R_mono (ok' := fun k_ => ((fun _ => True)) k_ ∧ k_ ≠ go10) (Kd.R_apart' (HO254.out) (Kd.S_typed HO_3.out) (by decide)) (fun k_ hk => ⟨trivial, fun e_ => (hk.2) (by rw [e_]; rfl)⟩))) (fun _ h_ => Or.inr (Or.inr (Or.inl h_)))) (Kd.R_mono (Kd.R_tight rfl (Kd.R_mono (ok' := fun k_ => ((fun _ => True)) k_ ∧ k_ ≠ go10) (Kd.R_apart' (HO257.out) (Kd.S_typed HO_3.out) (by decide)) (fun k_ hk => ⟨trivial, fun e_ => (hk.2) (by rw [e_]; rfl)⟩))) (fun _ h_ => Or.inr (Or.inr (Or.inr (h_)))))) (fun _ hk => hk) (fun k_ hk_ => hk_.elim (fun h_ => ((Kd.R_mono (ok' := fun k_ => ((fun _ => True)) k_ ∧ k_ ≠ go10) (Kd.R_apart' (HO251.out) (Kd.S_typed HO_3.out) (by decide)) (fun k_ hk => ⟨trivial, fun e_ => (hk.2) (by rw [e_]; rfl)⟩))).1 k_ h_.symm) (fun h_ => h_.elim (fun h_ => ((Kd.R_mono (ok' := fun k_ => ((fun _ => True)) k_ ∧ k_ ≠ go10) (Kd.R_apart' (HO254.out) (Kd.S_typed HO_3.out) (by decide)) (fun k_ hk => ⟨trivial, fun e_ => (hk.2) (by rw [e_]; rfl)⟩))).1 k_ h_.symm) (fun h_ => ((Kd.R_mono (ok' := fun k_ => ((fun _ => True)) k_ ∧ k_ ≠ go10) (Kd.R_apart' (HO257.out) (Kd.S_typed HO_3.out) (by decide)) (fun k_ hk => ⟨trivial, fun e_ => (hk.2) (by rw [e_]; rfl)⟩))).1 k_ h_.symm))); have hx15_0 := hcc15 0 _ rfl; (try simp only [show (k37).sz = 10 from rfl, Nat.mul_one, Nat.add_zero] at hx15_0); have hf15_0 := hfr15 0; (try simp only [show (k37).sz = 10 from rfl, Nat.mul_one, Nat.add_zero] at hf15_0); have hx15_1 := hcc15 1 _ rfl; (try simp only [show (k37).sz = 10 from rfl, Nat.mul_one, Nat.add_zero] at hx15_1); have hf15_1 := hfr15 1; (try simp only [show (k37).sz = 10 from rfl, Nat.mul_one, Nat.add_zero] at hf15_1); have hx15_2 := hcc15 2 _ rfl; (try simp only [show (k37).sz = 10 from rfl, Nat.mul_one, Nat.add_zero] at hx15_2); have hf15_2 := hfr15 2; (try simp only [show (k37).sz = 10 from rfl, Nat.mul_one, Nat.add_zero] at hf15_2); have hx15_3 := hcc15 3 _ rfl; (try simp only [show (k37).sz = 10 from rfl, Nat.mul_one, Nat.add_zero] at hx15_3); have hf15_3 := hfr15 3; (try simp only [show (k37).sz = 10 from rfl, Nat.mul_one, Nat.add_zero] at hf15_3); have hx15_4 := hcc15 4 _ rfl; (try simp only [show (k37).sz = 10 from rfl, Nat.mul_one, Nat.add_zero] at hx15_4); have hf15_4 := hfr15 4; (try simp only [show (k37).sz = 10 from rfl, Nat.mul_one, Nat.add_zero] at hf15_4); have hx15_5 := hcc15 5 _ rfl; (try simp only [show (k37).sz = 10 from rfl, Nat.mul_one, Nat.add_zero] at hx15_5); have hf15_5 := hfr15 5; (try simp only [show (k37).sz = 10 from rfl, Nat.mul_one, Nat.add_zero] at hf15_5); have hx15_6 := hcc15 6 _ rfl; (try simp only [show (k37).sz = 10 from rfl, Nat.mul_one, Nat.add_zero] at hx15_6); have hf15_6 := hfr15 6; (try simp only [show (k37).sz = 10 from rfl, Nat.mul_one, Nat.add_zero] at hf15_6); have hx15_7 := hcc15 7 _ rfl; (try simp only [show (k37).sz = 10 from rfl, Nat.mul_one, Nat.add_zero] at hx15_7); have hf15_7 := hfr15 7; (try simp only [show (k37).sz = 10 from rfl, Nat.mul_one, Nat.add_zero] at hf15_7); have hx15_8 := hcc15 8 _ rfl; (try simp only [show (k37).sz = 10 from rfl, Nat.mul_one, Nat.add_zero] at hx15_8); have hf15_8 := hfr15 8; (try simp only [show (k37).sz = 10 from rfl, Nat.mul_one, Nat.add_zero] at hf15_8); have hx15_9 := hcc15 9 _ rfl; (try simp only [show (k37).sz = 10 from rfl, Nat.mul_one, Nat.add_zero] at hx15_9); have hf15_9 := hfr15 9; (try simp only [show (k37).sz = 10 from rfl, Nat.mul_one, Nat.add_zero] at hf15_9); clear hcl15 hcc15 hfr15 hM15 hoki15 hH15) | ((with_reducible refine gate_store (t := 37) (p := 21) rfl ?_); refine store_event (t := 37) (p := 21) (v := ?vo_w16) (w1 := ((((((((((w11.setCell ⟨go10, (x4_1 : Int).toNat * 10, none⟩ (.int .i64 t242)).setCell ⟨go10, (x4_1 : Int).toNat * 10 + 1, none⟩ (.int .i64 t243)).setCell ⟨go10, (x4_1 : Int).toNat * 10 + 2, none⟩ (.int .i64 t244)).setCell ⟨go10, (x4_1 : Int).toNat * 10 + 3, none⟩ (.int .i64 t245)).setCell ⟨go10, (x4_1 : Int).toNat * 10 + 4, none⟩ (.int .i64 t246)).setCell ⟨go10, (x4_1 : Int).toNat * 10 + 5, none⟩ (.int .i64 t247)).setCell ⟨go10, (x4_1 : Int).toNat * 10 + 6, none⟩ (.int .i64 t248)).setCell ⟨go10, (x4_1 : Int).toNat * 10 + 7, none⟩ (.slice Ao14 t249.length co14)).setCell ⟨go10, (x4_1 : Int).toNat * 10 + 8, none⟩ (.slice Ao13 t252.length co13)).setCell ⟨go10, (x4_1 : Int).toNat * 10 + 9, none⟩ (.slice Ao12 t255.length co12))) ?hg ?ho ?hn ?hr ?_; (case ho => rfl); (case hg => rfl); (case hn => rfl); (case hr => first | (go_simp; done) | (go_simp; rfl)); intro w16 hw; have hg : w11.grownBy w16 (some go10) := (by rw [hw]; exact HP15.2); have hp_ : Kd.S k37 37 w16 w.heap.size (fun _ => True) (.slice (some ⟨go10, 0, none⟩) x3_1.length co10) y258 := (by rw [hw, Ny258.out]; exact HP15.1); clear HP15; have n0_ := am (hp_); have n1_ := am ((by rw [hw]; exact below_set (below_set (below_set (below_set (below_set (below_set (below_set (below_set (below_set (below_set (HB.out) GB10.out) GB10.out) GB10.out) GB10.out) GB10.out) GB10.out) GB10.out) GB10.out) GB10.out) GB10.out : Below w.heap.size w w16)); clear HO_3; clear HB; clear HO251; clear HO254; clear HO257; have HO_3 := n0_; have HB := n1_; clear n0_ n1_; clear hg hw hp_))
   go_roundg k1
   case measure => have := HK1.out; omega
   case rel => exact ⟨(y258), (wrap64 (x4_1 + 1)), u11_25, H', ⟨by have := HK1.out; omega⟩, ⟨u11_13⟩, ⟨u11_0⟩⟩

/-! ### laws_toMsg: function 17 -/
def laws_toMsg.f (k : Nat) (a0_0 : Int) (a0_1 : Int) (a0_2 : Int) (a0_3 : Int) (a0_4 : Int) (a0_5 : Int) (a0_6 : Int) (a0_7 : Bool) (l0_8 : List (S112)) : Option (Int × Int × Int × Int × Int × Int × Int × Bool × (List (S85))) := (laws_toEntryS.f k l0_8).bind fun t262 => (some (a0_0, a0_1, a0_2, a0_3, a0_4, a0_5, a0_6, a0_7, t262))
theorem laws_toMsg.mono : ∀ a0 a1 a2 a3 a4 a5 a6 a7 a8 k, LeO (laws_toMsg.f k a0 a1 a2 a3 a4 a5 a6 a7 a8) (laws_toMsg.f (k + 1) a0 a1 a2 a3 a4 a5 a6 a7 a8) := by
 intro a0 a1 a2 a3 a4 a5 a6 a7 a8 k
 unfold laws_toMsg.f
 repeat' first
     | (with_reducible exact laws_toEntryS.mono _ _)
     | (with_reducible exact LeO.refl _)
     | (with_reducible exact LeO.none _)
     | (with_reducible refine LeO.ite ?_ ?_)
     | (with_reducible refine LeO.bind ?_ (fun _ => ?_))
     | exact laws_toEntryS.mono _ _
     | exact LeO.none _
     | refine LeO.ite ?_ ?_
     | refine LeO.bind ?_ (fun _ => ?_)
set_option maxHeartbeats 8000000 in
set_option maxRecDepth 100000 in
theorem laws_toMsg.calls (k : Nat) (a0_0 : Int) (a0_1 : Int) (a0_2 : Int) (a0_3 : Int) (a0_4 : Int) (a0_5 : Int) (a0_6 : Int) (a0_7 : Bool) (A0_8 : Option Addr) (c0_8 : Nat) (l0_8 : List (S112)) (r1 : Int) (r2 : Int) (r3 : Int) (r4 : Int) (r5 : Int) (r6 : Int) (r7 : Int) (r8 : Bool) (r9 : List (S85)) (w : World) (hr0_8 : Kd.C k112 w A0_8 l0_8.length l0_8) (hc0_8 : l0_8.length ≤ c0_8) (h : laws_toMsg.f k a0_0 a0_1 a0_2 a0_3 a0_4 a0_5 a0_6 a0_7 l0_8 = some (r1, r2, r3, r4, r5, r6, r7, r8, r9)) :
   Calls Try.prog 17 #[.agg #[.int .i64 a0_0, .int .i64 a0_1, .int .i64 a0_2, .int .i64 a0_3, .int .i64 a0_4, .int .i64 a0_5, .int .i64 a0_6, .bool a0_7, .slice A0_8 l0_8.length c0_8]] w fun e w' => ∃ v8_ : Value, e = .returned (.agg #[.int .i64 r1, .int .i64 r2, .int .i64 r3, .int .i64 r4, .int .i64 r5, .int .i64 r6, .int .i64 r7, .bool r8, v8_]) ∧ Kd.R k85 85 w' w.heap.size (fun _ => True) v8_ r9 ∧ Below w.heap.size w w' := by
 have hu24 := Try.underlying24
 have hu29 := Try.underlying29
 have HR0_8 := am hr0_8
 have HC0_8 := am hc0_8
 clear hr0_8 hc0_8
 have HB := am (Below.refl w.heap.size w)
 have H : ((laws_toEntryS.f k l0_8).bind fun t262 => (some (a0_0, a0_1, a0_2, a0_3, a0_4, a0_5, a0_6, a0_7, t262))) = some (r1, r2, r3, r4, r5, r6, r7, r8, r9) := h
 clear h
 replace H := Option.bind_eq_some_iff.mp H
 obtain ⟨t262, A20, H⟩ := H
 have A2 := am A20
 clear A20
 simp only [Option.some.injEq, Prod.mk.injEq] at H
 obtain ⟨rfl, rfl, rfl, rfl, rfl, rfl, rfl, rfl, rfl⟩ := H
 go_enter Try.func17, Try.ntmps17
 go_wp2_with (first | ((with_reducible refine gate_dst (N := 1) rfl ?_); refine box_event ?hg (N := 1) ?hd (cs := #[.int .i64 a0_0, .int .i64 a0_1, .int .i64 a0_2, .int .i64 a0_3, .int .i64 a0_4, .int .i64 a0_5, .int .i64 a0_6, .bool a0_7, .slice A0_8 l0_8.length c0_8]) (t := 24) ?hr ?_; (case hd => rfl); (case hg => rfl); (case hr => first | (go_simp; done) | (go_simp; rfl)); intro gb259 hg w3 hbox hb; have n0_ := am (below_step u11_0 hb); have n1_ := am (hbox); have n2_ := am ((by rw [hg]; exact (below_size u11_0) : w.heap.size ≤ gb259)); have n3_ := am ((by rw [hg]; exact (below_size u11_0) : w.heap.size ≤ gb259)); clear HB; have HB := n0_; have BK259 := n1_; have GW259 := n2_; have GE259 := n3_; clear n0_ n1_ n2_ n3_; clear hb hbox hg) | ((with_reducible refine gate_dst (N := 2) rfl ?_); refine box_event ?hg (N := 2) ?hd (cs := #[.int .i64 0, .int .i64 0, .int .i64 0, .int .i64 0, .int .i64 0, .int .i64 0, .int .i64 0, .bool false, .slice none 0 0]) (t := 29) ?hr ?_; (case hd => rfl); (case hg => rfl); (case hr => first | (go_simp; done) | (go_simp; rfl)); intro gb260 hg w4 hbox hb; have n0_ := am (blk_below (g := gb259) (o := .cells #[.int .i64 a0_0, .int .i64 a0_1, .int .i64 a0_2, .int .i64 a0_3, .int .i64 a0_4, .int .i64 a0_5, .int .i64 a0_6, .bool a0_7, .slice A0_8 l0_8.length c0_8] 24 (0, 0)) u11_10 hb); have n1_ := am (below_step u11_22 hb); have n2_ := am (hbox); have n3_ := am ((by rw [hg]; exact (below_size u11_22) : w.heap.size ≤ gb260)); have n4_ := am ((by rw [hg]; exact (below_size u11_22) : w.heap.size ≤ gb260)); have n5_ := am ((by rw [hg]; exact Nat.ne_of_lt (blk_lt (g := gb259) (o := .cells #[.int .i64 a0_0, .int .i64 a0_1, .int .i64 a0_2, .int .i64 a0_3, .int .i64 a0_4, .int .i64 a0_5, .int .i64 a0_6, .bool a0_7, .slice A0_8 l0_8.length c0_8] 24 (0, 0)) u11_10) : gb259 ≠ gb260)); have n6_ := am ((by rw [hg]; exact Nat.ne_of_gt (blk_lt (g := gb259) (o := .cells #[.int .i64 a0_0, .int .i64 a0_1, .int .i64 a0_2, .int .i64 a0_3, .int .i64 a0_4, .int .i64 a0_5, .int .i64 a0_6, .bool a0_7, .slice A0_8 l0_8.length c0_8] 24 (0, 0)) u11_10) : gb260 ≠ gb259)); clear BK259; clear HB; have BK259 := n0_; have HB := n1_; have BK260 := n2_; have GW260 := n3_; have GE260 := n4_; have NB259_260 := n5_; have NB260_259 := n6_; clear n0_ n1_ n2_ n3_ n4_ n5_ n6_; clear hb hbox hg) | ((with_reducible refine gate_dst (N := 3) rfl ?_); refine box_event ?hg (N := 3) ?hd (cs := #[.int .i64 0, .int .i64 0, .int .i64 0, .int .i64 0, .int .i64 0, .int .i64 0, .int .i64 0, .bool false, .slice none 0 0]) (t := 29) ?hr ?_; (case hd => rfl); (case hg => rfl); (case hr => first | (go_simp; done) | (go_simp; rfl)); intro gb261 hg w5 hbox hb; have n0_ := am (blk_below (g := gb259) (o := .cells #[.int .i64 a0_0, .int .i64 a0_1, .int .i64 a0_2, .int .i64 a0_3, .int .i64 a0_4, .int .i64 a0_5, .int .i64 a0_6, .bool a0_7, .slice A0_8 l0_8.length c0_8] 24 (0, 0)) u11_10 hb); have n1_ := am (blk_below (g := gb260) (o := .cells #[.int .i64 0, .int .i64 0, .int .i64 0, .int .i64 0, .int .i64 0, .int .i64 0, .int .i64 0, .bool false, .slice none 0 0] 29 (0, 0)) u11_32 hb); have n2_ := am (below_step u11_17 hb); have n3_ := am (hbox); have n4_ := am ((by rw [hg]; exact (below_size u11_17) : w.heap.size ≤ gb261)); have n5_ := am ((by rw [hg]; exact (below_size u11_17) : w.heap.size ≤ gb261)); have n6_ := am ((by rw [hg]; exact Nat.ne_of_lt (blk_lt (g := gb259) (o := .cells #[.int .i64 a0_0, .int .i64 a0_1, .int .i64 a0_2, .int .i64 a0_3, .int .i64 a0_4, .int .i64 a0_5, .int .i64 a0_6, .bool a0_7, .slice A0_8 l0_8.length c0_8] 24 (0, 0)) u11_10) : gb259 ≠ gb261)); have n7_ := am ((by rw [hg]; exact Nat.ne_of_gt (blk_lt (g := gb259) (o := .cells #[.int .i64 a0_0, .int .i64 a0_1, .int .i64 a0_2, .int .i64 a0_3, .int .i64 a0_4, .int .i64 a0_5, .int .i64 a0_6, .bool a0_7, .slice A0_8 l0_8.length c0_8] 24 (0, 0)) u11_10) : gb261 ≠ gb259)); have n8_ := am ((by rw [hg]; exact Nat.ne_of_lt (blk_lt (g := gb260) (o := .cells #[.int .i64 0, .int .i64 0, .int .i64 0, .int .i64 0, .int .i64 0, .int .i64 0, .int .i64 0, .bool false, .slice none 0 0] 29 (0, 0)) u11_32) : gb260 ≠ gb261)); have n9_ := am ((by rw [hg]; exact Nat.ne_of_gt (blk_lt (g := gb260) (o := .cells #[.int .i64 0, .int .i64 0, .int .i64 0, .int .i64 0, .int .i64 0, .int .i64 0, .int .i64 0, .bool false, .slice none 0 0] 29 (0, 0)) u11_32) : gb261 ≠ gb260)); clear BK259; clear BK260; clear HB; have BK259 := n0_; have BK260 := n1_; have HB := n2_; have BK261 := n3_; have GW261 := n4_; have GE261 := n5_; have NB259_261 := n6_; have NB261_259 := n7_; have NB260_261 := n8_; have NB261_260 := n9_; clear n0_ n1_ n2_ n3_ n4_ n5_ n6_ n7_ n8_ n9_; clear hb hbox hg; have hnb6 := NB259_260.out; have hnc6 := NB260_259.out; have hnb7 := NB259_261.out; have hnc7 := NB261_259.out; have hcz8_0 : w5.cell? ⟨gb259, 0, none⟩ = some (.int .i64 a0_0) := (blk_cell BK259.out 0).trans rfl; have hcz8_1 : w5.cell? ⟨gb259, 1, none⟩ = some (.int .i64 a0_1) := (blk_cell BK259.out 1).trans rfl; have hcz8_2 : w5.cell? ⟨gb259, 2, none⟩ = some (.int .i64 a0_2) := (blk_cell BK259.out 2).trans rfl; have hcz8_3 : w5.cell? ⟨gb259, 3, none⟩ = some (.int .i64 a0_3) := (blk_cell BK259.out 3).trans rfl; have hcz8_4 : w5.cell? ⟨gb259, 4, none⟩ = some (.int .i64 a0_4) := (blk_cell BK259.out 4).trans rfl; have hcz8_5 : w5.cell? ⟨gb259, 5, none⟩ = some (.int .i64 a0_5) := (blk_cell BK259.out 5).trans rfl; have hcz8_6 : w5.cell? ⟨gb259, 6, none⟩ = some (.int .i64 a0_6) := (blk_cell BK259.out 6).trans rfl; have hcz8_7 : w5.cell? ⟨gb259, 7, none⟩ = some (.bool a0_7) := (blk_cell BK259.out 7).trans rfl; have hcz8_8 : w5.cell? ⟨gb259, 8, none⟩ = some (.slice A0_8 l0_8.length c0_8) := (blk_cell BK259.out 8).trans rfl; have hfz8_0 := blk_frozen BK259.out 0; have hfz8_1 := blk_frozen BK259.out 1; have hfz8_2 := blk_frozen BK259.out 2; have hfz8_3 := blk_frozen BK259.out 3; have hfz8_4 := blk_frozen BK259.out 4; have hfz8_5 := blk_frozen BK259.out 5; have hfz8_6 := blk_frozen BK259.out 6; have hfz8_7 := blk_frozen BK259.out 7; have hfz8_8 := blk_frozen BK259.out 8; have hnb9 := NB261_260.out; have hnc9 := NB260_261.out; have hcz10_0 : w5.cell? ⟨gb261, 0, none⟩ = some (.int .i64 0) := (blk_cell BK261.out 0).trans rfl; have hcz10_1 : w5.cell? ⟨gb261, 1, none⟩ = some (.int .i64 0) := (blk_cell BK261.out 1).trans rfl; have hcz10_2 : w5.cell? ⟨gb261, 2, none⟩ = some (.int .i64 0) := (blk_cell BK261.out 2).trans rfl; have hcz10_3 : w5.cell? ⟨gb261, 3, none⟩ = some (.int .i64 0) := (blk_cell BK261.out 3).trans rfl; have hcz10_4 : w5.cell? ⟨gb261, 4, none⟩ = some (.int .i64 0) := (blk_cell BK261.out 4).trans rfl; have hcz10_5 : w5.cell? ⟨gb261, 5, none⟩ = some (.int .i64 0) := (blk_cell BK261.out 5).trans rfl; have hcz10_6 : w5.cell? ⟨gb261, 6, none⟩ = some (.int .i64 0) := (blk_cell BK261.out 6).trans rfl; have hcz10_7 : w5.cell? ⟨gb261, 7, none⟩ = some (.bool false) := (blk_cell BK261.out 7).trans rfl; have hcz10_8 : w5.cell? ⟨gb261, 8, none⟩ = some (.slice none 0 0) := (blk_cell BK261.out 8).trans rfl; have hfz10_0 := blk_frozen BK261.out 0; have hfz10_1 := blk_frozen BK261.out 1; have hfz10_2 := blk_frozen BK261.out 2; have hfz10_3 := blk_frozen BK261.out 3; have hfz10_4 := blk_frozen BK261.out 4; have hfz10_5 := blk_frozen BK261.out 5; have hfz10_6 := blk_frozen BK261.out 6; have hfz10_7 := blk_frozen BK261.out 7; have hfz10_8 := blk_frozen BK261.out 8) | ((with_reducible refine gate_callee (f := 65) rfl ?_); refine goesL_ (some 30) rfl rfl Try.func65 kr rfl #[.slice A0_8 l0_8.length c0_8] rfl u11_4 ?_; (with_reducible refine (laws_toEntryS.calls k _ _ l0_8 t262 _ ?side1 ?side2 A2.out).mono ?_); (case side1 => exact (by exact Kd.C_below HR0_8.out u11_6)); (case side2 => exact HC0_8.out); rintro e w11 ⟨v263, rfl, ho0, hb⟩; refine ⟨_, rfl, ?_⟩; have n0_ := am (Kd.R_lower ho0 (below_size u11_6)); have n1_ := am (blk_below (g := gb259) (o := .cells #[.int .i64 a0_0, .int .i64 a0_1, .int .i64 a0_2, .int .i64 a0_3, .int .i64 a0_4, .int .i64 a0_5, .int .i64 a0_6, .bool a0_7, .slice A0_8 l0_8.length c0_8] 24 (0, 0)) (by (with_reducible repeat (first | refine blk_drewN ?_ _ | refine blk_drew ?_ | refine blk_alloc ?_ _)); refine blk_far ?_ NB259_261.out _; (with_reducible repeat (first | refine blk_drewN ?_ _ | refine blk_drew ?_ | refine blk_alloc ?_ _)); refine blk_far ?_ NB259_261.out _; (with_reducible repeat (first | refine blk_drewN ?_ _ | refine blk_drew ?_ | refine blk_alloc ?_ _)); refine blk_far ?_ NB259_261.out _; (with_reducible repeat (first | refine blk_drewN ?_ _ | refine blk_drew ?_ | refine blk_alloc ?_ _)); refine blk_far ?_ NB259_261.out _; (with_reducible repeat (first | refine blk_drewN ?_ _ | refine blk_drew ?_ | refine blk_alloc ?_ _)); refine blk_far ?_ NB259_261.out _; (with_reducible repeat (first | refine blk_drewN ?_ _ | refine blk_drew ?_ | refine blk_alloc ?_ _)); refine blk_far ?_ NB259_261.out _; (with_reducible repeat (first | refine blk_drewN ?_ _ | refine blk_drew ?_ | refine blk_alloc ?_ _)); refine blk_far ?_ NB259_261.out _; (with_reducible repeat (first | refine blk_drewN ?_ _ | refine blk_drew ?_ | refine blk_alloc ?_ _)); refine blk_far ?_ NB259_261.out _; (with_reducible repeat (first | refine blk_drewN ?_ _ | refine blk_drew ?_ | refine blk_alloc ?_ _)); exact BK259.out) hb); have n2_ := am (blk_below (g := gb260) (o := .cells #[.int .i64 0, .int .i64 0, .int .i64 0, .int .i64 0, .int .i64 0, .int .i64 0, .int .i64 0, .bool false, .slice none 0 0] 29 (0, 0)) (by (with_reducible repeat (first | refine blk_drewN ?_ _ | refine blk_drew ?_ | refine blk_alloc ?_ _)); refine blk_far ?_ NB260_261.out _; (with_reducible repeat (first | refine blk_drewN ?_ _ | refine blk_drew ?_ | refine blk_alloc ?_ _)); refine blk_far ?_ NB260_261.out _; (with_reducible repeat (first | refine blk_drewN ?_ _ | refine blk_drew ?_ | refine blk_alloc ?_ _)); refine blk_far ?_ NB260_261.out _; (with_reducible repeat (first | refine blk_drewN ?_ _ | refine blk_drew ?_ | refine blk_alloc ?_ _)); refine blk_far ?_ NB260_261.out _; (with_reducible repeat (first | refine blk_drewN ?_ _ | refine blk_drew ?_ | refine blk_alloc ?_ _)); refine blk_far ?_ NB260_261.out _; (with_reducible repeat (first | refine blk_drewN ?_ _ | refine blk_drew ?_ | refine blk_alloc ?_ _)); refine blk_far ?_ NB260_261.out _; (with_reducible repeat (first | refine blk_drewN ?_ _ | refine blk_drew ?_ | refine blk_alloc ?_ _)); refine blk_far ?_ NB260_261.out _; (with_reducible repeat (first | refine blk_drewN ?_ _ | refine blk_drew ?_ | refine blk_alloc ?_ _)); refine blk_far ?_ NB260_261.out _; (with_reducible repeat (first | refine blk_drewN ?_ _ | refine blk_drew ?_ | refine blk_alloc ?_ _)); exact BK260.out) hb); have n3_ := am (blk_below (g := gb261) (o := .cells #[.int .i64 a0_0, .int .i64 a0_1, .int .i64 a0_2, .int .i64 a0_3, .int .i64 a0_4, .int .i64 a0_5, .int .i64 a0_6, .bool a0_7, .slice none 0 0] 29 (0, 0)) (by (with_reducible repeat (first | refine blk_drewN ?_ _ | refine blk_drew ?_ | refine blk_alloc ?_ _)); refine blk_put (cs := #[.int .i64 a0_0, .int .i64 a0_1, .int .i64 a0_2, .int .i64 a0_3, .int .i64 a0_4, .int .i64 a0_5, .int .i64 a0_6, .bool false, .slice none 0 0]) ?_ 7 _ rfl; (with_reducible repeat (first | refine blk_drewN ?_ _ | refine blk_drew ?_ | refine blk_alloc ?_ _)); refine blk_put (cs := #[.int .i64 a0_0, .int .i64 a0_1, .int .i64 a0_2, .int .i64 a0_3, .int .i64 a0_4, .int .i64 a0_5, .int .i64 0, .bool false, .slice none 0 0]) ?_ 6 _ rfl; (with_reducible repeat (first | refine blk_drewN ?_ _ | refine blk_drew ?_ | refine blk_alloc ?_ _)); refine blk_put (cs := #[.int .i64 a0_0, .int .i64 a0_1, .int .i64 a0_2, .int .i64 a0_3, .int .i64 a0_4, .int .i64 0, .int .i64 0, .bool false, .slice none 0 0]) ?_ 5 _ rfl; (with_reducible repeat (first | refine blk_drewN ?_ _ | refine blk_drew ?_ | refine blk_alloc ?_ _)); refine blk_put (cs := #[.int .i64 a0_0, .int .i64 a0_1, .int .i64 a0_2, .int .i64 a0_3, .int .i64 0, .int .i64 0, .int .i64 0, .bool false, .slice none 0 0]) ?_ 4 _ rfl; (with_reducible repeat (first | refine blk_drewN ?_ _ | refine blk_drew ?_ | refine blk_alloc ?_ _)); refine blk_put (cs := #[.int .i64 a0_0, .int .i64 a0_1, .int .i64 a0_2, .int .i64 0, .int .i64 0, .int .i64 0, .int .i64 0, .bool false, .slice none 0 0]) ?_ 3 _ rfl; (with_reducible repeat (first | refine blk_drewN ?_ _ | refine blk_drew ?_ | refine blk_alloc ?_ _)); refine blk_put (cs := #[.int .i64 a0_0, .int .i64 a0_1, .int .i64 0, .int .i64 0, .int .i64 0, .int .i64 0, .int .i64 0, .bool false, .slice none 0 0]) ?_ 2 _ rfl; (with_reducible repeat (first | refine blk_drewN ?_ _ | refine blk_drew ?_ | refine blk_alloc ?_ _)); refine blk_put (cs := #[.int .i64 a0_0, .int .i64 0, .int .i64 0, .int .i64 0, .int .i64 0, .int .i64 0, .int .i64 0, .bool false, .slice none 0 0]) ?_ 1 _ rfl; (with_reducible repeat (first | refine blk_drewN ?_ _ | refine blk_drew ?_ | refine blk_alloc ?_ _)); refine blk_put (cs := #[.int .i64 0, .int .i64 0, .int .i64 0, .int .i64 0, .int .i64 0, .int .i64 0, .int .i64 0, .bool false, .slice none 0 0]) ?_ 0 _ rfl; (with_reducible repeat (first | refine blk_drewN ?_ _ | refine blk_drew ?_ | refine blk_alloc ?_ _)); exact BK261.out) hb); have n4_ := am (below_step u11_6 hb); clear BK259; clear BK260; clear BK261; clear HB; have HO264 := n0_; have BK259 := n1_; have BK260 := n2_; have BK261 := n3_; have HB := n4_; clear n0_ n1_ n2_ n3_ n4_; (try clear hb); (try clear hb2); (try clear hk); (try clear hi); (try clear ho0); obtain ⟨Ao12, co12, eo12⟩ := Kd.R_slice HO264.out; subst eo12; have hcz13_0 : w11.cell? ⟨gb261, 0, none⟩ = some (.int .i64 a0_0) := (blk_cell BK261.out 0).trans rfl; have hcz13_1 : w11.cell? ⟨gb261, 1, none⟩ = some (.int .i64 a0_1) := (blk_cell BK261.out 1).trans rfl; have hcz13_2 : w11.cell? ⟨gb261, 2, none⟩ = some (.int .i64 a0_2) := (blk_cell BK261.out 2).trans rfl; have hcz13_3 : w11.cell? ⟨gb261, 3, none⟩ = some (.int .i64 a0_3) := (blk_cell BK261.out 3).trans rfl; have hcz13_4 : w11.cell? ⟨gb261, 4, none⟩ = some (.int .i64 a0_4) := (blk_cell BK261.out 4).trans rfl; have hcz13_5 : w11.cell? ⟨gb261, 5, none⟩ = some (.int .i64 a0_5) := (blk_cell BK261.out 5).trans rfl; have hcz13_6 : w11.cell? ⟨gb261, 6, none⟩ = some (.int .i64 a0_6) := (blk_cell BK261.out 6).trans rfl; have hcz13_7 : w11.cell? ⟨gb261, 7, none⟩ = some (.bool a0_7) := (blk_cell BK261.out 7).trans rfl; have hcz13_8 : w11.cell? ⟨gb261, 8, none⟩ = some (.slice none 0 0) := (blk_cell BK261.out 8).trans rfl; have hfz13_0 := blk_frozen BK261.out 0; have hfz13_1 := blk_frozen BK261.out 1; have hfz13_2 := blk_frozen BK261.out 2; have hfz13_3 := blk_frozen BK261.out 3; have hfz13_4 := blk_frozen BK261.out 4; have hfz13_5 := blk_frozen BK261.out 5; have hfz13_6 := blk_frozen BK261.out 6; have hfz13_7 := blk_frozen BK261.out 7; have hfz13_8 := blk_frozen BK261.out 8; have hcz14_0 : w11.cell? ⟨gb260, 0, none⟩ = some (.int .i64 0) := (blk_cell BK260.out 0).trans rfl; have hcz14_1 : w11.cell? ⟨gb260, 1, none⟩ = some (.int .i64 0) := (blk_cell BK260.out 1).trans rfl; have hcz14_2 : w11.cell? ⟨gb260, 2, none⟩ = some (.int .i64 0) := (blk_cell BK260.out 2).trans rfl; have hcz14_3 : w11.cell? ⟨gb260, 3, none⟩ = some (.int .i64 0) := (blk_cell BK260.out 3).trans rfl; have hcz14_4 : w11.cell? ⟨gb260, 4, none⟩ = some (.int .i64 0) := (blk_cell BK260.out 4).trans rfl; have hcz14_5 : w11.cell? ⟨gb260, 5, none⟩ = some (.int .i64 0) := (blk_cell BK260.out 5).trans rfl; have hcz14_6 : w11.cell? ⟨gb260, 6, none⟩ = some (.int .i64 0) := (blk_cell BK260.out 6).trans rfl; have hcz14_7 : w11.cell? ⟨gb260, 7, none⟩ = some (.bool false) := (blk_cell BK260.out 7).trans rfl; have hcz14_8 : w11.cell? ⟨gb260, 8, none⟩ = some (.slice none 0 0) := (blk_cell BK260.out 8).trans rfl; have hfz14_0 := blk_frozen BK260.out 0; have hfz14_1 := blk_frozen BK260.out 1; have hfz14_2 := blk_frozen BK260.out 2; have hfz14_3 := blk_frozen BK260.out 3; have hfz14_4 := blk_frozen BK260.out 4; have hfz14_5 := blk_frozen BK260.out 5; have hfz14_6 := blk_frozen BK260.out 6; have hfz14_7 := blk_frozen BK260.out 7; have hfz14_8 := blk_frozen BK260.out 8))
 refine bodyPost_ret (results_cell_row rfl _ _ gb260 29 #[.int .i64 a0_0, .int .i64 a0_1, .int .i64 a0_2, .int .i64 a0_3, .int .i64 a0_4, .int .i64 a0_5, .int .i64 a0_6, .bool a0_7, .slice Ao12 t262.length co12] (0, 0) _ rfl (by (with_reducible repeat (first | refine blk_drewN ?_ _ | refine blk_drew ?_ | refine blk_alloc ?_ _)); refine blk_put (cs := #[.int .i64 a0_0, .int .i64 a0_1, .int .i64 a0_2, .int .i64 a0_3, .int .i64 a0_4, .int .i64 a0_5, .int .i64 a0_6, .bool a0_7, .slice none 0 0]) ?_ 8 _ rfl; (with_reducible repeat (first | refine blk_drewN ?_ _ | refine blk_drew ?_ | refine blk_alloc ?_ _)); refine blk_put (cs := #[.int .i64 a0_0, .int .i64 a0_1, .int .i64 a0_2, .int .i64 a0_3, .int .i64 a0_4, .int .i64 a0_5, .int .i64 a0_6, .bool false, .slice none 0 0]) ?_ 7 _ rfl; (with_reducible repeat (first | refine blk_drewN ?_ _ | refine blk_drew ?_ | refine blk_alloc ?_ _)); refine blk_put (cs := #[.int .i64 a0_0, .int .i64 a0_1, .int .i64 a0_2, .int .i64 a0_3, .int .i64 a0_4, .int .i64 a0_5, .int .i64 0, .bool false, .slice none 0 0]) ?_ 6 _ rfl; (with_reducible repeat (first | refine blk_drewN ?_ _ | refine blk_drew ?_ | refine blk_alloc ?_ _)); refine blk_put (cs := #[.int .i64 a0_0, .int .i64 a0_1, .int .i64 a0_2, .int .i64 a0_3, .int .i64 a0_4, .int .i64 0, .int .i64 0, .bool false, .slice none 0 0]) ?_ 5 _ rfl; (with_reducible repeat (first | refine blk_drewN ?_ _ | refine blk_drew ?_ | refine blk_alloc ?_ _)); refine blk_put (cs := #[.int .i64 a0_0, .int .i64 a0_1, .int .i64 a0_2, .int .i64 a0_3, .int .i64 0, .int .i64 0, .int .i64 0, .bool false, .slice none 0 0]) ?_ 4 _ rfl; (with_reducible repeat (first | refine blk_drewN ?_ _ | refine blk_drew ?_ | refine blk_alloc ?_ _)); refine blk_put (cs := #[.int .i64 a0_0, .int .i64 a0_1, .int .i64 a0_2, .int .i64 0, .int .i64 0, .int .i64 0, .int .i64 0, .bool false, .slice none 0 0]) ?_ 3 _ rfl; (with_reducible repeat (first | refine blk_drewN ?_ _ | refine blk_drew ?_ | refine blk_alloc ?_ _)); refine blk_put (cs := #[.int .i64 a0_0, .int .i64 a0_1, .int .i64 0, .int .i64 0, .int .i64 0, .int .i64 0, .int .i64 0, .bool false, .slice none 0 0]) ?_ 2 _ rfl; (with_reducible repeat (first | refine blk_drewN ?_ _ | refine blk_drew ?_ | refine blk_alloc ?_ _)); refine blk_put (cs := #[.int .i64 a0_0, .int .i64 0, .int .i64 0, .int .i64 0, .int .i64 0, .int .i64 0, .int .i64 0, .bool false, .slice none 0 0]) ?_ 1 _ rfl; (with_reducible repeat (first | refine blk_drewN ?_ _ | refine blk_drew ?_ | refine blk_alloc ?_ _)); refine blk_put (cs := #[.int .i64 0, .int .i64 0, .int .i64 0, .int .i64 0, .int .i64 0, .int .i64 0, .int .i64 0, .bool false, .slice none 0 0]) ?_ 0 _ rfl; (with_reducible repeat (first | refine blk_drewN ?_ _ | refine blk_drew ?_ | refine blk_alloc ?_ _)); refine blk_far ?_ NB260_261.out _; (with_reducible repeat (first | refine blk_drewN ?_ _ | refine blk_drew ?_ | refine blk_alloc ?_ _)); exact BK260.out) Try.underlying29 rfl kr) rfl ?_
 exact ⟨_, by first | rfl | (simp [errW_none, errW_some] <;> rfl) | (simp [*, errW_none, errW_some] <;> rfl), (by (with_reducible repeat (first | apply Kd.R_alloc | apply Kd.R_drewN | apply Kd.R_drew)); exact Kd.R_mono (Kd.R_far (p := ⟨gb260, 8, none⟩) (Kd.R_far (p := ⟨gb260, 7, none⟩) (Kd.R_far (p := ⟨gb260, 6, none⟩) (Kd.R_far (p := ⟨gb260, 5, none⟩) (Kd.R_far (p := ⟨gb260, 4, none⟩) (Kd.R_far (p := ⟨gb260, 3, none⟩) (Kd.R_far (p := ⟨gb260, 2, none⟩) (Kd.R_far (p := ⟨gb260, 1, none⟩) (Kd.R_far (p := ⟨gb260, 0, none⟩) (Kd.R_far (p := ⟨gb261, 8, none⟩) (Kd.R_types (Kd.R_types HO264.out BK261.out (by decide)) BK260.out (by decide)) (fun _ hk => hk.1.2) (.slice Ao12 t262.length co12)) (fun _ hk => hk.2) (.int .i64 a0_0)) (fun _ hk => hk.2) (.int .i64 a0_1)) (fun _ hk => hk.2) (.int .i64 a0_2)) (fun _ hk => hk.2) (.int .i64 a0_3)) (fun _ hk => hk.2) (.int .i64 a0_4)) (fun _ hk => hk.2) (.int .i64 a0_5)) (fun _ hk => hk.2) (.int .i64 a0_6)) (fun _ hk => hk.2) (.bool a0_7)) (fun _ hk => hk.2) (.slice Ao12 t262.length co12)) (fun _ hk => trivial)), u11_6⟩

/-! ### laws_toMsgS: function 97 -/
def laws_toMsgS.l0 : Nat → List (S24) → List (S29) → Int → Option ((List (S29)))
 | 0, _, _, _ => none
 | k + 1, x0, x3, x4 => if x4 < (x0.length : Int) then (if 0 ≤ x4 then ((laws_toMsg.f k ((rd_T24 x0 x4).f0) ((rd_T24 x0 x4).f1) ((rd_T24 x0 x4).f2) ((rd_T24 x0 x4).f3) ((rd_T24 x0 x4).f4) ((rd_T24 x0 x4).f5) ((rd_T24 x0 x4).f6) ((rd_T24 x0 x4).f7) ((rd_T24 x0 x4).f8)).bind fun bt269 => (if x4 < (x3.length : Int) then (laws_toMsgS.l0 k x0 (x3.set (x4 : Int).toNat (⟨bt269.1, bt269.2.1, bt269.2.2.1, bt269.2.2.2.1, bt269.2.2.2.2.1, bt269.2.2.2.2.2.1, bt269.2.2.2.2.2.2.1, bt269.2.2.2.2.2.2.2.1, bt269.2.2.2.2.2.2.2.2⟩ : S29)) (wrap64 (x4 + 1))) else (none))) else (none)) else (some x3)
def laws_toMsgS.f (k : Nat) (l0 : List (S24)) : Option ((List (S29))) := if 0 ≤ (l0.length : Int) then (if ((l0.length : Int) : Int).toNat ≤ 3198579280802 then (laws_toMsgS.l0 k l0 (List.replicate ((l0.length : Int) : Int).toNat z29) 0) else (none)) else (none)
theorem laws_toMsgS.mono_l : ∀ k, (∀ y0 y1 y2, LeO (laws_toMsgS.l0 k y0 y1 y2) (laws_toMsgS.l0 (k + 1) y0 y1 y2))
 | 0 => fun _ _ _ r h => by simp [laws_toMsgS.l0] at h
 | k + 1 => by
   have ih0 := laws_toMsgS.mono_l k
   · intro y0 y1 y2
     unfold laws_toMsgS.l0
     repeat' first
     | (with_reducible exact ih0 _ _ _)
     | (with_reducible exact laws_toMsg.mono _ _ _ _ _ _ _ _ _ _)
     | (with_reducible exact LeO.refl _)
     | (with_reducible exact LeO.none _)
     | (with_reducible refine LeO.ite ?_ ?_)
     | (with_reducible refine LeO.bind ?_ (fun _ => ?_))
     | exact ih0 _ _ _
     | exact laws_toMsg.mono _ _ _ _ _ _ _ _ _ _
     | exact LeO.none _
     | refine LeO.ite ?_ ?_
     | refine LeO.bind ?_ (fun _ => ?_)
theorem laws_toMsgS.mono : ∀ a0 k, LeO (laws_toMsgS.f k a0) (laws_toMsgS.f (k + 1) a0) := by
 intro a0 k
 have ih0 := laws_toMsgS.mono_l k
 unfold laws_toMsgS.f
 repeat' first
     | (with_reducible exact ih0 _ _ _)
     | (with_reducible exact laws_toMsg.mono _ _ _ _ _ _ _ _ _ _)
     | (with_reducible exact LeO.refl _)
     | (with_reducible exact LeO.none _)
     | (with_reducible refine LeO.ite ?_ ?_)
     | (with_reducible refine LeO.bind ?_ (fun _ => ?_))
     | exact ih0 _ _ _
     | exact laws_toMsg.mono _ _ _ _ _ _ _ _ _ _
     | exact LeO.none _
     | refine LeO.ite ?_ ?_
     | refine LeO.bind ?_ (fun _ => ?_)
set_option maxHeartbeats 8000000 in
set_option maxRecDepth 100000 in
theorem laws_toMsgS.calls (k : Nat) (A0 : Option Addr) (c0 : Nat) (l0 : List (S24)) (r : List (S29)) (w : World) (hr0 : Kd.C k24 w A0 l0.length l0) (hc0 : l0.length ≤ c0) (h : laws_toMsgS.f k l0 = some r) :
   Calls Try.prog 97 #[.slice A0 l0.length c0] w fun e w' => ∃ v0_ : Value, e = .returned (v0_) ∧ Kd.S k29 29 w' w.heap.size (fun _ => True) v0_ r ∧ Below w.heap.size w w' := by
 have hu24 := Try.underlying24
 have hu29 := Try.underlying29
 have HR0 := am hr0
 have HC0 := am hc0
 clear hr0 hc0
 have HB := am (Below.refl w.heap.size w)
 have H : (if 0 ≤ (l0.length : Int) then (if ((l0.length : Int) : Int).toNat ≤ 3198579280802 then (laws_toMsgS.l0 k l0 (List.replicate ((l0.length : Int) : Int).toNat z29) 0) else (none)) else (none)) = some r := h
 clear h
 by_cases c2 : 0 ≤ (l0.length : Int)
 rotate_left
 · rw [if_neg c2] at H
   exact absurd H (by simp)
 rw [if_pos c2] at H
 have c2b0 := eq_true c2
 have c2b1 : decide (0 ≤ (l0.length : Int)) = true := decide_eq_true c2
 clear c2
 by_cases c3 : ((l0.length : Int) : Int).toNat ≤ 3198579280802
 rotate_left
 · rw [if_neg c3] at H
   exact absurd H (by simp)
 rw [if_pos c3] at H
 have c3b0 := eq_true c3
 have c3b1 : decide (((l0.length : Int) : Int).toNat ≤ 3198579280802) = true := decide_eq_true c3
 clear c3
 obtain ⟨y265, hy265⟩ : ∃ y_ : List (S29), y_ = (List.replicate ((l0.length : Int) : Int).toNat z29) := ⟨_, rfl⟩
 replace H : (laws_toMsgS.l0 k l0 y265 0) = some r := by first | (rw [hy265]; with_reducible exact H) | (have H2_ := (Option.bind_some _ _).symm.trans H; rw [hy265]; with_reducible exact H2_) | (have H2_ := (Option.bind_some _ _).symm.trans H; with_reducible exact H2_) | with_reducible exact H | (rw [hy265]; exact H) | exact H
 have Ny265 := am hy265
 clear hy265
 have H' := am H
 clear H
 go_enter Try.func97, Try.ntmps97
 go_wp2_with (first | ((with_reducible refine gate_dst (N := 7) rfl ?_); refine Kd.S_make k29 _ 29 rfl (N := 7) rfl 51 _ _ rfl (l0.length : Int) rfl rfl Try.underlying51 (.agg #[(.int .i64 0), (.int .i64 0), (.int .i64 0), (.int .i64 0), (.int .i64 0), (.int .i64 0), (.int .i64 0), (.bool false), (.slice none 0 0)]) 88 info29 rfl (by decide) (by omega) z29 (ok := fun _ => True) (okp := fun _ => True) (k29_mkM _ _ _ z29 (Kd.R_nil _ _ _ _ _)) (fun _ hk => hk) trivial (of_decide_eq_true u11_2) (Nat.le_trans (Nat.mul_le_mul_right _ (of_decide_eq_true u11_2 : (l0.length : Int).toNat ≤ 3198579280802)) (by omega)) (Below.refl _ _) (Nat.le_refl _) ?_; intro v266 w4 ho5 hb hg_ hnew_; clear hg_ hnew_; (first | rw [← Ny265.out] at ho5 | (simp only [Int.reduceToNat] at ho5; rw [← Ny265.out] at ho5)); have n0_ := am (Kd.S_lower ho5 (below_size u11_0)); have n1_ := am (below_step u11_0 hb); clear HB; have HO267 := n0_; have HB := n1_; clear n0_ n1_; clear hb ho5))
 go_loopg [4] k (fun kq v4 w' => ∃ (x3_1 : List (S29)) (x4_1 : Int), v4 = .int .i64 x4_1 ∧ Aside0 (laws_toMsgS.l0 kq l0 x3_1 x4_1 = some r) ∧ Aside0 (kq ≤ k) ∧ Aside0 (Kd.S k29 29 w' w.heap.size (fun _ => True) v266 x3_1) ∧ Aside0 (Below w.heap.size w w'))
 case atStart => exact ⟨(y265), (0), u11_25, H', ⟨Nat.le_refl _⟩, ⟨(by (with_reducible repeat (first | apply Kd.S_alloc | apply Kd.S_drewN | apply Kd.S_drew)); exact HO267.out)⟩, ⟨u11_0⟩⟩
 clear H'
 try clear c2
 try clear c2b0
 try clear c2b1
 try clear p2
 try clear c3
 try clear c3b0
 try clear c3b1
 obtain ⟨x3_1, x4_1, rfl, HA, HK1, HO_3, HB⟩ := hrel
 cases gk with
 | zero => exact absurd HA.out (by simp [laws_toMsgS.l0])
 | succ k1 =>
   have H := HA.out
   clear HA
   simp only [laws_toMsgS.l0] at H
   by_cases c6 : x4_1 < (l0.length : Int)
   rotate_left
   · rw [if_neg c6] at H
     have c6b0 : decide (x4_1 < (l0.length : Int)) = false := decide_eq_false c6
     clear c6
     obtain rfl := Option.some.inj H
     go_wp2
     go_ret
     exact ⟨_, by first | rfl | (simp [errW_none, errW_some] <;> rfl) | (simp [*, errW_none, errW_some] <;> rfl), u11_13, u11_0⟩
   rw [if_pos c6] at H
   have c6b0 : decide (x4_1 < (l0.length : Int)) = true := decide_eq_true c6
   clear c6
   by_cases c7 : 0 ≤ x4_1
   rotate_left
   · rw [if_neg c7] at H
     exact absurd H (by simp)
   rw [if_pos c7] at H
   have c7b0 : decide (0 ≤ x4_1) = true := decide_eq_true c7
   clear c7
   replace H := Option.bind_eq_some_iff.mp H
   obtain ⟨⟨t269, t270, t271, t272, t273, t274, t275, t276, t277⟩, A80, H⟩ := H
   (try dsimp only at H)
   have A8 := am A80
   clear A80
   by_cases c9 : x4_1 < (x3_1.length : Int)
   rotate_left
   · rw [if_neg c9] at H
     exact absurd H (by simp)
   rw [if_pos c9] at H
   have c9b0 : decide (x4_1 < (x3_1.length : Int)) = true := decide_eq_true c9
   clear c9
   obtain ⟨y280, hy280⟩ : ∃ y_ : List (S29), y_ = (x3_1.set (x4_1 : Int).toNat (⟨t269, t270, t271, t272, t273, t274, t275, t276, t277⟩ : S29)) := ⟨_, rfl⟩
   replace H : (laws_toMsgS.l0 k1 l0 y280 (wrap64 (x4_1 + 1))) = some r := by first | (rw [hy280]; with_reducible exact H) | (have H2_ := (Option.bind_some _ _).symm.trans H; rw [hy280]; with_reducible exact H2_) | (have H2_ := (Option.bind_some _ _).symm.trans H; with_reducible exact H2_) | with_reducible exact H | (rw [hy280]; exact H) | exact H
   have Ny280 := am hy280
   clear hy280
   have H' := am H
   clear H
   have p268 : 0 ≤ (x4_1 : Int) := of_decide_eq_true u11_2
   have q268 : x4_1 < (l0.length : Int) := of_decide_eq_true u11_2
   obtain ⟨ad268, A268_8, c268_8, e268, hx268_0, hx268_1, hx268_2, hx268_3, hx268_4, hx268_5, hx268_6, hx268_7, hx268_8, hl268_8, hi268_8⟩ := at_T24 HR0.out x4_1 p268 q268
   cases e268
   replace hx268_0 := (HB.out.cell (World.block_lt_of_cell? w _ hx268_0)).trans hx268_0
   replace hx268_1 := (HB.out.cell (World.block_lt_of_cell? w _ hx268_1)).trans hx268_1
   replace hx268_2 := (HB.out.cell (World.block_lt_of_cell? w _ hx268_2)).trans hx268_2
   replace hx268_3 := (HB.out.cell (World.block_lt_of_cell? w _ hx268_3)).trans hx268_3
   replace hx268_4 := (HB.out.cell (World.block_lt_of_cell? w _ hx268_4)).trans hx268_4
   replace hx268_5 := (HB.out.cell (World.block_lt_of_cell? w _ hx268_5)).trans hx268_5
   replace hx268_6 := (HB.out.cell (World.block_lt_of_cell? w _ hx268_6)).trans hx268_6
   replace hx268_7 := (HB.out.cell (World.block_lt_of_cell? w _ hx268_7)).trans hx268_7
   replace hx268_8 := (HB.out.cell (World.block_lt_of_cell? w _ hx268_8)).trans hx268_8
   have HR268_8 := am hi268_8
   have HC268_8 := am hl268_8
   clear hi268_8 hl268_8
   replace p268 := eq_true p268
   replace q268 := eq_true q268
   go_wp2_with (first | ((with_reducible refine gate_callee (f := 17) rfl ?_); refine goesL_ (some 20) rfl rfl Try.func17 kr rfl #[.agg #[.int .i64 ((rd_T24 l0 x4_1).f0), .int .i64 ((rd_T24 l0 x4_1).f1), .int .i64 ((rd_T24 l0 x4_1).f2), .int .i64 ((rd_T24 l0 x4_1).f3), .int .i64 ((rd_T24 l0 x4_1).f4), .int .i64 ((rd_T24 l0 x4_1).f5), .int .i64 ((rd_T24 l0 x4_1).f6), .bool ((rd_T24 l0 x4_1).f7), .slice A268_8 ((rd_T24 l0 x4_1).f8).length c268_8]] rfl u11_4 ?_; (with_reducible refine (laws_toMsg.calls k1 ((rd_T24 l0 x4_1).f0) ((rd_T24 l0 x4_1).f1) ((rd_T24 l0 x4_1).f2) ((rd_T24 l0 x4_1).f3) ((rd_T24 l0 x4_1).f4) ((rd_T24 l0 x4_1).f5) ((rd_T24 l0 x4_1).f6) ((rd_T24 l0 x4_1).f7) _ _ ((rd_T24 l0 x4_1).f8) t269 t270 t271 t272 t273 t274 t275 t276 t277 _ ?side1 ?side2 A8.out).mono ?_); (case side1 => exact (by repeat (first | exact (Kd.C_below HR268_8.out HB.out) | (with_reducible refine Kd.C_alloc ?_ _) | (with_reducible refine Kd.C_drewN ?_ _) | (with_reducible refine Kd.C_drew ?_)))); (case side2 => exact HC268_8.out); rintro e w11 ⟨v278, rfl, ho0, hb⟩; refine ⟨_, rfl, ?_⟩; have n0_ := am (Kd.S_elder' u11_13 (Kd.R_base ho0) hb); have n1_ := am (Kd.R_lower ho0 (below_size u11_0)); have n2_ := am (below_step u11_0 hb); clear HO_3; clear HB; have HO_3 := n0_; have HO279 := n1_; have HB := n2_; clear n0_ n1_ n2_; (try clear hb); (try clear hb2); (try clear hk); (try clear hi); (try clear ho0); have p10 : 0 ≤ (x4_1 : Int) := of_decide_eq_true u11_2; have q10 : (x4_1 : Int) < ((x3_1.length : Int) : Int) := of_decide_eq_true u11_2; obtain ⟨go10, co10, eo10, gb10, gl10, cl10, HG10⟩ := Kd.S_form HO_3.out (by omega); (first | cases eo10 | (injection eo10 with ea_ en_ ec_; (first | subst ea_ | (injection ea_ with ea_; subst ea_)); subst ec_; clear en_)); have GB10 := am gb10; have GG10 := am HG10; clear gb10 gl10 HG10; obtain ⟨_, ce10, hcl10, hM10, hcc10, hfr10, _, _⟩ := Kd.S_elem HO_3.out z29 (x4_1 : Int) p10 q10; obtain ⟨ve10_8, rfl, ge10_8⟩ := k29_openM hM10; have hx10_0 : w11.cell? ⟨go10, (x4_1 : Int).toNat * 9, none⟩ = some (.int .i64 ((rd_T29 x3_1 x4_1).f0)) := hcc10 0 _ rfl; have hx10_1 : w11.cell? ⟨go10, (x4_1 : Int).toNat * 9 + 1, none⟩ = some (.int .i64 ((rd_T29 x3_1 x4_1).f1)) := hcc10 1 _ rfl; have hx10_2 : w11.cell? ⟨go10, (x4_1 : Int).toNat * 9 + 2, none⟩ = some (.int .i64 ((rd_T29 x3_1 x4_1).f2)) := hcc10 2 _ rfl; have hx10_3 : w11.cell? ⟨go10, (x4_1 : Int).toNat * 9 + 3, none⟩ = some (.int .i64 ((rd_T29 x3_1 x4_1).f3)) := hcc10 3 _ rfl; have hx10_4 : w11.cell? ⟨go10, (x4_1 : Int).toNat * 9 + 4, none⟩ = some (.int .i64 ((rd_T29 x3_1 x4_1).f4)) := hcc10 4 _ rfl; have hx10_5 : w11.cell? ⟨go10, (x4_1 : Int).toNat * 9 + 5, none⟩ = some (.int .i64 ((rd_T29 x3_1 x4_1).f5)) := hcc10 5 _ rfl; have hx10_6 : w11.cell? ⟨go10, (x4_1 : Int).toNat * 9 + 6, none⟩ = some (.int .i64 ((rd_T29 x3_1 x4_1).f6)) := hcc10 6 _ rfl; have hx10_7 : w11.cell? ⟨go10, (x4_1 : Int).toNat * 9 + 7, none⟩ = some (.bool ((rd_T29 x3_1 x4_1).f7)) := hcc10 7 _ rfl; have hx10_8 : w11.cell? ⟨go10, (x4_1 : Int).toNat * 9 + 8, none⟩ = some (ve10_8) := hcc10 8 _ rfl; have hf10_0 : w11.frozen? ⟨go10, (x4_1 : Int).toNat * 9, none⟩ = false := hfr10 0; have hf10_1 : w11.frozen? ⟨go10, (x4_1 : Int).toNat * 9 + 1, none⟩ = false := hfr10 1; have hf10_2 : w11.frozen? ⟨go10, (x4_1 : Int).toNat * 9 + 2, none⟩ = false := hfr10 2; have hf10_3 : w11.frozen? ⟨go10, (x4_1 : Int).toNat * 9 + 3, none⟩ = false := hfr10 3; have hf10_4 : w11.frozen? ⟨go10, (x4_1 : Int).toNat * 9 + 4, none⟩ = false := hfr10 4; have hf10_5 : w11.frozen? ⟨go10, (x4_1 : Int).toNat * 9 + 5, none⟩ = false := hfr10 5; have hf10_6 : w11.frozen? ⟨go10, (x4_1 : Int).toNat * 9 + 6, none⟩ = false := hfr10 6; have hf10_7 : w11.frozen? ⟨go10, (x4_1 : Int).toNat * 9 + 7, none⟩ = false := hfr10 7; have hf10_8 : w11.frozen? ⟨go10, (x4_1 : Int).toNat * 9 + 8, none⟩ = false := hfr10 8; clear hcl10 hcc10 hfr10 hM10; replace p10 := eq_true p10; replace q10 := eq_true q10; obtain ⟨Ao12, co12, eo12⟩ := Kd.R_slice HO279.out; subst eo12; have n_ := am (Kd.S_mono (ok' := (fun k_ => some k_ ≠ (.slice Ao12 t277.length co12 : Value).ownBlock)) HO_3.out (fun k_ hk => hk.2)); clear HO_3; have HO_3 := n_; clear n_; have HX13 := am (show Kd.S k29 29 w11 w.heap.size (fun k_ => ((fun _ => True)) k_ ∧ ¬ ((fun k_ => some k_ = (.slice Ao12 t277.length co12 : Value).ownBlock)) k_) (.slice (some ⟨go10, 0, none⟩) x3_1.length co10) x3_1 from (by (with_reducible repeat (first | apply Kd.S_alloc | apply Kd.S_drewN | apply Kd.S_drew)); exact Kd.S_mono HO_3.out (fun k_ hk => ⟨trivial, fun e_ => hk e_⟩))); obtain ⟨oki13, ce13, hcl13, hM13, hcc13, hfr13, hoki13, hH13⟩ := Kd.S_elem HX13.out z29 (x4_1 : Int) (of_decide_eq_true u11_2) (by have h_ : (x4_1 : Int) < ((x3_1.length : Int) : Int) := of_decide_eq_true u11_2; first | exact h_ | (have e_ := (Kd.S_reads' HO_3.out).1; omega) | simpa using h_); obtain ⟨ve13_8, rfl, ge13_8⟩ := k29_openM hM13; have HP13 := Kd.S_seg hH13 (of_decide_eq_true u11_2) (by have h_ : (x4_1 : Int) < ((x3_1.length : Int) : Int) := of_decide_eq_true u11_2; first | exact h_ | (have e_ := (Kd.S_reads' HO_3.out).1; omega) | simpa using h_) (seg := [.int .i64 t269, .int .i64 t270, .int .i64 t271, .int .i64 t272, .int .i64 t273, .int .i64 t274, .int .i64 t275, .bool t276, .slice Ao12 t277.length co12]) (j := 0) (show 9 ≤ 9 from by decide) (x' := (⟨t269, t270, t271, t272, t273, t274, t275, t276, t277⟩ : S29)) (k29_mkM _ _ _ (⟨t269, t270, t271, t272, t273, t274, t275, t276, t277⟩ : S29) (Kd.R_mono (Kd.R_tight rfl (Kd.R_mono (ok' := fun k_ => ((fun _ => True)) k_ ∧ k_ ≠ go10) (Kd.R_apart' (HO279.out) (Kd.S_typed HO_3.out) (by decide)) (fun k_ hk => ⟨trivial, fun e_ => (hk.2) (by rw [e_]; rfl)⟩))) (fun _ h_ => Or.inr (h_)))) (fun _ hk => hk) (fun k_ hk_ => ((Kd.R_mono (ok' := fun k_ => ((fun _ => True)) k_ ∧ k_ ≠ go10) (Kd.R_apart' (HO279.out) (Kd.S_typed HO_3.out) (by decide)) (fun k_ hk => ⟨trivial, fun e_ => (hk.2) (by rw [e_]; rfl)⟩))).1 k_ hk_.symm); have hx13_0 := hcc13 0 _ rfl; (try simp only [show (k29).sz = 9 from rfl, Nat.mul_one, Nat.add_zero] at hx13_0); have hf13_0 := hfr13 0; (try simp only [show (k29).sz = 9 from rfl, Nat.mul_one, Nat.add_zero] at hf13_0); have hx13_1 := hcc13 1 _ rfl; (try simp only [show (k29).sz = 9 from rfl, Nat.mul_one, Nat.add_zero] at hx13_1); have hf13_1 := hfr13 1; (try simp only [show (k29).sz = 9 from rfl, Nat.mul_one, Nat.add_zero] at hf13_1); have hx13_2 := hcc13 2 _ rfl; (try simp only [show (k29).sz = 9 from rfl, Nat.mul_one, Nat.add_zero] at hx13_2); have hf13_2 := hfr13 2; (try simp only [show (k29).sz = 9 from rfl, Nat.mul_one, Nat.add_zero] at hf13_2); have hx13_3 := hcc13 3 _ rfl; (try simp only [show (k29).sz = 9 from rfl, Nat.mul_one, Nat.add_zero] at hx13_3); have hf13_3 := hfr13 3; (try simp only [show (k29).sz = 9 from rfl, Nat.mul_one, Nat.add_zero] at hf13_3); have hx13_4 := hcc13 4 _ rfl; (try simp only [show (k29).sz = 9 from rfl, Nat.mul_one, Nat.add_zero] at hx13_4); have hf13_4 := hfr13 4; (try simp only [show (k29).sz = 9 from rfl, Nat.mul_one, Nat.add_zero] at hf13_4); have hx13_5 := hcc13 5 _ rfl; (try simp only [show (k29).sz = 9 from rfl, Nat.mul_one, Nat.add_zero] at hx13_5); have hf13_5 := hfr13 5; (try simp only [show (k29).sz = 9 from rfl, Nat.mul_one, Nat.add_zero] at hf13_5); have hx13_6 := hcc13 6 _ rfl; (try simp only [show (k29).sz = 9 from rfl, Nat.mul_one, Nat.add_zero] at hx13_6); have hf13_6 := hfr13 6; (try simp only [show (k29).sz = 9 from rfl, Nat.mul_one, Nat.add_zero] at hf13_6); have hx13_7 := hcc13 7 _ rfl; (try simp only [show (k29).sz = 9 from rfl, Nat.mul_one, Nat.add_zero] at hx13_7); have hf13_7 := hfr13 7; (try simp only [show (k29).sz = 9 from rfl, Nat.mul_one, Nat.add_zero] at hf13_7); have hx13_8 := hcc13 8 _ rfl; (try simp only [show (k29).sz = 9 from rfl, Nat.mul_one, Nat.add_zero] at hx13_8); have hf13_8 := hfr13 8; (try simp only [show (k29).sz = 9 from rfl, Nat.mul_one, Nat.add_zero] at hf13_8); clear hcl13 hcc13 hfr13 hM13 hoki13 hH13) | ((with_reducible refine gate_store (t := 29) (p := 21) rfl ?_); refine store_event (t := 29) (p := 21) (v := ?vo_w14) (w1 := (((((((((w11.setCell ⟨go10, (x4_1 : Int).toNat * 9, none⟩ (.int .i64 t269)).setCell ⟨go10, (x4_1 : Int).toNat * 9 + 1, none⟩ (.int .i64 t270)).setCell ⟨go10, (x4_1 : Int).toNat * 9 + 2, none⟩ (.int .i64 t271)).setCell ⟨go10, (x4_1 : Int).toNat * 9 + 3, none⟩ (.int .i64 t272)).setCell ⟨go10, (x4_1 : Int).toNat * 9 + 4, none⟩ (.int .i64 t273)).setCell ⟨go10, (x4_1 : Int).toNat * 9 + 5, none⟩ (.int .i64 t274)).setCell ⟨go10, (x4_1 : Int).toNat * 9 + 6, none⟩ (.int .i64 t275)).setCell ⟨go10, (x4_1 : Int).toNat * 9 + 7, none⟩ (.bool t276)).setCell ⟨go10, (x4_1 : Int).toNat * 9 + 8, none⟩ (.slice Ao12 t277.length co12))) ?hg ?ho ?hn ?hr ?_; (case ho => rfl); (case hg => rfl); (case hn => rfl); (case hr => first | (go_simp; done) | (go_simp; rfl)); intro w14 hw; have hg : w11.grownBy w14 (some go10) := (by rw [hw]; exact HP13.2); have hp_ : Kd.S k29 29 w14 w.heap.size (fun _ => True) (.slice (some ⟨go10, 0, none⟩) x3_1.length co10) y280 := (by rw [hw, Ny280.out]; exact HP13.1); clear HP13; have n0_ := am (hp_); have n1_ := am ((by rw [hw]; exact below_set (below_set (below_set (below_set (below_set (below_set (below_set (below_set (below_set (HB.out) GB10.out) GB10.out) GB10.out) GB10.out) GB10.out) GB10.out) GB10.out) GB10.out) GB10.out : Below w.heap.size w w14)); clear HO_3; clear HB; clear HO279; have HO_3 := n0_; have HB := n1_; clear n0_ n1_; clear hg hw hp_))
   go_roundg k1
   case measure => have := HK1.out; omega
   case rel => exact ⟨(y280), (wrap64 (x4_1 + 1)), u11_25, H', ⟨by have := HK1.out; omega⟩, ⟨u11_13⟩, ⟨u11_0⟩⟩

/-! ### laws_toGroup: function 45 -/
def laws_toGroup.f (k : Nat) (a0_0 : Int) (l0_1 : List (S45)) (l0_2 : List (S24)) : Option (Int × (List (S37)) × (List (S29))) := (laws_toNodeS.f k l0_1).bind fun t284 => ((laws_toMsgS.f k l0_2).bind fun t287 => (some (a0_0, t284, t287)))
theorem laws_toGroup.mono : ∀ a0 a1 a2 k, LeO (laws_toGroup.f k a0 a1 a2) (laws_toGroup.f (k + 1) a0 a1 a2) := by
 intro a0 a1 a2 k
 unfold laws_toGroup.f
 repeat' first
     | (with_reducible exact laws_toMsgS.mono _ _)
     | (with_reducible exact laws_toNodeS.mono _ _)
     | (with_reducible exact LeO.refl _)
     | (with_reducible exact LeO.none _)
     | (with_reducible refine LeO.ite ?_ ?_)
     | (with_reducible refine LeO.bind ?_ (fun _ => ?_))
     | exact laws_toMsgS.mono _ _
     | exact laws_toNodeS.mono _ _
     | exact LeO.none _
     | refine LeO.ite ?_ ?_
     | refine LeO.bind ?_ (fun _ => ?_)
set_option maxHeartbeats 8000000 in
set_option maxRecDepth 100000 in
theorem laws_toGroup.calls (k : Nat) (a0_0 : Int) (A0_1 : Option Addr) (c0_1 : Nat) (l0_1 : List (S45)) (A0_2 : Option Addr) (c0_2 : Nat) (l0_2 : List (S24)) (r1 : Int) (r2 : List (S37)) (r3 : List (S29)) (w : World) (hr0_1 : Kd.C k45 w A0_1 l0_1.length l0_1) (hc0_1 : l0_1.length ≤ c0_1) (hr0_2 : Kd.C k24 w A0_2 l0_2.length l0_2) (hc0_2 : l0_2.length ≤ c0_2) (h : laws_toGroup.f k a0_0 l0_1 l0_2 = some (r1, r2, r3)) :
   Calls Try.prog 45 #[.agg #[.int .i64 a0_0, .slice A0_1 l0_1.length c0_1, .slice A0_2 l0_2.length c0_2]] w fun e w' => ∃ v1_ v2_ : Value, e = .returned (.agg #[.int .i64 r1, v1_, v2_]) ∧ Kd.S k37 37 w' w.heap.size (fun _ => True) v1_ r2 ∧ Kd.S k29 29 w' w.heap.size (fun _ => True) v2_ r3 ∧ Below w.heap.size w w' := by
 have hu68 := Try.underlying68
 have hu53 := Try.underlying53
 have HR0_1 := am hr0_1
 have HC0_1 := am hc0_1
 clear hr0_1 hc0_1
 have HR0_2 := am hr0_2
 have HC0_2 := am hc0_2
 clear hr0_2 hc0_2
 have HB := am (Below.refl w.heap.size w)
 have H : ((laws_toNodeS.f k l0_1).bind fun t284 => ((laws_toMsgS.f k l0_2).bind fun t287 => (some (a0_0, t284, t287)))) = some (r1, r2, r3) := h
 clear h
 replace H := Option.bind_eq_some_iff.mp H
 obtain ⟨t284, A20, H⟩ := H
 replace H : ((laws_toMsgS.f k l0_2).bind fun t287 => (some (a0_0, t284, t287))) = some (r1, r2, r3) := H
 have A2 := am A20
 clear A20
 replace H := Option.bind_eq_some_iff.mp H
 obtain ⟨t287, A30, H⟩ := H
 replace H : (some (a0_0, t284, t287)) = some (r1, r2, r3) := H
 have A3 := am A30
 clear A30
 simp only [Option.some.injEq, Prod.mk.injEq] at H
 obtain ⟨rfl, rfl, rfl⟩ := H
 go_enter Try.func45, Try.ntmps45
 go_wp2_with (first | ((with_reducible refine gate_dst (N := 1) rfl ?_); refine box_event ?hg (N := 1) ?hd (cs := #[.int .i64 a0_0, .slice A0_1 l0_1.length c0_1, .slice A0_2 l0_2.length c0_2]) (t := 68) ?hr ?_; (case hd => rfl); (case hg => rfl); (case hr => first | (go_simp; done) | (go_simp; rfl)); intro gb281 hg w4 hbox hb; have n0_ := am (below_step u11_0 hb); have n1_ := am (hbox); have n2_ := am ((by rw [hg]; exact (below_size u11_0) : w.heap.size ≤ gb281)); have n3_ := am ((by rw [hg]; exact (below_size u11_0) : w.heap.size ≤ gb281)); clear HB; have HB := n0_; have BK281 := n1_; have GW281 := n2_; have GE281 := n3_; clear n0_ n1_ n2_ n3_; clear hb hbox hg) | ((with_reducible refine gate_dst (N := 2) rfl ?_); refine box_event ?hg (N := 2) ?hd (cs := #[.int .i64 0, .slice none 0 0, .slice none 0 0]) (t := 53) ?hr ?_; (case hd => rfl); (case hg => rfl); (case hr => first | (go_simp; done) | (go_simp; rfl)); intro gb282 hg w5 hbox hb; have n0_ := am (blk_below (g := gb281) (o := .cells #[.int .i64 a0_0, .slice A0_1 l0_1.length c0_1, .slice A0_2 l0_2.length c0_2] 68 (0, 0)) u11_11 hb); have n1_ := am (below_step u11_23 hb); have n2_ := am (hbox); have n3_ := am ((by rw [hg]; exact (below_size u11_23) : w.heap.size ≤ gb282)); have n4_ := am ((by rw [hg]; exact (below_size u11_23) : w.heap.size ≤ gb282)); have n5_ := am ((by rw [hg]; exact Nat.ne_of_lt (blk_lt (g := gb281) (o := .cells #[.int .i64 a0_0, .slice A0_1 l0_1.length c0_1, .slice A0_2 l0_2.length c0_2] 68 (0, 0)) u11_11) : gb281 ≠ gb282)); have n6_ := am ((by rw [hg]; exact Nat.ne_of_gt (blk_lt (g := gb281) (o := .cells #[.int .i64 a0_0, .slice A0_1 l0_1.length c0_1, .slice A0_2 l0_2.length c0_2] 68 (0, 0)) u11_11) : gb282 ≠ gb281)); clear BK281; clear HB; have BK281 := n0_; have HB := n1_; have BK282 := n2_; have GW282 := n3_; have GE282 := n4_; have NB281_282 := n5_; have NB282_281 := n6_; clear n0_ n1_ n2_ n3_ n4_ n5_ n6_; clear hb hbox hg) | ((with_reducible refine gate_dst (N := 3) rfl ?_); refine box_event ?hg (N := 3) ?hd (cs := #[.int .i64 0, .slice none 0 0, .slice none 0 0]) (t := 53) ?hr ?_; (case hd => rfl); (case hg => rfl); (case hr => first | (go_simp; done) | (go_simp; rfl)); intro gb283 hg w6 hbox hb; have n0_ := am (blk_below (g := gb281) (o := .cells #[.int .i64 a0_0, .slice A0_1 l0_1.length c0_1, .slice A0_2 l0_2.length c0_2] 68 (0, 0)) u11_11 hb); have n1_ := am (blk_below (g := gb282) (o := .cells #[.int .i64 0, .slice none 0 0, .slice none 0 0] 53 (0, 0)) u11_33 hb); have n2_ := am (below_step u11_18 hb); have n3_ := am (hbox); have n4_ := am ((by rw [hg]; exact (below_size u11_18) : w.heap.size ≤ gb283)); have n5_ := am ((by rw [hg]; exact (below_size u11_18) : w.heap.size ≤ gb283)); have n6_ := am ((by rw [hg]; exact Nat.ne_of_lt (blk_lt (g := gb281) (o := .cells #[.int .i64 a0_0, .slice A0_1 l0_1.length c0_1, .slice A0_2 l0_2.length c0_2] 68 (0, 0)) u11_11) : gb281 ≠ gb283)); have n7_ := am ((by rw [hg]; exact Nat.ne_of_gt (blk_lt (g := gb281) (o := .cells #[.int .i64 a0_0, .slice A0_1 l0_1.length c0_1, .slice A0_2 l0_2.length c0_2] 68 (0, 0)) u11_11) : gb283 ≠ gb281)); have n8_ := am ((by rw [hg]; exact Nat.ne_of_lt (blk_lt (g := gb282) (o := .cells #[.int .i64 0, .slice none 0 0, .slice none 0 0] 53 (0, 0)) u11_33) : gb282 ≠ gb283)); have n9_ := am ((by rw [hg]; exact Nat.ne_of_gt (blk_lt (g := gb282) (o := .cells #[.int .i64 0, .slice none 0 0, .slice none 0 0] 53 (0, 0)) u11_33) : gb283 ≠ gb282)); clear BK281; clear BK282; clear HB; have BK281 := n0_; have BK282 := n1_; have HB := n2_; have BK283 := n3_; have GW283 := n4_; have GE283 := n5_; have NB281_283 := n6_; have NB283_281 := n7_; have NB282_283 := n8_; have NB283_282 := n9_; clear n0_ n1_ n2_ n3_ n4_ n5_ n6_ n7_ n8_ n9_; clear hb hbox hg; have hnb7 := NB281_282.out; have hnc7 := NB282_281.out; have hnb8 := NB281_283.out; have hnc8 := NB283_281.out; have hcz9_0 : w6.cell? ⟨gb281, 0, none⟩ = some (.int .i64 a0_0) := (blk_cell BK281.out 0).trans rfl; have hcz9_1 : w6.cell? ⟨gb281, 1, none⟩ = some (.slice A0_1 l0_1.length c0_1) := (blk_cell BK281.out 1).trans rfl; have hcz9_2 : w6.cell? ⟨gb281, 2, none⟩ = some (.slice A0_2 l0_2.length c0_2) := (blk_cell BK281.out 2).trans rfl; have hfz9_0 := blk_frozen BK281.out 0; have hfz9_1 := blk_frozen BK281.out 1; have hfz9_2 := blk_frozen BK281.out 2; have hnb10 := NB283_282.out; have hnc10 := NB282_283.out; have hcz11_0 : w6.cell? ⟨gb283, 0, none⟩ = some (.int .i64 0) := (blk_cell BK283.out 0).trans rfl; have hcz11_1 : w6.cell? ⟨gb283, 1, none⟩ = some (.slice none 0 0) := (blk_cell BK283.out 1).trans rfl; have hcz11_2 : w6.cell? ⟨gb283, 2, none⟩ = some (.slice none 0 0) := (blk_cell BK283.out 2).trans rfl; have hfz11_0 := blk_frozen BK283.out 0; have hfz11_1 := blk_frozen BK283.out 1; have hfz11_2 := blk_frozen BK283.out 2) | ((with_reducible refine gate_callee (f := 96) rfl ?_); refine goesL_ (some 9) rfl rfl Try.func96 kr rfl #[.slice A0_1 l0_1.length c0_1] rfl u11_4 ?_; (with_reducible refine (laws_toNodeS.calls k _ _ l0_1 t284 _ ?side1 ?side2 A2.out).mono ?_); (case side1 => exact (by exact Kd.C_below HR0_1.out u11_3)); (case side2 => exact HC0_1.out); rintro e w12 ⟨v285, rfl, ho0, hb⟩; refine ⟨_, rfl, ?_⟩; have n0_ := am (Kd.S_lower ho0 (below_size u11_3)); have n1_ := am (blk_below (g := gb281) (o := .cells #[.int .i64 a0_0, .slice A0_1 l0_1.length c0_1, .slice A0_2 l0_2.length c0_2] 68 (0, 0)) u11_27 hb); have n2_ := am (blk_below (g := gb282) (o := .cells #[.int .i64 0, .slice none 0 0, .slice none 0 0] 53 (0, 0)) u11_28 hb); have n3_ := am (blk_below (g := gb283) (o := .cells #[.int .i64 a0_0, .slice none 0 0, .slice none 0 0] 53 (0, 0)) (by (with_reducible repeat (first | refine blk_drewN ?_ _ | refine blk_drew ?_ | refine blk_alloc ?_ _)); refine blk_put (cs := #[.int .i64 0, .slice none 0 0, .slice none 0 0]) ?_ 0 _ rfl; (with_reducible repeat (first | refine blk_drewN ?_ _ | refine blk_drew ?_ | refine blk_alloc ?_ _)); exact BK283.out) hb); have n4_ := am (below_step u11_3 hb); clear BK281; clear BK282; clear BK283; clear HB; have HO286 := n0_; have BK281 := n1_; have BK282 := n2_; have BK283 := n3_; have HB := n4_; clear n0_ n1_ n2_ n3_ n4_; (try clear hb); (try clear hb2); (try clear hk); (try clear hi); (try clear ho0); obtain ⟨Ao13, co13, eo13⟩ := Kd.S_slice HO286.out; subst eo13; have hcz14_0 : w12.cell? ⟨gb283, 0, none⟩ = some (.int .i64 a0_0) := (blk_cell BK283.out 0).trans rfl; have hcz14_1 : w12.cell? ⟨gb283, 1, none⟩ = some (.slice none 0 0) := (blk_cell BK283.out 1).trans rfl; have hcz14_2 : w12.cell? ⟨gb283, 2, none⟩ = some (.slice none 0 0) := (blk_cell BK283.out 2).trans rfl; have hfz14_0 := blk_frozen BK283.out 0; have hfz14_1 := blk_frozen BK283.out 1; have hfz14_2 := blk_frozen BK283.out 2; have hcz15_0 : w12.cell? ⟨gb281, 0, none⟩ = some (.int .i64 a0_0) := (blk_cell BK281.out 0).trans rfl; have hcz15_1 : w12.cell? ⟨gb281, 1, none⟩ = some (.slice A0_1 l0_1.length c0_1) := (blk_cell BK281.out 1).trans rfl; have hcz15_2 : w12.cell? ⟨gb281, 2, none⟩ = some (.slice A0_2 l0_2.length c0_2) := (blk_cell BK281.out 2).trans rfl; have hfz15_0 := blk_frozen BK281.out 0; have hfz15_1 := blk_frozen BK281.out 1; have hfz15_2 := blk_frozen BK281.out 2) | ((with_reducible refine gate_callee (f := 97) rfl ?_); refine goesL_ (some 13) rfl rfl Try.func97 kr rfl #[.slice A0_2 l0_2.length c0_2] rfl u11_4 ?_; (with_reducible refine (laws_toMsgS.calls k _ _ l0_2 t287 _ ?side1 ?side2 A3.out).mono ?_); (case side1 => exact (by exact Kd.C_below HR0_2.out u11_3)); (case side2 => exact HC0_2.out); rintro e w16 ⟨v288, rfl, ho0, hb⟩; refine ⟨_, rfl, ?_⟩; have n0_ := am (Kd.S_below (by (with_reducible repeat (first | apply Kd.S_alloc | apply Kd.S_drewN | apply Kd.S_drew)); exact (Kd.S_mono (Kd.S_far (p := ⟨gb283, 1, none⟩) (Kd.S_types HO286.out BK283.out (by decide)) (fun _ hk => hk.2) (.slice Ao13 t284.length co13)) (fun _ h_ => h_.1))) hb); have n1_ := am (Kd.S_lower ho0 (below_size u11_3)); have n2_ := am (blk_below (g := gb281) (o := .cells #[.int .i64 a0_0, .slice A0_1 l0_1.length c0_1, .slice A0_2 l0_2.length c0_2] 68 (0, 0)) u11_27 hb); have n3_ := am (blk_below (g := gb282) (o := .cells #[.int .i64 0, .slice none 0 0, .slice none 0 0] 53 (0, 0)) u11_28 hb); have n4_ := am (blk_below (g := gb283) (o := .cells #[.int .i64 a0_0, .slice Ao13 t284.length co13, .slice none 0 0] 53 (0, 0)) (by (with_reducible repeat (first | refine blk_drewN ?_ _ | refine blk_drew ?_ | refine blk_alloc ?_ _)); refine blk_put (cs := #[.int .i64 a0_0, .slice none 0 0, .slice none 0 0]) ?_ 1 _ rfl; (with_reducible repeat (first | refine blk_drewN ?_ _ | refine blk_drew ?_ | refine blk_alloc ?_ _)); exact BK283.out) hb); have n5_ := am (below_step u11_3 hb); clear HO286; clear BK281; clear BK282; clear BK283; clear HB; have HO286 := n0_; have HO289 := n1_; have BK281 := n2_; have BK282 := n3_; have BK283 := n4_; have HB := n5_; clear n0_ n1_ n2_ n3_ n4_ n5_; (try clear hb); (try clear hb2); (try clear hk); (try clear hi); (try clear ho0); obtain ⟨Ao17, co17, eo17⟩ := Kd.S_slice HO289.out; subst eo17; have hcz18_0 : w16.cell? ⟨gb283, 0, none⟩ = some (.int .i64 a0_0) := (blk_cell BK283.out 0).trans rfl; have hcz18_1 : w16.cell? ⟨gb283, 1, none⟩ = some (.slice Ao13 t284.length co13) := (blk_cell BK283.out 1).trans rfl; have hcz18_2 : w16.cell? ⟨gb283, 2, none⟩ = some (.slice none 0 0) := (blk_cell BK283.out 2).trans rfl; have hfz18_0 := blk_frozen BK283.out 0; have hfz18_1 := blk_frozen BK283.out 1; have hfz18_2 := blk_frozen BK283.out 2; have hcz19_0 : w16.cell? ⟨gb282, 0, none⟩ = some (.int .i64 0) := (blk_cell BK282.out 0).trans rfl; have hcz19_1 : w16.cell? ⟨gb282, 1, none⟩ = some (.slice none 0 0) := (blk_cell BK282.out 1).trans rfl; have hcz19_2 : w16.cell? ⟨gb282, 2, none⟩ = some (.slice none 0 0) := (blk_cell BK282.out 2).trans rfl; have hfz19_0 := blk_frozen BK282.out 0; have hfz19_1 := blk_frozen BK282.out 1; have hfz19_2 := blk_frozen BK282.out 2))
 refine bodyPost_ret (results_cell_row rfl _ _ gb282 53 #[.int .i64 a0_0, .slice Ao13 t284.length co13, .slice Ao17 t287.length co17] (0, 0) _ rfl (by (with_reducible repeat (first | refine blk_drewN ?_ _ | refine blk_drew ?_ | refine blk_alloc ?_ _)); refine blk_put (cs := #[.int .i64 a0_0, .slice Ao13 t284.length co13, .slice none 0 0]) ?_ 2 _ rfl; (with_reducible repeat (first | refine blk_drewN ?_ _ | refine blk_drew ?_ | refine blk_alloc ?_ _)); refine blk_put (cs := #[.int .i64 a0_0, .slice none 0 0, .slice none 0 0]) ?_ 1 _ rfl; (with_reducible repeat (first | refine blk_drewN ?_ _ | refine blk_drew ?_ | refine blk_alloc ?_ _)); refine blk_put (cs := #[.int .i64 0, .slice none 0 0, .slice none 0 0]) ?_ 0 _ rfl; (with_reducible repeat (first | refine blk_drewN ?_ _ | refine blk_drew ?_ | refine blk_alloc ?_ _)); refine blk_far ?_ NB282_283.out _; (with_reducible repeat (first | refine blk_drewN ?_ _ | refine blk_drew ?_ | refine blk_alloc ?_ _)); exact BK282.out) Try.underlying53 rfl kr) rfl ?_
 exact ⟨_, _, by first | rfl | (simp [errW_none, errW_some] <;> rfl) | (simp [*, errW_none, errW_some] <;> rfl), (by (with_reducible repeat (first | apply Kd.S_alloc | apply Kd.S_drewN | apply Kd.S_drew)); exact Kd.S_mono (Kd.S_far (p := ⟨gb282, 2, none⟩) (Kd.S_far (p := ⟨gb282, 1, none⟩) (Kd.S_far (p := ⟨gb282, 0, none⟩) (Kd.S_far (p := ⟨gb283, 2, none⟩) (Kd.S_types (Kd.S_types HO286.out BK283.out (by decide)) BK282.out (by decide)) (fun _ hk => hk.1.2) (.slice Ao17 t287.length co17)) (fun _ hk => hk.2) (.int .i64 a0_0)) (fun _ hk => hk.2) (.slice Ao13 t284.length co13)) (fun _ hk => hk.2) (.slice Ao17 t287.length co17)) (fun _ hk => trivial)), (by (with_reducible repeat (first | apply Kd.S_alloc | apply Kd.S_drewN | apply Kd.S_drew)); exact Kd.S_mono (Kd.S_far (p := ⟨gb282, 2, none⟩) (Kd.S_far (p := ⟨gb282, 1, none⟩) (Kd.S_far (p := ⟨gb282, 0, none⟩) (Kd.S_far (p := ⟨gb283, 2, none⟩) (Kd.S_types (Kd.S_types HO289.out BK283.out (by decide)) BK282.out (by decide)) (fun _ hk => hk.1.2) (.slice Ao17 t287.length co17)) (fun _ hk => hk.2) (.int .i64 a0_0)) (fun _ hk => hk.2) (.slice Ao13 t284.length co13)) (fun _ hk => hk.2) (.slice Ao17 t287.length co17)) (fun _ hk => trivial)), u11_3⟩

/-! ### impl_isEntry: function 111 -/
def impl_isEntry.f (a0_0 : Int) (a0_1 : ByteArray) : Option (Bool) := if a0_0 > 0 then (if a0_0 ≤ 1000000 then (some (decide ((a0_1.size : Int) ≤ 40))) else (some false)) else (some false)
set_option maxHeartbeats 8000000 in
set_option maxRecDepth 100000 in
theorem impl_isEntry.calls (a0_0 : Int) (a0_1 : ByteArray) (r : Bool) (w : World) (h : impl_isEntry.f a0_0 a0_1 = some r) :
   Calls Try.prog 111 #[.agg #[.int .i64 a0_0, .string a0_1]] w fun e w' => e = .returned (.bool r) ∧ Below w.heap.size w w' := by
 have hu85 := Try.underlying85
 have HB := am (Below.refl w.heap.size w)
 have H : (if a0_0 > 0 then (if a0_0 ≤ 1000000 then (some (decide ((a0_1.size : Int) ≤ 40))) else (some false)) else (some false)) = some r := h
 clear h
 by_cases c2 : a0_0 > 0
 rotate_left
 · rw [if_neg c2] at H
   have c2b0 : decide (0 < a0_0) = false := decide_eq_false c2
   clear c2
   obtain rfl := Option.some.inj H
   go_enter Try.func111, Try.ntmps111
   go_wp2_with (first | ((with_reducible refine gate_dst (N := 1) rfl ?_); (try (refine gate_guard (by rfl) ?_; dsimp only)); refine box_event ?hg (N := 1) ?hd (cs := #[.int .i64 a0_0, .string a0_1]) (t := 85) ?hr ?_; (case hd => rfl); (case hg => rfl); (case hr => first | (go_simp; done) | (go_simp; rfl)); intro gb290 hg w8 hbox hb; have n0_ := am (below_step u11_0 hb); have n1_ := am (hbox); have n2_ := am ((by rw [hg]; exact (below_size u11_0) : w.heap.size ≤ gb290)); have n3_ := am ((by rw [hg]; exact (below_size u11_0) : w.heap.size ≤ gb290)); clear HB; have HB := n0_; have BK290 := n1_; have GW290 := n2_; have GE290 := n3_; clear n0_ n1_ n2_ n3_; clear hb hbox hg; have hcz9_0 : w8.cell? ⟨gb290, 0, none⟩ = some (.int .i64 a0_0) := (blk_cell BK290.out 0).trans rfl; have hcz9_1 : w8.cell? ⟨gb290, 1, none⟩ = some (.string a0_1) := (blk_cell BK290.out 1).trans rfl; have hfz9_0 := blk_frozen BK290.out 0; have hfz9_1 := blk_frozen BK290.out 1))
   go_ret
   exact ⟨by first | rfl | (simp [errW_none, errW_some] <;> rfl) | (simp [*, errW_none, errW_some] <;> rfl), u11_24⟩
 rw [if_pos c2] at H
 have c2b0 : decide (0 < a0_0) = true := decide_eq_true c2
 clear c2
 by_cases c3 : a0_0 ≤ 1000000
 · rw [if_pos c3] at H
   have c3b0 : decide (a0_0 ≤ 1000000) = true := decide_eq_true c3
   clear c3
   obtain rfl := Option.some.inj H
   go_enter Try.func111, Try.ntmps111
   go_wp2_with (first | ((with_reducible refine gate_dst (N := 1) rfl ?_); (try (refine gate_guard (by rfl) ?_; dsimp only)); refine box_event ?hg (N := 1) ?hd (cs := #[.int .i64 a0_0, .string a0_1]) (t := 85) ?hr ?_; (case hd => rfl); (case hg => rfl); (case hr => first | (go_simp; done) | (go_simp; rfl)); intro gb290 hg w4 hbox hb; have n0_ := am (below_step u11_0 hb); have n1_ := am (hbox); have n2_ := am ((by rw [hg]; exact (below_size u11_0) : w.heap.size ≤ gb290)); have n3_ := am ((by rw [hg]; exact (below_size u11_0) : w.heap.size ≤ gb290)); clear HB; have HB := n0_; have BK290 := n1_; have GW290 := n2_; have GE290 := n3_; clear n0_ n1_ n2_ n3_; clear hb hbox hg; have hcz5_0 : w4.cell? ⟨gb290, 0, none⟩ = some (.int .i64 a0_0) := (blk_cell BK290.out 0).trans rfl; have hcz5_1 : w4.cell? ⟨gb290, 1, none⟩ = some (.string a0_1) := (blk_cell BK290.out 1).trans rfl; have hfz5_0 := blk_frozen BK290.out 0; have hfz5_1 := blk_frozen BK290.out 1))
   go_ret
   exact ⟨by first | rfl | (simp [errW_none, errW_some] <;> rfl) | (simp [*, errW_none, errW_some] <;> rfl), u11_24⟩
 rw [if_neg c3] at H
 have c3b0 : decide (a0_0 ≤ 1000000) = false := decide_eq_false c3
 clear c3
 obtain rfl := Option.some.inj H
 go_enter Try.func111, Try.ntmps111
 go_wp2_with (first | ((with_reducible refine gate_dst (N := 1) rfl ?_); (try (refine gate_guard (by rfl) ?_; dsimp only)); refine box_event ?hg (N := 1) ?hd (cs := #[.int .i64 a0_0, .string a0_1]) (t := 85) ?hr ?_; (case hd => rfl); (case hg => rfl); (case hr => first | (go_simp; done) | (go_simp; rfl)); intro gb290 hg w6 hbox hb; have n0_ := am (below_step u11_0 hb); have n1_ := am (hbox); have n2_ := am ((by rw [hg]; exact (below_size u11_0) : w.heap.size ≤ gb290)); have n3_ := am ((by rw [hg]; exact (below_size u11_0) : w.heap.size ≤ gb290)); clear HB; have HB := n0_; have BK290 := n1_; have GW290 := n2_; have GE290 := n3_; clear n0_ n1_ n2_ n3_; clear hb hbox hg; have hcz7_0 : w6.cell? ⟨gb290, 0, none⟩ = some (.int .i64 a0_0) := (blk_cell BK290.out 0).trans rfl; have hcz7_1 : w6.cell? ⟨gb290, 1, none⟩ = some (.string a0_1) := (blk_cell BK290.out 1).trans rfl; have hfz7_0 := blk_frozen BK290.out 0; have hfz7_1 := blk_frozen BK290.out 1))
 go_ret
 exact ⟨by first | rfl | (simp [errW_none, errW_some] <;> rfl) | (simp [*, errW_none, errW_some] <;> rfl), u11_24⟩

end Go.Proofs.Ytkcadcoohmofcaa.QFnExactGroupOk
