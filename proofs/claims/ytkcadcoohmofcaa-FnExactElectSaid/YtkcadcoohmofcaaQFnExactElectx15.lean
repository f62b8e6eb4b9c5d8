-- Printed by the session's own program wip/prx.py.
import Derived.Test.YtkcadcoohmofcaaSqFnExactElect
import Derived.Test.YtkcadcoohmofcaaQFnExactElectx0
namespace Go.Proofs.Ytkcadcoohmofcaa.QFnExactElect
open Go.RowKit Go.Proofs.YtkcadcoohmofcaaW.PrintWords Go.Proofs.YtkcadcoohmofcaaW.PrintLast Go.Proofs.YtkcadcoohmofcaaW.PrintMore Go.Proofs.Ytkcadcoohmofcaa.SqFnExactElect
attribute [local go_sem] max2_int min2_int max_two min_two max_three min_three max_four min_four Go.Proofs.Ytkcadcoohmofcaa.Set.isSome_setCell
set_option linter.unusedVariables false
set_option linter.unusedSimpArgs false

-- squeezed
theorem u15_3 {P : Prop} (h : P := by (with_reducible repeat (first | refine blk_drewN ?_ _ | refine blk_drew ?_ | refine blk_alloc ?_ _)); exact BK365.out) : P := h
theorem u15_4 {P : Prop} (h : P := by (with_reducible repeat (first | refine blk_drewN ?_ _ | refine blk_drew ?_ | refine blk_alloc ?_ _)); exact BK357.out) : P := h
theorem u15_7 {P : Prop} (h : P := by (with_reducible repeat (first | apply Kd.R_alloc | apply Kd.R_drewN | apply Kd.R_drew)); exact (Kd.R_mono (Kd.R_far (p := ⟨gb365, 8, none⟩) (Kd.R_types HO377.out BK365.out (by decide)) (fun _ hk => hk.2) (.slice Ao16 y375.length co16)) (fun _ h_ => h_.1))) : P := h
theorem u15_8 {P : Prop} (h : P := by (with_reducible repeat (first | refine blk_drewN ?_ _ | refine blk_drew ?_ | refine blk_alloc ?_ _)); exact BK366.out) : P := h
theorem u15_9 {P : Prop} (h : P := by (with_reducible repeat (first | refine blk_drewN ?_ _ | refine blk_drew ?_ | refine blk_alloc ?_ _)); exact BK358.out) : P := h
theorem u15_10 {P : Prop} (h : P := by (with_reducible repeat (first | apply Kd.R_alloc | apply Kd.R_drewN | apply Kd.R_drew)); exact HO374.out) : P := h
theorem u15_11 {P : Prop} (h : P := by (with_reducible repeat (first | apply Kd.R_alloc | apply Kd.R_drewN | apply Kd.R_drew)); exact HO371.out) : P := h
theorem u15_12 {P : Prop} (h : P := by (with_reducible repeat (first | apply Kd.R_alloc | apply Kd.R_drewN | apply Kd.R_drew)); exact HO377.out) : P := h
theorem u15_13 {P : Prop} (h : P := by repeat (first | exact HB.out | apply below_alloc | apply pw_below_drewN | apply below_drew1)) : P := h
/-! ### impl_copyRLog: function 118 -/
def impl_copyRLog.f (a0_0 : Int) (a0_1 : Int) (l0_2 : List (S85)) : Option (Int × Int × (List (S85))) := (some (([] : List (S85)) : List (S85))).bind fun y359 => (if y359.length + l0_2.length < 5864062014805 then (some (a0_0, a0_1, (y359 ++ l0_2))) else (none))
set_option maxHeartbeats 8000000 in
set_option maxRecDepth 100000 in
theorem impl_copyRLog.calls (a0_0 : Int) (a0_1 : Int) (A0_2 : Option Addr) (c0_2 : Nat) (l0_2 : List (S85)) (r1 : Int) (r2 : Int) (r3 : List (S85)) (w : World) (hr0_2 : Kd.C k85 w A0_2 l0_2.length l0_2) (hc0_2 : l0_2.length ≤ c0_2) (h : impl_copyRLog.f a0_0 a0_1 l0_2 = some (r1, r2, r3)) :
   Calls Try.prog 118 #[.agg #[.int .i64 a0_0, .int .i64 a0_1, .slice A0_2 l0_2.length c0_2]] w fun e w' => ∃ v2_ : Value, e = .returned (.agg #[.int .i64 r1, .int .i64 r2, v2_]) ∧ Kd.R k85 85 w' w.heap.size (fun _ => True) v2_ r3 ∧ Below w.heap.size w w' := by
 have hu34 := Try.underlying34
 have HR0_2 := am hr0_2
 have HC0_2 := am hc0_2
 clear hr0_2 hc0_2
 have HB := am (Below.refl w.heap.size w)
 have H : ((some (([] : List (S85)) : List (S85))).bind fun y359 => (if y359.length + l0_2.length < 5864062014805 then (some (a0_0, a0_1, (y359 ++ l0_2))) else (none))) = some (r1, r2, r3) := h
 clear h
 obtain ⟨y359, hy359⟩ : ∃ y_ : List (S85), y_ = (([] : List (S85))) := ⟨_, rfl⟩
 replace H : (if y359.length + l0_2.length < 5864062014805 then (some (a0_0, a0_1, (y359 ++ l0_2))) else (none)) = some (r1, r2, r3) := by first | (rw [hy359]; with_reducible exact H) | (have H2_ := (Option.bind_some _ _).symm.trans H; rw [hy359]; with_reducible exact H2_) | (have H2_ := (Option.bind_some _ _).symm.trans H; with_reducible exact H2_) | with_reducible exact H | (rw [hy359]; exact H) | exact H
 have Ny359 := am hy359
 clear hy359
 by_cases c2 : y359.length + l0_2.length < 5864062014805
 rotate_left
 · rw [if_neg c2] at H
   exact absurd H (by simp)
 rw [if_pos c2] at H
 have LMc2 := am c2
 clear c2
 obtain ⟨y362, hy362⟩ : ∃ y_ : List (S85), y_ = (y359 ++ l0_2) := ⟨_, rfl⟩
 replace H : (some (a0_0, a0_1, y362)) = some (r1, r2, r3) := by first | (rw [hy362]; with_reducible exact H) | (have H2_ := (Option.bind_some _ _).symm.trans H; rw [hy362]; with_reducible exact H2_) | (have H2_ := (Option.bind_some _ _).symm.trans H; with_reducible exact H2_) | with_reducible exact H | (rw [hy362]; exact H) | exact H
 have Ny362 := am hy362
 clear hy362
 simp only [Option.some.injEq, Prod.mk.injEq] at H
 obtain ⟨rfl, rfl, rfl⟩ := H
 go_enter Try.func118, Try.ntmps118
 go_wp2_with (first | ((with_reducible refine gate_dst (N := 1) rfl ?_); refine box_event ?hg (N := 1) ?hd (cs := #[.int .i64 a0_0, .int .i64 a0_1, .slice A0_2 l0_2.length c0_2]) (t := 34) ?hr ?_; (case hd => rfl); (case hg => rfl); (case hr => first | (go_simp; done) | (go_simp; rfl)); intro gb357 hg w3 hbox hb; have BK357 := am (hbox); have GW357 := am ((by rw [hg]; exact (below_size Q0) : w.heap.size ≤ gb357)); have GE357 := am ((by rw [hg]; exact (below_size Q0) : w.heap.size ≤ gb357)); replace HB := am (below_step Q0 hb); clear hb hbox hg) | ((with_reducible refine gate_dst (N := 2) rfl ?_); refine box_event ?hg (N := 2) ?hd (cs := #[.int .i64 0, .int .i64 0, .slice none 0 0]) (t := 34) ?hr ?_; (case hd => rfl); (case hg => rfl); (case hr => first | (go_simp; done) | (go_simp; rfl)); intro gb358 hg w4 hbox hb; have BK358 := am (hbox); have GW358 := am ((by rw [hg]; exact (below_size Q0) : w.heap.size ≤ gb358)); have GE358 := am ((by rw [hg]; exact (below_size Q0) : w.heap.size ≤ gb358)); replace HB := am (below_step Q0 hb); have NB357_358 := am ((by rw [hg]; exact Nat.ne_of_lt (blk_lt (g := gb357) (o := .cells #[.int .i64 a0_0, .int .i64 a0_1, .slice A0_2 l0_2.length c0_2] 34 (0, 0)) u15_4) : gb357 ≠ gb358)); have NB358_357 := am ((by rw [hg]; exact Nat.ne_of_gt (blk_lt (g := gb357) (o := .cells #[.int .i64 a0_0, .int .i64 a0_1, .slice A0_2 l0_2.length c0_2] 34 (0, 0)) u15_4) : gb358 ≠ gb357)); replace BK357 := am (blk_below (g := gb357) (o := .cells #[.int .i64 a0_0, .int .i64 a0_1, .slice A0_2 l0_2.length c0_2] 34 (0, 0)) u15_4 hb); clear hb hbox hg) | ((with_reducible refine gate_dst (N := 3) rfl ?_); refine Kd.R_lit k85 _ 85 ?hg (N := 3) ?hd (xs := ([] : List (S85))) (inner := []) (ok := fun _ => True) (okp := fun _ => True) ?hr ?hp (fun _ hk => hk) trivial (Below.refl _ _) (Nat.le_refl _) (by simp) ?_; (case hd => rfl); (case hg => rfl); (case hr => first | (go_simp; done) | (go_simp; rfl)); (case hp => exact (Reps.none _ _)); intro v360 w5 ho6 hb hg_ hnew_; clear hg_ hnew_; (first | rw [← Ny359.out] at ho6 | (simp only [Int.reduceToNat] at ho6; rw [← Ny359.out] at ho6)); have HO361 := am (Kd.R_lower ho6 (below_size Q0)); replace BK357 := am (blk_below (g := gb357) (o := .cells #[.int .i64 a0_0, .int .i64 a0_1, .slice A0_2 l0_2.length c0_2] 34 (0, 0)) u15_4 hb); replace BK358 := am (blk_below (g := gb358) (o := .cells #[.int .i64 0, .int .i64 0, .slice none 0 0] 34 (0, 0)) u15_9 hb); replace HB := am (below_step Q0 hb); clear hb ho6; have hnb7 := NB357_358.out; have hnc7 := NB358_357.out; obtain ⟨hcz8_0, hcz8_1, hcz8_2, hfz8_0, hfz8_1, hfz8_2⟩ := bc3f w5 BK357.out) | ((with_reducible refine gate_builtin (b := .append) (xs := #[.tmp 3, .tmp 5]) rfl ?_); at_builtin; refine Kd.R_append_rows k85 (w0 := w) w.heap.size rfl (.tmp 3) (.tmp 5) 27 85 (.agg #[(.int .i64 0), (.string ⟨#[]⟩)]) 24 rfl Try.underlying27 info85 rfl (by decide) (by omega) v360 y359 l0_2 _ _ _ (fun _ => True) (fun _ => False) rfl rfl ?aO ?aR (fun _ _ h => h) (fun _ h => h.elim) ?aF ?aB ?aS ?aL ?_; (case aR => repeat (first | exact (Kd.C_below HR0_2.out HB.out) | (with_reducible refine Kd.C_alloc ?_ _) | (with_reducible refine Kd.C_drewN ?_ _) | (with_reducible refine Kd.C_drew ?_))); (case aB => exact Q0); (case aF => exact (fun _ _ => trivial)); (case aO => exact (by (with_reducible repeat (first | apply Kd.R_alloc | apply Kd.R_drewN | apply Kd.R_drew)); exact HO361.out)); (case aS => exact (below_size Q0)); (case aL => have := LMc2.out; omega); intro v363 w9 ho hb hg hat; rw [← Ny362.out] at ho; replace BK357 := am (blk_grown (g := gb357) (o := .cells #[.int .i64 a0_0, .int .i64 a0_1, .slice A0_2 l0_2.length c0_2] 34 (0, 0)) u15_4 hg (Kd.R_ne HO361.out BK357.out (by decide))); replace BK358 := am (blk_grown (g := gb358) (o := .cells #[.int .i64 0, .int .i64 0, .slice none 0 0] 34 (0, 0)) u15_9 hg (Kd.R_ne HO361.out BK358.out (by decide))); replace HB := am (hb); have HO364 := am (ho); clear HO361; clear ho hb hg hat; obtain ⟨Ao10, co10, eo10⟩ := Kd.R_slice HO364.out; subst eo10; obtain ⟨hcz11_0, hcz11_1, hcz11_2, hfz11_0, hfz11_1, hfz11_2⟩ := bc3f w9 BK357.out; obtain ⟨hcz12_0, hcz12_1, hcz12_2, hfz12_0, hfz12_1, hfz12_2⟩ := bc3f w9 BK358.out))
 refine bodyPost_ret (results_cell_row rfl _ _ gb358 34 #[.int .i64 a0_0, .int .i64 a0_1, .slice Ao10 y362.length co10] (0, 0) _ rfl (by (with_reducible repeat (first | refine blk_drewN ?_ _ | refine blk_drew ?_ | refine blk_alloc ?_ _)); refine blk_put (cs := #[.int .i64 a0_0, .int .i64 a0_1, .slice none 0 0]) ?_ 2 _ rfl; (with_reducible repeat (first | refine blk_drewN ?_ _ | refine blk_drew ?_ | refine blk_alloc ?_ _)); refine blk_put (cs := #[.int .i64 a0_0, .int .i64 0, .slice none 0 0]) ?_ 1 _ rfl; (with_reducible repeat (first | refine blk_drewN ?_ _ | refine blk_drew ?_ | refine blk_alloc ?_ _)); refine blk_put (cs := #[.int .i64 0, .int .i64 0, .slice none 0 0]) ?_ 0 _ rfl; (with_reducible repeat (first | refine blk_drewN ?_ _ | refine blk_drew ?_ | refine blk_alloc ?_ _)); refine blk_far ?_ NB358_357.out _; (with_reducible repeat (first | refine blk_drewN ?_ _ | refine blk_drew ?_ | refine blk_alloc ?_ _)); exact BK358.out) Try.underlying34 rfl kr) rfl ?_
 exact ⟨_, er, (by (with_reducible repeat (first | apply Kd.R_alloc | apply Kd.R_drewN | apply Kd.R_drew)); exact Kd.R_mono (Kd.R_far (p := ⟨gb358, 2, none⟩) (Kd.R_far (p := ⟨gb358, 1, none⟩) (Kd.R_far (p := ⟨gb358, 0, none⟩) (Kd.R_far (p := ⟨gb357, 2, none⟩) (Kd.R_types (Kd.R_types HO364.out BK357.out (by decide)) BK358.out (by decide)) (fun _ hk => hk.1.2) (.slice Ao10 y362.length co10)) (fun _ hk => hk.2) (.int .i64 a0_0)) (fun _ hk => hk.2) (.int .i64 a0_1)) (fun _ hk => hk.2) (.slice Ao10 y362.length co10)) (fun _ hk => trivial)), Q0⟩

/-! ### impl_copyNode: function 85 -/
def impl_copyNode.f (a0_0 : Int) (a0_1 : Int) (a0_2 : Int) (a0_3 : Int) (a0_4 : Int) (a0_5 : Int) (a0_6 : Int) (l0_7 : List (S85)) (l0_8 : List Int) (l0_9 : List Int) : Option (Int × Int × Int × Int × Int × Int × Int × (List (S85)) × List Int × List Int) := (impl_copyRLog.f a0_5 a0_6 l0_7).bind fun bt367 => ((some (([] : List Int) : List Int)).bind fun y372 => (if y372.length + l0_8.length < 17592186044416 then ((some (([] : List Int) : List Int)).bind fun y378 => (if y378.length + l0_9.length < 17592186044416 then (some (a0_0, a0_1, a0_2, a0_3, a0_4, bt367.1, bt367.2.1, bt367.2.2, (y372 ++ l0_8), (y378 ++ l0_9))) else (none))) else (none)))
set_option maxHeartbeats 8000000 in
set_option maxRecDepth 100000 in
theorem impl_copyNode.calls (a0_0 : Int) (a0_1 : Int) (a0_2 : Int) (a0_3 : Int) (a0_4 : Int) (a0_5 : Int) (a0_6 : Int) (A0_7 : Option Addr) (c0_7 : Nat) (l0_7 : List (S85)) (A0_8 : Option Addr) (c0_8 : Nat) (l0_8 : List Int) (A0_9 : Option Addr) (c0_9 : Nat) (l0_9 : List Int) (r1 : Int) (r2 : Int) (r3 : Int) (r4 : Int) (r5 : Int) (r6 : Int) (r7 : Int) (r8 : List (S85)) (r9 : List Int) (r10 : List Int) (w : World) (hr0_7 : Kd.C k85 w A0_7 l0_7.length l0_7) (hc0_7 : l0_7.length ≤ c0_7) (hr0_8 : Kd.C (Kd.int .i64) w A0_8 l0_8.length l0_8) (hc0_8 : l0_8.length ≤ c0_8) (hr0_9 : Kd.C (Kd.int .i64) w A0_9 l0_9.length l0_9) (hc0_9 : l0_9.length ≤ c0_9) (h : impl_copyNode.f a0_0 a0_1 a0_2 a0_3 a0_4 a0_5 a0_6 l0_7 l0_8 l0_9 = some (r1, r2, r3, r4, r5, r6, r7, r8, r9, r10)) :
   Calls Try.prog 85 #[.agg #[.int .i64 a0_0, .int .i64 a0_1, .int .i64 a0_2, .int .i64 a0_3, .int .i64 a0_4, .int .i64 a0_5, .int .i64 a0_6, .slice A0_7 l0_7.length c0_7, .slice A0_8 l0_8.length c0_8, .slice A0_9 l0_9.length c0_9]] w fun e w' => ∃ v7_ v8_ v9_ : Value, e = .returned (.agg #[.int .i64 r1, .int .i64 r2, .int .i64 r3, .int .i64 r4, .int .i64 r5, .int .i64 r6, .int .i64 r7, v7_, v8_, v9_]) ∧ Kd.R k85 85 w' w.heap.size (fun _ => True) v7_ r8 ∧ Kd.R (Kd.int .i64) 3 w' w.heap.size (fun k_ => some k_ ≠ (v9_ : Value).ownBlock) v8_ r9 ∧ Kd.R (Kd.int .i64) 3 w' w.heap.size (fun k_ => some k_ ≠ (v8_ : Value).ownBlock) v9_ r10 ∧ Below w.heap.size w w' := by
 have hu37 := Try.underlying37
 have hu34 := Try.underlying34
 have HR0_7 := am hr0_7
 have HC0_7 := am hc0_7
 clear hr0_7 hc0_7
 have HR0_8 := am hr0_8
 have HC0_8 := am hc0_8
 clear hr0_8 hc0_8
 have HR0_9 := am hr0_9
 have HC0_9 := am hc0_9
 clear hr0_9 hc0_9
 have HB := am (Below.refl w.heap.size w)
 have H : ((impl_copyRLog.f a0_5 a0_6 l0_7).bind fun bt367 => ((some (([] : List Int) : List Int)).bind fun y372 => (if y372.length + l0_8.length < 17592186044416 then ((some (([] : List Int) : List Int)).bind fun y378 => (if y378.length + l0_9.length < 17592186044416 then (some (a0_0, a0_1, a0_2, a0_3, a0_4, bt367.1, bt367.2.1, bt367.2.2, (y372 ++ l0_8), (y378 ++ l0_9))) else (none))) else (none)))) = some (r1, r2, r3, r4, r5, r6, r7, r8, r9, r10) := h
 clear h
 replace H := Option.bind_eq_some_iff.mp H
 obtain ⟨⟨t367, t368, t369⟩, A20, H⟩ := H
 (try dsimp only at H)
 have A2 := am A20
 clear A20
 obtain ⟨y372, hy372⟩ : ∃ y_ : List Int, y_ = (([] : List Int)) := ⟨_, rfl⟩
 replace H : (if y372.length + l0_8.length < 17592186044416 then ((some (([] : List Int) : List Int)).bind fun y378 => (if y378.length + l0_9.length < 17592186044416 then (some (a0_0, a0_1, a0_2, a0_3, a0_4, t367, t368, t369, (y372 ++ l0_8), (y378 ++ l0_9))) else (none))) else (none)) = some (r1, r2, r3, r4, r5, r6, r7, r8, r9, r10) := by first | (rw [hy372]; with_reducible exact H) | (have H2_ := (Option.bind_some _ _).symm.trans H; rw [hy372]; with_reducible exact H2_) | (have H2_ := (Option.bind_some _ _).symm.trans H; with_reducible exact H2_) | with_reducible exact H | (rw [hy372]; exact H) | exact H
 have Ny372 := am hy372
 clear hy372
 by_cases c3 : y372.length + l0_8.length < 17592186044416
 rotate_left
 · rw [if_neg c3] at H
   exact absurd H (by simp)
 rw [if_pos c3] at H
 have LMc3 := am c3
 clear c3
 obtain ⟨y375, hy375⟩ : ∃ y_ : List Int, y_ = (y372 ++ l0_8) := ⟨_, rfl⟩
 replace H : ((some (([] : List Int) : List Int)).bind fun y378 => (if y378.length + l0_9.length < 17592186044416 then (some (a0_0, a0_1, a0_2, a0_3, a0_4, t367, t368, t369, y375, (y378 ++ l0_9))) else (none))) = some (r1, r2, r3, r4, r5, r6, r7, r8, r9, r10) := by first | (rw [hy375]; with_reducible exact H) | (have H2_ := (Option.bind_some _ _).symm.trans H; rw [hy375]; with_reducible exact H2_) | (have H2_ := (Option.bind_some _ _).symm.trans H; with_reducible exact H2_) | with_reducible exact H | (rw [hy375]; exact H) | exact H
 have Ny375 := am hy375
 clear hy375
 obtain ⟨y378, hy378⟩ : ∃ y_ : List Int, y_ = (([] : List Int)) := ⟨_, rfl⟩
 replace H : (if y378.length + l0_9.length < 17592186044416 then (some (a0_0, a0_1, a0_2, a0_3, a0_4, t367, t368, t369, y375, (y378 ++ l0_9))) else (none)) = some (r1, r2, r3, r4, r5, r6, r7, r8, r9, r10) := by first | (rw [hy378]; with_reducible exact H) | (have H2_ := (Option.bind_some _ _).symm.trans H; rw [hy378]; with_reducible exact H2_) | (have H2_ := (Option.bind_some _ _).symm.trans H; with_reducible exact H2_) | with_reducible exact H | (rw [hy378]; exact H) | exact H
 have Ny378 := am hy378
 clear hy378
 by_cases c4 : y378.length + l0_9.length < 17592186044416
 rotate_left
 · rw [if_neg c4] at H
   exact absurd H (by simp)
 rw [if_pos c4] at H
 have LMc4 := am c4
 clear c4
 obtain ⟨y381, hy381⟩ : ∃ y_ : List Int, y_ = (y378 ++ l0_9) := ⟨_, rfl⟩
 replace H : (some (a0_0, a0_1, a0_2, a0_3, a0_4, t367, t368, t369, y375, y381)) = some (r1, r2, r3, r4, r5, r6, r7, r8, r9, r10) := by first | (rw [hy381]; with_reducible exact H) | (have H2_ := (Option.bind_some _ _).symm.trans H; rw [hy381]; with_reducible exact H2_) | (have H2_ := (Option.bind_some _ _).symm.trans H; with_reducible exact H2_) | with_reducible exact H | (rw [hy381]; exact H) | exact H
 have Ny381 := am hy381
 clear hy381
 simp only [Option.some.injEq, Prod.mk.injEq] at H
 obtain ⟨rfl, rfl, rfl, rfl, rfl, rfl, rfl, rfl, rfl, rfl⟩ := H
 go_enter Try.func85, Try.ntmps85
 go_wp2_with (first | ((with_reducible refine gate_dst (N := 1) rfl ?_); refine box_event ?hg (N := 1) ?hd (cs := #[.int .i64 a0_0, .int .i64 a0_1, .int .i64 a0_2, .int .i64 a0_3, .int .i64 a0_4, .int .i64 a0_5, .int .i64 a0_6, .slice A0_7 l0_7.length c0_7, .slice A0_8 l0_8.length c0_8, .slice A0_9 l0_9.length c0_9]) (t := 37) ?hr ?_; (case hd => rfl); (case hg => rfl); (case hr => first | (go_simp; done) | (go_simp; rfl)); intro gb365 hg w5 hbox hb; have BK365 := am (hbox); have GW365 := am ((by rw [hg]; exact (below_size Q0) : w.heap.size ≤ gb365)); have GE365 := am ((by rw [hg]; exact (below_size Q0) : w.heap.size ≤ gb365)); replace HB := am (below_step Q0 hb); clear hb hbox hg) | ((with_reducible refine gate_dst (N := 2) rfl ?_); refine box_event ?hg (N := 2) ?hd (cs := #[.int .i64 0, .int .i64 0, .int .i64 0, .int .i64 0, .int .i64 0, .int .i64 0, .int .i64 0, .slice none 0 0, .slice none 0 0, .slice none 0 0]) (t := 37) ?hr ?_; (case hd => rfl); (case hg => rfl); (case hr => first | (go_simp; done) | (go_simp; rfl)); intro gb366 hg w6 hbox hb; have BK366 := am (hbox); have GW366 := am ((by rw [hg]; exact (below_size Q0) : w.heap.size ≤ gb366)); have GE366 := am ((by rw [hg]; exact (below_size Q0) : w.heap.size ≤ gb366)); replace HB := am (below_step Q0 hb); have NB365_366 := am ((by rw [hg]; exact Nat.ne_of_lt (blk_lt (g := gb365) (o := .cells #[.int .i64 a0_0, .int .i64 a0_1, .int .i64 a0_2, .int .i64 a0_3, .int .i64 a0_4, .int .i64 a0_5, .int .i64 a0_6, .slice A0_7 l0_7.length c0_7, .slice A0_8 l0_8.length c0_8, .slice A0_9 l0_9.length c0_9] 37 (0, 0)) u15_3) : gb365 ≠ gb366)); have NB366_365 := am ((by rw [hg]; exact Nat.ne_of_gt (blk_lt (g := gb365) (o := .cells #[.int .i64 a0_0, .int .i64 a0_1, .int .i64 a0_2, .int .i64 a0_3, .int .i64 a0_4, .int .i64 a0_5, .int .i64 a0_6, .slice A0_7 l0_7.length c0_7, .slice A0_8 l0_8.length c0_8, .slice A0_9 l0_9.length c0_9] 37 (0, 0)) u15_3) : gb366 ≠ gb365)); replace BK365 := am (blk_below (g := gb365) (o := .cells #[.int .i64 a0_0, .int .i64 a0_1, .int .i64 a0_2, .int .i64 a0_3, .int .i64 a0_4, .int .i64 a0_5, .int .i64 a0_6, .slice A0_7 l0_7.length c0_7, .slice A0_8 l0_8.length c0_8, .slice A0_9 l0_9.length c0_9] 37 (0, 0)) u15_3 hb); clear hb hbox hg; have hnb7 := NB365_366.out; have hnc7 := NB366_365.out; obtain ⟨hcz8_0, hcz8_1, hcz8_2, hcz8_3, hcz8_4, hcz8_5, hcz8_6, hcz8_7, hcz8_8, hcz8_9, hfz8_0, hfz8_1, hfz8_2, hfz8_3, hfz8_4, hfz8_5, hfz8_6, hfz8_7, hfz8_8, hfz8_9⟩ := bc10f w6 BK365.out) | ((with_reducible refine gate_callee (f := 118) rfl ?_); refine goesL_ (some 5) rfl rfl Try.func118 kr rfl #[.agg #[.int .i64 a0_5, .int .i64 a0_6, .slice A0_7 l0_7.length c0_7]] rfl (by (try simp only [List.map_toArray, List.map_cons, List.map_nil]); first | done | rfl | (simp only [List.length_drop, List.length_take]; rfl)) ?_; (with_reducible refine (impl_copyRLog.calls a0_5 a0_6 _ _ l0_7 t367 t368 t369 _ ?side1 ?side2 A2.out).mono ?_); (case side1 => exact (by repeat (first | exact (Kd.C_below HR0_7.out HB.out) | (with_reducible refine Kd.C_alloc ?_ _) | (with_reducible refine Kd.C_drewN ?_ _) | (with_reducible refine Kd.C_drew ?_)))); (case side2 => exact HC0_7.out); rintro e w9 ⟨v370, rfl, ho0, hb⟩; refine ⟨_, rfl, ?_⟩; have HO371 := am (Kd.R_lower ho0 (below_size Q0)); replace BK365 := am (blk_below (g := gb365) (o := .cells #[.int .i64 a0_0, .int .i64 a0_1, .int .i64 a0_2, .int .i64 a0_3, .int .i64 a0_4, .int .i64 a0_5, .int .i64 a0_6, .slice A0_7 l0_7.length c0_7, .slice A0_8 l0_8.length c0_8, .slice A0_9 l0_9.length c0_9] 37 (0, 0)) u15_3 hb); replace BK366 := am (blk_below (g := gb366) (o := .cells #[.int .i64 0, .int .i64 0, .int .i64 0, .int .i64 0, .int .i64 0, .int .i64 0, .int .i64 0, .slice none 0 0, .slice none 0 0, .slice none 0 0] 37 (0, 0)) u15_8 hb); replace HB := am (below_step Q0 hb); (try clear hb); (try clear hb2); (try clear hk); (try clear hi); (try clear ho0); obtain ⟨hcz10_0, hcz10_1, hcz10_2, hcz10_3, hcz10_4, hcz10_5, hcz10_6, hcz10_7, hcz10_8, hcz10_9, hfz10_0, hfz10_1, hfz10_2, hfz10_3, hfz10_4, hfz10_5, hfz10_6, hfz10_7, hfz10_8, hfz10_9⟩ := bc10f w9 BK365.out; obtain ⟨Ao11, co11, eo11⟩ := Kd.R_slice HO371.out; subst eo11) | ((with_reducible refine gate_dst (N := 7) rfl ?_); refine Kd.R_lit (Kd.int .i64) _ 3 ?hg (N := 7) ?hd (xs := ([] : List Int)) (inner := []) (ok := fun _ => True) (okp := fun _ => True) ?hr ?hp (fun _ hk => hk) trivial (Below.refl _ _) (Nat.le_refl _) (by simp) ?_; (case hd => rfl); (case hg => rfl); (case hr => first | (go_simp; done) | (go_simp; rfl)); (case hp => exact (Reps.none _ _)); intro v373 w12 ho13 hb hg_ hnew_; clear hg_ hnew_; (first | rw [← Ny372.out] at ho13 | (simp only [Int.reduceToNat] at ho13; rw [← Ny372.out] at ho13)); replace HO371 := am (Kd.R_below (by (with_reducible repeat (first | apply Kd.R_alloc | apply Kd.R_drewN | apply Kd.R_drew)); exact (Kd.R_mono (Kd.R_far (p := ⟨gb365, 7, none⟩) (Kd.R_far (p := ⟨gb365, 6, none⟩) (Kd.R_far (p := ⟨gb365, 5, none⟩) (Kd.R_types HO371.out BK365.out (by decide)) (fun _ hk => hk.2) (.int .i64 t367)) (fun _ hk => hk.2) (.int .i64 t368)) (fun _ hk => hk.2) (.slice Ao11 t369.length co11)) (fun _ h_ => h_.1))) hb); have HO374 := am (Kd.R_lower ho13 (below_size Q0)); replace BK365 := am (blk_below (g := gb365) (o := .cells #[.int .i64 a0_0, .int .i64 a0_1, .int .i64 a0_2, .int .i64 a0_3, .int .i64 a0_4, .int .i64 t367, .int .i64 t368, .slice Ao11 t369.length co11, .slice A0_8 l0_8.length c0_8, .slice A0_9 l0_9.length c0_9] 37 (0, 0)) (by (with_reducible repeat (first | refine blk_drewN ?_ _ | refine blk_drew ?_ | refine blk_alloc ?_ _)); refine blk_put (cs := #[.int .i64 a0_0, .int .i64 a0_1, .int .i64 a0_2, .int .i64 a0_3, .int .i64 a0_4, .int .i64 t367, .int .i64 t368, .slice A0_7 l0_7.length c0_7, .slice A0_8 l0_8.length c0_8, .slice A0_9 l0_9.length c0_9]) ?_ 7 _ rfl; (with_reducible repeat (first | refine blk_drewN ?_ _ | refine blk_drew ?_ | refine blk_alloc ?_ _)); refine blk_put (cs := #[.int .i64 a0_0, .int .i64 a0_1, .int .i64 a0_2, .int .i64 a0_3, .int .i64 a0_4, .int .i64 t367, .int .i64 a0_6, .slice A0_7 l0_7.length c0_7, .slice A0_8 l0_8.length c0_8, .slice A0_9 l0_9.length c0_9]) ?_ 6 _ rfl; (with_reducible repeat (first | refine blk_drewN ?_ _ | refine blk_drew ?_ | refine blk_alloc ?_ _)); refine blk_put (cs := #[.int .i64 a0_0, .int .i64 a0_1, .int .i64 a0_2, .int .i64 a0_3, .int .i64 a0_4, .int .i64 a0_5, .int .i64 a0_6, .slice A0_7 l0_7.length c0_7, .slice A0_8 l0_8.length c0_8, .slice A0_9 l0_9.length c0_9]) ?_ 5 _ rfl; (with_reducible repeat (first | refine blk_drewN ?_ _ | refine blk_drew ?_ | refine blk_alloc ?_ _)); exact BK365.out) hb); replace BK366 := am (blk_below (g := gb366) (o := .cells #[.int .i64 0, .int .i64 0, .int .i64 0, .int .i64 0, .int .i64 0, .int .i64 0, .int .i64 0, .slice none 0 0, .slice none 0 0, .slice none 0 0] 37 (0, 0)) (by (with_reducible repeat (first | refine blk_drewN ?_ _ | refine blk_drew ?_ | refine blk_alloc ?_ _)); refine blk_far ?_ NB366_365.out _; (with_reducible repeat (first | refine blk_drewN ?_ _ | refine blk_drew ?_ | refine blk_alloc ?_ _)); refine blk_far ?_ NB366_365.out _; (with_reducible repeat (first | refine blk_drewN ?_ _ | refine blk_drew ?_ | refine blk_alloc ?_ _)); refine blk_far ?_ NB366_365.out _; (with_reducible repeat (first | refine blk_drewN ?_ _ | refine blk_drew ?_ | refine blk_alloc ?_ _)); exact BK366.out) hb); replace HB := am (below_step Q0 hb); clear hb ho13; obtain ⟨hcz14_0, hcz14_1, hcz14_2, hcz14_3, hcz14_4, hcz14_5, hcz14_6, hcz14_7, hcz14_8, hcz14_9, hfz14_0, hfz14_1, hfz14_2, hfz14_3, hfz14_4, hfz14_5, hfz14_6, hfz14_7, hfz14_8, hfz14_9⟩ := bc10f w12 BK365.out) | ((with_reducible refine gate_builtin (b := .append) (xs := #[.tmp 7, .tmp 9]) rfl ?_); at_builtin; refine Kd.R_append_rows (Kd.int .i64) (w0 := w) w.heap.size rfl (.tmp 7) (.tmp 9) 35 3 (.int .i64 0) 8 rfl Try.underlying35 info3 rfl (by decide) (by omega) v373 y372 l0_8 _ _ _ (fun _ => True) (fun _ => False) rfl rfl ?aO ?aR (fun _ _ h => h) (fun _ h => h.elim) ?aF ?aB ?aS ?aL ?_; (case aR => repeat (first | exact (Kd.C_below HR0_8.out HB.out) | (with_reducible refine Kd.C_alloc ?_ _) | (with_reducible refine Kd.C_drewN ?_ _) | (with_reducible refine Kd.C_drew ?_))); (case aB => exact Q0); (case aF => exact (fun _ _ => trivial)); (case aO => exact u15_10); (case aS => exact (below_size Q0)); (case aL => have := LMc3.out; omega); intro v376 w15 ho hb hg hat; rw [← Ny375.out] at ho; replace BK365 := am (blk_grown (g := gb365) (o := .cells #[.int .i64 a0_0, .int .i64 a0_1, .int .i64 a0_2, .int .i64 a0_3, .int .i64 a0_4, .int .i64 t367, .int .i64 t368, .slice Ao11 t369.length co11, .slice A0_8 l0_8.length c0_8, .slice A0_9 l0_9.length c0_9] 37 (0, 0)) u15_3 hg (Kd.R_ne HO374.out BK365.out (by decide))); replace BK366 := am (blk_grown (g := gb366) (o := .cells #[.int .i64 0, .int .i64 0, .int .i64 0, .int .i64 0, .int .i64 0, .int .i64 0, .int .i64 0, .slice none 0 0, .slice none 0 0, .slice none 0 0] 37 (0, 0)) u15_8 hg (Kd.R_ne HO374.out BK366.out (by decide))); replace HO371 := am (Kd.R_over' u15_11 (Kd.R_typed u15_10) (by decide) hg); replace HB := am (hb); have HO377 := am (ho); clear HO374; clear ho hb hg hat; obtain ⟨Ao16, co16, eo16⟩ := Kd.R_slice HO377.out; subst eo16; obtain ⟨hcz17_0, hcz17_1, hcz17_2, hcz17_3, hcz17_4, hcz17_5, hcz17_6, hcz17_7, hcz17_8, hcz17_9, hfz17_0, hfz17_1, hfz17_2, hfz17_3, hfz17_4, hfz17_5, hfz17_6, hfz17_7, hfz17_8, hfz17_9⟩ := bc10f w15 BK365.out) | ((with_reducible refine gate_dst (N := 12) rfl ?_); refine Kd.R_lit (Kd.int .i64) _ 3 ?hg (N := 12) ?hd (xs := ([] : List Int)) (inner := []) (ok := fun _ => True) (okp := fun _ => True) ?hr ?hp (fun _ hk => hk) trivial (Below.refl _ _) (Nat.le_refl _) (by simp) ?_; (case hd => rfl); (case hg => rfl); (case hr => first | (go_simp; done) | (go_simp; rfl)); (case hp => exact (Reps.none _ _)); intro v379 w18 ho19 hb hg_ hnew_; clear hg_ hnew_; (first | rw [← Ny378.out] at ho19 | (simp only [Int.reduceToNat] at ho19; rw [← Ny378.out] at ho19)); replace HO371 := am (Kd.R_below (by (with_reducible repeat (first | apply Kd.R_alloc | apply Kd.R_drewN | apply Kd.R_drew)); exact (Kd.R_mono (Kd.R_far (p := ⟨gb365, 8, none⟩) (Kd.R_types HO371.out BK365.out (by decide)) (fun _ hk => hk.2) (.slice Ao16 y375.length co16)) (fun _ h_ => h_.1))) hb); have HO380 := am (Kd.R_lower (Kd.R_new' ho19 (Kd.R_lt u15_7)) (below_size Q0)); replace HO377 := am (Kd.R_elder' u15_7 (Kd.R_base ho19) hb); replace BK365 := am (blk_below (g := gb365) (o := .cells #[.int .i64 a0_0, .int .i64 a0_1, .int .i64 a0_2, .int .i64 a0_3, .int .i64 a0_4, .int .i64 t367, .int .i64 t368, .slice Ao11 t369.length co11, .slice Ao16 y375.length co16, .slice A0_9 l0_9.length c0_9] 37 (0, 0)) (by (with_reducible repeat (first | refine blk_drewN ?_ _ | refine blk_drew ?_ | refine blk_alloc ?_ _)); refine blk_put (cs := #[.int .i64 a0_0, .int .i64 a0_1, .int .i64 a0_2, .int .i64 a0_3, .int .i64 a0_4, .int .i64 t367, .int .i64 t368, .slice Ao11 t369.length co11, .slice A0_8 l0_8.length c0_8, .slice A0_9 l0_9.length c0_9]) ?_ 8 _ rfl; (with_reducible repeat (first | refine blk_drewN ?_ _ | refine blk_drew ?_ | refine blk_alloc ?_ _)); exact BK365.out) hb); replace BK366 := am (blk_below (g := gb366) (o := .cells #[.int .i64 0, .int .i64 0, .int .i64 0, .int .i64 0, .int .i64 0, .int .i64 0, .int .i64 0, .slice none 0 0, .slice none 0 0, .slice none 0 0] 37 (0, 0)) (by (with_reducible repeat (first | refine blk_drewN ?_ _ | refine blk_drew ?_ | refine blk_alloc ?_ _)); refine blk_far ?_ NB366_365.out _; (with_reducible repeat (first | refine blk_drewN ?_ _ | refine blk_drew ?_ | refine blk_alloc ?_ _)); exact BK366.out) hb); replace HB := am (below_step Q0 hb); clear hb ho19; obtain ⟨hcz20_0, hcz20_1, hcz20_2, hcz20_3, hcz20_4, hcz20_5, hcz20_6, hcz20_7, hcz20_8, hcz20_9, hfz20_0, hfz20_1, hfz20_2, hfz20_3, hfz20_4, hfz20_5, hfz20_6, hfz20_7, hfz20_8, hfz20_9⟩ := bc10f w18 BK365.out) | ((with_reducible refine gate_builtin (b := .append) (xs := #[.tmp 12, .tmp 14]) rfl ?_); at_builtin; refine Kd.R_append_rows (Kd.int .i64) (w0 := w) w.heap.size rfl (.tmp 12) (.tmp 14) 35 3 (.int .i64 0) 8 rfl Try.underlying35 info3 rfl (by decide) (by omega) v379 y378 l0_9 _ _ _ (fun k_ => some k_ ≠ (.slice Ao16 y375.length co16 : Value).ownBlock) (fun _ => False) rfl rfl ?aO ?aR (fun _ _ h => h) (fun _ h => h.elim) ?aF ?aB ?aS ?aL ?_; (case aR => repeat (first | exact (Kd.C_below HR0_9.out HB.out) | (with_reducible refine Kd.C_alloc ?_ _) | (with_reducible refine Kd.C_drewN ?_ _) | (with_reducible refine Kd.C_drew ?_))); (case aB => exact Q0); (case aF => exact (fun k_ hk => Kd.fresh' (Kd.R_lt u15_12) k_ hk)); (case aO => exact (by (with_reducible repeat (first | apply Kd.R_alloc | apply Kd.R_drewN | apply Kd.R_drew)); exact Kd.R_mono HO380.out (fun _ hk => hk.2))); (case aS => exact (below_size Q0)); (case aL => have := LMc4.out; omega); intro v382 w21 ho hb hg hat; rw [← Ny381.out] at ho; replace BK365 := am (blk_grown (g := gb365) (o := .cells #[.int .i64 a0_0, .int .i64 a0_1, .int .i64 a0_2, .int .i64 a0_3, .int .i64 a0_4, .int .i64 t367, .int .i64 t368, .slice Ao11 t369.length co11, .slice Ao16 y375.length co16, .slice A0_9 l0_9.length c0_9] 37 (0, 0)) u15_3 hg (Kd.R_ne HO380.out BK365.out (by decide))); replace BK366 := am (blk_grown (g := gb366) (o := .cells #[.int .i64 0, .int .i64 0, .int .i64 0, .int .i64 0, .int .i64 0, .int .i64 0, .int .i64 0, .slice none 0 0, .slice none 0 0, .slice none 0 0] 37 (0, 0)) u15_8 hg (Kd.R_ne HO380.out BK366.out (by decide))); replace HO371 := am (Kd.R_over' u15_11 (Kd.R_typed (by (with_reducible repeat (first | apply Kd.R_alloc | apply Kd.R_drewN | apply Kd.R_drew)); exact HO380.out)) (by decide) hg); replace HO377 := am (Kd.R_after (ok := (fun _ => True)) u15_12 hg hat); replace HB := am (hb); have HO383 := am (ho); clear HO380; clear ho hb hg hat; obtain ⟨Ao22, co22, eo22⟩ := Kd.R_slice HO383.out; subst eo22; obtain ⟨hcz23_0, hcz23_1, hcz23_2, hcz23_3, hcz23_4, hcz23_5, hcz23_6, hcz23_7, hcz23_8, hcz23_9, hfz23_0, hfz23_1, hfz23_2, hfz23_3, hfz23_4, hfz23_5, hfz23_6, hfz23_7, hfz23_8, hfz23_9⟩ := bc10f w21 BK365.out; obtain ⟨hcz24_0, hcz24_1, hcz24_2, hcz24_3, hcz24_4, hcz24_5, hcz24_6, hcz24_7, hcz24_8, hcz24_9, hfz24_0, hfz24_1, hfz24_2, hfz24_3, hfz24_4, hfz24_5, hfz24_6, hfz24_7, hfz24_8, hfz24_9⟩ := bc10f w21 BK366.out))
 refine bodyPost_ret (results_cell_row rfl _ _ gb366 37 #[.int .i64 a0_0, .int .i64 a0_1, .int .i64 a0_2, .int .i64 a0_3, .int .i64 a0_4, .int .i64 t367, .int .i64 t368, .slice Ao11 t369.length co11, .slice Ao16 y375.length co16, .slice Ao22 y381.length co22] (0, 0) _ rfl (by (with_reducible repeat (first | refine blk_drewN ?_ _ | refine blk_drew ?_ | refine blk_alloc ?_ _)); refine blk_put (cs := #[.int .i64 a0_0, .int .i64 a0_1, .int .i64 a0_2, .int .i64 a0_3, .int .i64 a0_4, .int .i64 t367, .int .i64 t368, .slice Ao11 t369.length co11, .slice Ao16 y375.length co16, .slice none 0 0]) ?_ 9 _ rfl; (with_reducible repeat (first | refine blk_drewN ?_ _ | refine blk_drew ?_ | refine blk_alloc ?_ _)); refine blk_put (cs := #[.int .i64 a0_0, .int .i64 a0_1, .int .i64 a0_2, .int .i64 a0_3, .int .i64 a0_4, .int .i64 t367, .int .i64 t368, .slice Ao11 t369.length co11, .slice none 0 0, .slice none 0 0]) ?_ 8 _ rfl; (with_reducible repeat (first | refine blk_drewN ?_ _ | refine blk_drew ?_ | refine blk_alloc ?_ _)); refine blk_put (cs := #[.int .i64 a0_0, .int .i64 a0_1, .int .i64 a0_2, .int .i64 a0_3, .int .i64 a0_4, .int .i64 t367, .int .i64 t368, .slice none 0 0, .slice none 0 0, .slice none 0 0]) ?_ 7 _ rfl; (with_reducible repeat (first | refine blk_drewN ?_ _ | refine blk_drew ?_ | refine blk_alloc ?_ _)); refine blk_put (cs := #[.int .i64 a0_0, .int .i64 a0_1, .int .i64 a0_2, .int .i64 a0_3, .int .i64 a0_4, .int .i64 t367, .int .i64 0, .slice none 0 0, .slice none 0 0, .slice none 0 0]) ?_ 6 _ rfl; (with_reducible repeat (first | refine blk_drewN ?_ _ | refine blk_drew ?_ | refine blk_alloc ?_ _)); refine blk_put (cs := #[.int .i64 a0_0, .int .i64 a0_1, .int .i64 a0_2, .int .i64 a0_3, .int .i64 a0_4, .int .i64 0, .int .i64 0, .slice none 0 0, .slice none 0 0, .slice none 0 0]) ?_ 5 _ rfl; (with_reducible repeat (first | refine blk_drewN ?_ _ | refine blk_drew ?_ | refine blk_alloc ?_ _)); refine blk_put (cs := #[.int .i64 a0_0, .int .i64 a0_1, .int .i64 a0_2, .int .i64 a0_3, .int .i64 0, .int .i64 0, .int .i64 0, .slice none 0 0, .slice none 0 0, .slice none 0 0]) ?_ 4 _ rfl; (with_reducible repeat (first | refine blk_drewN ?_ _ | refine blk_drew ?_ | refine blk_alloc ?_ _)); refine blk_put (cs := #[.int .i64 a0_0, .int .i64 a0_1, .int .i64 a0_2, .int .i64 0, .int .i64 0, .int .i64 0, .int .i64 0, .slice none 0 0, .slice none 0 0, .slice none 0 0]) ?_ 3 _ rfl; (with_reducible repeat (first | refine blk_drewN ?_ _ | refine blk_drew ?_ | refine blk_alloc ?_ _)); refine blk_put (cs := #[.int .i64 a0_0, .int .i64 a0_1, .int .i64 0, .int .i64 0, .int .i64 0, .int .i64 0, .int .i64 0, .slice none 0 0, .slice none 0 0, .slice none 0 0]) ?_ 2 _ rfl; (with_reducible repeat (first | refine blk_drewN ?_ _ | refine blk_drew ?_ | refine blk_alloc ?_ _)); refine blk_put (cs := #[.int .i64 a0_0, .int .i64 0, .int .i64 0, .int .i64 0, .int .i64 0, .int .i64 0, .int .i64 0, .slice none 0 0, .slice none 0 0, .slice none 0 0]) ?_ 1 _ rfl; (with_reducible repeat (first | refine blk_drewN ?_ _ | refine blk_drew ?_ | refine blk_alloc ?_ _)); refine blk_put (cs := #[.int .i64 0, .int .i64 0, .int .i64 0, .int .i64 0, .int .i64 0, .int .i64 0, .int .i64 0, .slice none 0 0, .slice none 0 0, .slice none 0 0]) ?_ 0 _ rfl; (with_reducible repeat (first | refine blk_drewN ?_ _ | refine blk_drew ?_ | refine blk_alloc ?_ _)); refine blk_far ?_ NB366_365.out _; (with_reducible repeat (first | refine blk_drewN ?_ _ | refine blk_drew ?_ | refine blk_alloc ?_ _)); exact BK366.out) Try.underlying37 rfl kr) rfl ?_
 exact ⟨_, _, _, er, (by (with_reducible repeat (first | apply Kd.R_alloc | apply Kd.R_drewN | apply Kd.R_drew)); exact Kd.R_mono (Kd.R_far (p := ⟨gb366, 9, none⟩) (Kd.R_far (p := ⟨gb366, 8, none⟩) (Kd.R_far (p := ⟨gb366, 7, none⟩) (Kd.R_far (p := ⟨gb366, 6, none⟩) (Kd.R_far (p := ⟨gb366, 5, none⟩) (Kd.R_far (p := ⟨gb366, 4, none⟩) (Kd.R_far (p := ⟨gb366, 3, none⟩) (Kd.R_far (p := ⟨gb366, 2, none⟩) (Kd.R_far (p := ⟨gb366, 1, none⟩) (Kd.R_far (p := ⟨gb366, 0, none⟩) (Kd.R_far (p := ⟨gb365, 9, none⟩) (Kd.R_types (Kd.R_types HO371.out BK365.out (by decide)) BK366.out (by decide)) (fun _ hk => hk.1.2) (.slice Ao22 y381.length co22)) (fun _ hk => hk.2) (.int .i64 a0_0)) (fun _ hk => hk.2) (.int .i64 a0_1)) (fun _ hk => hk.2) (.int .i64 a0_2)) (fun _ hk => hk.2) (.int .i64 a0_3)) (fun _ hk => hk.2) (.int .i64 a0_4)) (fun _ hk => hk.2) (.int .i64 t367)) (fun _ hk => hk.2) (.int .i64 t368)) (fun _ hk => hk.2) (.slice Ao11 t369.length co11)) (fun _ hk => hk.2) (.slice Ao16 y375.length co16)) (fun _ hk => hk.2) (.slice Ao22 y381.length co22)) (fun _ hk => trivial)), (by (with_reducible repeat (first | apply Kd.R_alloc | apply Kd.R_drewN | apply Kd.R_drew)); exact Kd.R_mono (Kd.R_far (p := ⟨gb366, 9, none⟩) (Kd.R_far (p := ⟨gb366, 8, none⟩) (Kd.R_far (p := ⟨gb366, 7, none⟩) (Kd.R_far (p := ⟨gb366, 6, none⟩) (Kd.R_far (p := ⟨gb366, 5, none⟩) (Kd.R_far (p := ⟨gb366, 4, none⟩) (Kd.R_far (p := ⟨gb366, 3, none⟩) (Kd.R_far (p := ⟨gb366, 2, none⟩) (Kd.R_far (p := ⟨gb366, 1, none⟩) (Kd.R_far (p := ⟨gb366, 0, none⟩) (Kd.R_far (p := ⟨gb365, 9, none⟩) (Kd.R_types (Kd.R_types HO377.out BK365.out (by decide)) BK366.out (by decide)) (fun _ hk => hk.1.2) (.slice Ao22 y381.length co22)) (fun _ hk => hk.2) (.int .i64 a0_0)) (fun _ hk => hk.2) (.int .i64 a0_1)) (fun _ hk => hk.2) (.int .i64 a0_2)) (fun _ hk => hk.2) (.int .i64 a0_3)) (fun _ hk => hk.2) (.int .i64 a0_4)) (fun _ hk => hk.2) (.int .i64 t367)) (fun _ hk => hk.2) (.int .i64 t368)) (fun _ hk => hk.2) (.slice Ao11 t369.length co11)) (fun _ hk => hk.2) (.slice Ao16 y375.length co16)) (fun _ hk => hk.2) (.slice Ao22 y381.length co22)) (fun _ hk => hk.1.1.2)), (by (with_reducible repeat (first | apply Kd.R_alloc | apply Kd.R_drewN | apply Kd.R_drew)); exact Kd.R_mono (Kd.R_far (p := ⟨gb366, 9, none⟩) (Kd.R_far (p := ⟨gb366, 8, none⟩) (Kd.R_far (p := ⟨gb366, 7, none⟩) (Kd.R_far (p := ⟨gb366, 6, none⟩) (Kd.R_far (p := ⟨gb366, 5, none⟩) (Kd.R_far (p := ⟨gb366, 4, none⟩) (Kd.R_far (p := ⟨gb366, 3, none⟩) (Kd.R_far (p := ⟨gb366, 2, none⟩) (Kd.R_far (p := ⟨gb366, 1, none⟩) (Kd.R_far (p := ⟨gb366, 0, none⟩) (Kd.R_far (p := ⟨gb365, 9, none⟩) (Kd.R_types (Kd.R_types HO383.out BK365.out (by decide)) BK366.out (by decide)) (fun _ hk => hk.1.2) (.slice Ao22 y381.length co22)) (fun _ hk => hk.2) (.int .i64 a0_0)) (fun _ hk => hk.2) (.int .i64 a0_1)) (fun _ hk => hk.2) (.int .i64 a0_2)) (fun _ hk => hk.2) (.int .i64 a0_3)) (fun _ hk => hk.2) (.int .i64 a0_4)) (fun _ hk => hk.2) (.int .i64 t367)) (fun _ hk => hk.2) (.int .i64 t368)) (fun _ hk => hk.2) (.slice Ao11 t369.length co11)) (fun _ hk => hk.2) (.slice Ao16 y375.length co16)) (fun _ hk => hk.2) (.slice Ao22 y381.length co22)) (fun _ hk => hk.1.1)), Q0⟩

/-! ### impl_Node_lead: function 100 -/
/-! ### impl_Node_lead: function 100, on a variable in memory -/
theorem kept_elder_ {α : Type} {d : Kd α} {e base g t : Nat} {ok : Nat → Prop} {W w1 : World} {u v : Value} {xs : List α} {cs : Array Value}
   (h : d.R e W base ok u xs) (hb : W.heap[g]? = some (.cells cs t (0, 0))) (ht : ∀ q : Nat, q ∈ e :: d.E → q ≠ t) (hk : Kept W w1 (fun k => k = g))
   (hv : ∀ k, v.ownBlock = some k → W.heap.size ≤ k) : d.R e w1 base (fun k => ok k ∧ some k ≠ v.ownBlock) u xs :=
 Kd.R_mono (Kd.R_kept (Kd.R_bound (Kd.R_types h hb ht)) hk (fun _ hk_ e_ => hk_.1.2 e_)) (fun _ hk_ => ⟨hk_.1.1, fun e_ => Nat.lt_irrefl _ (Nat.lt_of_lt_of_le hk_.2.2.1 (hv _ e_.symm))⟩)
theorem below_two_ {n : Nat} {w W w2 : World} (h : Below n w W) (h2 : Below n W w2) : Below n w w2 := h.trans h2
theorem impl_Node_lead.low {α : Type} {d : Kd α} {e : Nat} {ok S : Nat → Prop} {w W w1 : World} {v : Value} {xs : List α} (hk : Kept w W S) (h : d.R e w1 W.heap.size ok v xs) : d.R e w1 w.heap.size ok v xs := Kd.R_lower h hk.1
theorem impl_Node_lead.bel {n : Nat} {S : Nat → Prop} {w W w1 : World} (h : Below n w W) (hk : Kept w W S) (hn : n ≤ w.heap.size) (hb : Below W.heap.size W w1) : Below n w w1 := h.trans (hb.mono (Nat.le_trans hn hk.1))
set_option maxHeartbeats 8000000 in
set_option maxRecDepth 100000 in
theorem impl_Node_lead.last_calls (a b : Int) (A : Option Addr) (n c : Nat) (w : World) :
   Calls Try.prog 89 #[.agg #[.int .i64 a, .int .i64 b, .slice A n c]] w fun e w' => e = .returned (.int .i64 (wrap64 (a + (n : Int)))) ∧ Below w.heap.size w w' := by
 have hu34 := Try.underlying34
 have HB := am (Below.refl w.heap.size w)
 go_enter Try.func89, Try.ntmps89
 go_wp2_with (first | ((with_reducible refine gate_dst (N := 1) rfl ?_); refine box_event ?hg (N := 1) ?hd (cs := #[.int .i64 a, .int .i64 b, .slice A n c]) (t := 34) ?hr ?_; (case hd => rfl); (case hg => rfl); (case hr => first | (go_simp; done) | (go_simp; rfl)); intro gb hg w2 hbox hb; have n0_ := am (below_step u15_13 hb); have n1_ := am (hbox); have GE := am ((by rw [hg]; exact (below_size u15_13) : w.heap.size ≤ gb)); clear HB; have HB := n0_; have BK := n1_; clear n0_ n1_; clear hb hbox hg; have hcz_0 : w2.cell? ⟨gb, 0, none⟩ = some (.int .i64 a) := (blk_cell BK.out 0).trans rfl; have hcz_2 : w2.cell? ⟨gb, 2, none⟩ = some (.slice A n c) := (blk_cell BK.out 2).trans rfl; have hfz_0 := blk_frozen BK.out 0; have hfz_2 := blk_frozen BK.out 2))
 go_ret
 exact ⟨rfl, (by repeat (first | (with_reducible first | exact HB.out | apply below_alloc | apply pw_below_drewN | apply below_drew1 | refine below_set ?_ GE.out) | exact HB.out))⟩
def impl_Node_lead.f (s0 _s1 _s2 _s3 _s4 s5 _s6 : Int) (l7 : List S85) (_l8 _l9 : List Int) (a1 : Int) : Option (List Int) := if 0 ≤ a1 then (if a1.toNat ≤ 35184372088832 then (if 0 ≤ s0 then (if s0 < (a1.toNat : Int) then some ((List.replicate a1.toNat (0 : Int)).set s0.toNat (wrap64 (s5 + (l7.length : Int)))) else none) else none) else none) else none
def impl_Node_lead.T3 : Bool × List (List Nat × List Nat) := (true, [([], []), ([0], [0]), ([1], [1]), ([2], [2]), ([], []), ([4], [4]), ([5], [5]), ([6], [6]), ([], []), ([8], [8]), ([9], [9]), ([10], [10]), ([11], [11]), ([3, 7, 0, 1, 2, 3, 4, 5, 6, 7, 8, 9, 10, 11, 12], [3, 7]), ([13, 12, 12, 0, 1, 2, 3, 4, 5, 6, 7, 8, 9, 10, 11, 12], [12, 13])])
def impl_Node_lead.B3 : List Nat := [0, 1, 3, 7, 0, 16, 48, 112, 0, 256, 768, 1792, 3840, 8191, 16383]
theorem impl_Node_lead.tab3 : rtab .any (opsOf Try.f100 3) = impl_Node_lead.T3 := by kernel_rfl
theorem impl_Node_lead.bits3 : waitsOk impl_Node_lead.T3.2 impl_Node_lead.B3 = true := by kernel_rfl
set_option maxHeartbeats 8000000 in
set_option maxRecDepth 100000 in
theorem impl_Node_lead.calls (g N : Nat) (s0 s1 s2 s3 s4 s5 s6 : Int) (A7 : Option Addr) (c7 : Nat) (l7 : List S85) (A8 : Option Addr) (c8 : Nat) (l8 : List Int) (A9 : Option Addr) (c9 : Nat) (l9 : List Int) (a1 : Int) (r : List Int) (w : World) (hN : N ≤ g) (hb0 : w.heap[g]? = some (.cells #[.int .i64 s0, .int .i64 s1, .int .i64 s2, .int .i64 s3, .int .i64 s4, .int .i64 s5, .int .i64 s6, .slice A7 l7.length c7, .slice A8 l8.length c8, .slice A9 l9.length c9] 37 (0, 0))) (h : impl_Node_lead.f s0 s1 s2 s3 s4 s5 s6 l7 l8 l9 a1 = some r) :
   Calls Try.prog 100 #[.pointer (some ⟨g, 0, none⟩), .int .i64 a1] w fun e w' => ∃ v : Value, e = .returned (.tuple #[]) ∧ Kd.R (Kd.int .i64) 3 w' w.heap.size (fun _ => True) v r ∧ w'.heap[g]? = some (.cells #[.int .i64 s0, .int .i64 s1, .int .i64 s2, .int .i64 2, .int .i64 s4, .int .i64 s5, .int .i64 s6, .slice A7 l7.length c7, .slice none 0 0, v] 37 (0, 0)) ∧ Below N w w' ∧ Kept w w' (fun k_ => k_ = g) := by
 have hu37 := Try.underlying37
 have hu34 := Try.underlying34
 have hgw : g < w.heap.size := blk_lt hb0
 have GE := am hN
 have GW := am hgw
 have GS : Aside0 ((fun k_ : Nat => k_ = g) g) := ⟨rfl⟩
 have BK := am hb0
 have HK := am (Kept.refl w (fun k_ => k_ = g))
 have HB := am (Below.refl N w)
 unfold impl_Node_lead.f at h
 by_cases c1 : 0 ≤ a1
 rotate_left
 · rw [if_neg c1] at h; exact absurd h (by simp)
 rw [if_pos c1] at h
 by_cases c2 : a1.toNat ≤ 35184372088832
 rotate_left
 · rw [if_neg c2] at h; exact absurd h (by simp)
 rw [if_pos c2] at h
 by_cases c3 : 0 ≤ s0
 rotate_left
 · rw [if_neg c3] at h; exact absurd h (by simp)
 rw [if_pos c3] at h
 by_cases c4 : s0 < (a1.toNat : Int)
 rotate_left
 · rw [if_neg c4] at h; exact absurd h (by simp)
 rw [if_pos c4] at h
 have hr := am (Option.some.inj h)
 clear h hb0 hN
 have hcA_3 : w.cell? ⟨g, 3, none⟩ = some (.int .i64 s3) := (blk_cell BK.out 3).trans rfl
 have hcA_8 : w.cell? ⟨g, 8, none⟩ = some (.slice A8 l8.length c8) := (blk_cell BK.out 8).trans rfl
 have hcA_9 : w.cell? ⟨g, 9, none⟩ = some (.slice A9 l9.length c9) := (blk_cell BK.out 9).trans rfl
 have hfA_3 := blk_frozen BK.out 3
 have hfA_8 := blk_frozen BK.out 8
 have hfA_9 := blk_frozen BK.out 9
 obtain ⟨y, hy⟩ : ∃ y_ : List Int, y_ = List.replicate a1.toNat (0 : Int) := ⟨_, rfl⟩
 have hyl := am (show y.length = a1.toNat by rw [hy, List.length_replicate])
 have Ny := am hy
 clear hy
 obtain ⟨W1, hW1⟩ : ∃ W_ : World, W_ = ((w.setCell ⟨g, 3, none⟩ (.int .i64 2)).setCell ⟨g, 8, none⟩ (.slice none 0 0)) := ⟨_, rfl⟩
 have HKW := am (show Kept w W1 (fun k_ => k_ = g) by rw [hW1]; exact Kept.setCell (Kept.setCell HK.out (.inl rfl) _) (.inl rfl) _)
 have BKW := am (show W1.heap[g]? = some (.cells #[.int .i64 s0, .int .i64 s1, .int .i64 s2, .int .i64 2, .int .i64 s4, .int .i64 s5, .int .i64 s6, .slice A7 l7.length c7, .slice none 0 0, .slice A9 l9.length c9] 37 (0, 0)) by rw [hW1]; exact blk_put (cs := #[.int .i64 s0, .int .i64 s1, .int .i64 s2, .int .i64 2, .int .i64 s4, .int .i64 s5, .int .i64 s6, .slice A7 l7.length c7, .slice A8 l8.length c8, .slice A9 l9.length c9]) (blk_put (cs := #[.int .i64 s0, .int .i64 s1, .int .i64 s2, .int .i64 s3, .int .i64 s4, .int .i64 s5, .int .i64 s6, .slice A7 l7.length c7, .slice A8 l8.length c8, .slice A9 l9.length c9]) BK.out 3 _ rfl) 8 _ rfl)
 have HBW := am (show Below N w W1 by rw [hW1]; exact Below.setCell (Below.setCell HB.out GE.out _) GE.out _)
 have HW1 := am hW1
 clear hW1
 go_enter Try.func100, Try.ntmps100
 try go_wp2_with (first | ((with_reducible refine gate_dst (N := 12) rfl ?_); rw [← HW1.out]; refine Kd.R_make (Kd.int .i64) _ 3 rfl (N := 12) rfl 35 _ _ rfl a1 rfl rfl Try.underlying35 (.int .i64 0) 8 info3 rfl (by decide) (by omega) 0 (ok := fun _ => True) (okp := fun _ => True) rfl (fun _ hk => hk) trivial c1 (Nat.le_trans (Nat.mul_le_mul_right _ c2) (by omega)) (Below.refl _ _) (Nat.le_refl _) ?_; intro v w14 ho hb hg_ hnew_; clear hg_ hnew_; rw [← Ny.out] at ho; have HO := am (impl_Node_lead.low HKW.out ho); have n1 := am (blk_below BKW.out hb); have n2 := am (Kept.below HKW.out hb); have n3 := am (impl_Node_lead.bel HBW.out HKW.out (Nat.le_trans GE.out (Nat.le_of_lt GW.out)) hb); clear HK HB BK HKW BKW HBW HW1 hb ho; have BK := n1; have HK := n2; have HB := n3; clear n1 n2 n3; obtain ⟨Ao, co, eo⟩ := Kd.R_slice HO.out; subst eo; have hcB_9 : w14.cell? ⟨g, 9, none⟩ = some (.slice A9 l9.length c9) := (blk_cell BK.out 9).trans rfl; have hfB_9 := blk_frozen BK.out 9))
 have n0_ : Aside0 (Kd.R (Kd.int .i64) 3 (w14.setCell ⟨g, 9, none⟩ (.slice Ao y.length co)) w.heap.size (fun _ => True) (.slice Ao y.length co) y) := ⟨Kd.R_mono (Kd.R_far (p := ⟨g, 9, none⟩) (Kd.R_types HO.out BK.out (by decide)) (fun _ hk => hk.2) (.slice Ao y.length co)) (fun _ hk => trivial)⟩
 have n1_ : Aside0 ((w14.setCell ⟨g, 9, none⟩ (.slice Ao y.length co)).heap[g]? = some (.cells #[.int .i64 s0, .int .i64 s1, .int .i64 s2, .int .i64 2, .int .i64 s4, .int .i64 s5, .int .i64 s6, .slice A7 l7.length c7, .slice none 0 0, .slice Ao y.length co] 37 (0, 0))) := ⟨blk_put (cs := #[.int .i64 s0, .int .i64 s1, .int .i64 s2, .int .i64 2, .int .i64 s4, .int .i64 s5, .int .i64 s6, .slice A7 l7.length c7, .slice none 0 0, .slice A9 l9.length c9]) BK.out 9 _ rfl⟩
 have n2_ : Aside0 (Kept w (w14.setCell ⟨g, 9, none⟩ (.slice Ao y.length co)) (fun k_ => k_ = g)) := ⟨Kept.setCell HK.out (.inl rfl) _⟩
 have n3_ : Aside0 (Below N w (w14.setCell ⟨g, 9, none⟩ (.slice Ao y.length co))) := ⟨Below.setCell HB.out GE.out _⟩
 clear HO BK HK HB hcB_9 hfB_9
 generalize (w14.setCell ⟨g, 9, none⟩ (.slice Ao y.length co)) = w18 at n0_ n1_ n2_ n3_ ⊢
 have HO := am (Kd.R_drew n0_.out)
 have BK := am (blk_drew n1_.out)
 have HK := am (Kept.drew n2_.out)
 have HB := am (below_drew1 n3_.out)
 clear n0_ n1_ n2_ n3_
 refine start_ (n := 15) (S := fun w' => w'.cell? ⟨g, 0, none⟩ = some (.int .i64 s0) ∧ w'.cell? ⟨g, 5, none⟩ = some (.int .i64 s5) ∧ w'.cell? ⟨g, 6, none⟩ = some (.int .i64 s6) ∧ w'.cell? ⟨g, 7, none⟩ = some (.slice A7 l7.length c7) ∧ w'.cell? ⟨g, 9, none⟩ = some (.slice Ao y.length co)) (ds := [14]) #[false, false, false, false, false, false, false, false, false, false, false, false, false, false, false] kr rfl rfl ⟨(blk_cell BK.out 0).trans rfl, (blk_cell BK.out 5).trans rfl, (blk_cell BK.out 6).trans rfl, (blk_cell BK.out 7).trans rfl, (blk_cell BK.out 9).trans rfl⟩ (fun hHeld => ?_); refine with_tabW impl_Node_lead.tab3 impl_Node_lead.bits3 (fun HT_ HW_ => ?_)
 generalize w18.drew = w19 at HO BK HK HB hHeld ⊢
 refine pV 0 15 (bt 1 15) ?_
 refine pV 1 16 (bt 2 15) ?_
 refine pV 2 17 (bt 3 15) ?_
 refine pV 4 19 #[true, true, true, false, true, false, false, false, false, false, false, false, false, false, false] ?_
 refine pV 5 20 #[true, true, true, false, true, true, false, false, false, false, false, false, false, false, false] ?_
 refine pV 6 21 #[true, true, true, false, true, true, true, false, false, false, false, false, false, false, false] ?_
 refine pV 8 23 #[true, true, true, false, true, true, true, false, true, false, false, false, false, false, false] ?_
 refine pV 9 24 #[true, true, true, false, true, true, true, false, true, true, false, false, false, false, false] ?_
 refine pV 10 25 #[true, true, true, false, true, true, true, false, true, true, true, false, false, false, false] ?_
 refine take_ (i := 3) (N := some 18) (v := ?_) (a' := ?_) #[true, true, true, true, true, true, true, false, true, true, true, false, false, false, false] rfl rfl (take_ofW HT_.out HW_.out kr) (fun _ _ _ h => h) (Or.inl ⟨by rfl, ?_⟩) hHeld ?_ ?_
 rotate_left
 · rintro w' ⟨s0_, s5_, s6_, s7_, s9_⟩
   go_simp
   with_reducible rfl
 rotate_left
 · simp only [Act.put, la, lb, lc, i64_w, i32_w]
   rfl
 refine take_ (i := 7) (N := some 22) (v := ?_) (a' := ?_) #[true, true, true, true, true, true, true, true, true, true, true, false, false, false, false] rfl rfl (take_ofW HT_.out HW_.out kr) (fun _ _ _ h => h) (Or.inl ⟨by rfl, ?_⟩) hHeld ?_ ?_
 rotate_left
 · rintro w' ⟨s0_, s5_, s6_, s7_, s9_⟩
   go_simp
   with_reducible rfl
 rotate_left
 · simp only [Act.put, la, lb, lc, i64_w, i32_w]
   rfl
 refine take_ (i := 11) (N := some 26) (v := ?_) (a' := ?_) #[true, true, true, true, true, true, true, true, true, true, true, true, false, false, false] rfl rfl (take_ofW HT_.out HW_.out kr) (fun _ _ _ h => h) (Or.inl ⟨by rfl, ?_⟩) hHeld ?_ ?_
 rotate_left
 · rintro w' ⟨s0_, s5_, s6_, s7_, s9_⟩
   go_simp
   with_reducible rfl
 rotate_left
 · simp only [Act.put, la, lb, lc, i64_w, i32_w]
   rfl
 refine one_ (i := 12) (N := some 27) #[true, true, true, true, true, true, true, true, true, true, true, true, true, false, false] rfl rfl (one_of HT_.out kr) (by decide) (fun K hK => ?_)
 refine goes_ Try.func89 kr rfl #[.agg #[.int .i64 s5, .int .i64 s6, .slice A7 l7.length c7]] (by rfl) rfl rfl (by (try simp only [List.map_toArray, List.map_cons, List.map_nil]); first | done | rfl) ?_
 with_reducible refine (impl_Node_lead.last_calls s5 s6 _ _ _ _).mono ?_
 rintro e w20 ⟨rfl, hb⟩
 refine ⟨_, rfl, ?_⟩
 have n0_ := am (Kd.R_below HO.out hb)
 have n1_ := am (blk_below BK.out hb)
 have n2_ := am (Kept.below HK.out hb)
 have n3_ := am (impl_Node_lead.bel HB.out HK.out (Nat.le_trans GE.out (Nat.le_of_lt GW.out)) hb)
 clear HO BK HK HB hb
 have HO := n0_
 have BK := n1_
 have HK := n2_
 have HB := n3_
 clear n0_ n1_ n2_ n3_
 have p8 : 0 ≤ (s0 : Int) := c3
 have q8 : (s0 : Int) < ((y.length : Int) : Int) := by rw [hyl.out]; exact c4
 obtain ⟨go8, co8, eo8, gb8, gl8, cl8, HG8⟩ := Kd.R_form HO.out (by omega)
 (first | cases eo8 | (injection eo8 with ea_ en_ ec_; (first | subst ea_ | (injection ea_ with ea_; subst ea_)); subst ec_; clear en_))
 have GB8 := am gb8
 have GG8 := am HG8
 clear gb8 gl8 HG8
 obtain ⟨hx8_0, hf8_0⟩ := Kd.R_celln 0 HO.out (s0 : Int) p8 q8
 replace p8 := eq_true p8
 replace q8 := eq_true q8
 have HP := Kd.R_putn HO.out (s0 : Int) (wrap64 (s5 + (l7.length : Int)))
 rw [show y.set s0.toNat (wrap64 (s5 + (l7.length : Int))) = r by rw [Ny.out]; exact hr.out] at HP
 have HQ := am HP
 clear HP
 refine hK.out _ _ ⟨(blk_cell BK.out 0).trans rfl, (blk_cell BK.out 5).trans rfl, (blk_cell BK.out 6).trans rfl, (blk_cell BK.out 7).trans rfl, (blk_cell BK.out 9).trans rfl⟩ (fun hHeld => ?_)
 clear hK K
 refine norm_ (a' := ?_) ?_ ?_
 rotate_left
 · show Act.put _ (some 27) _ = _
   simp only [Act.put, la, lb, lc, i64_w, i32_w]
   rfl
 refine pV 13 28 (bt 14 15) ?_
 refine last_ (i := 14) (N := none) #[true, true, true, true, true, true, true, true, true, true, true, true, true, true, true] rfl rfl (one_of HT_.out kr) (by decide) (fun K hK => ?_)
 refine skip_ (w1 := ?_) (by rfl) rfl ?_ ?_
 rotate_left
 · go_simp
   rfl
 refine hK.out _ _ ?_
 clear hK K
 refine done_ (done_of HT_.out kr) ?_
 try go_wp2
 refine bodyPost_end (results_none rfl _ _ _) rfl ?_
 exact ⟨_, rfl, HQ.out, blk_far BK.out (by have h_ := Kd.R_ne HO.out BK.out (by decide); intro e_; exact h_ (by rw [e_]; rfl)) _, Below.setCell HB.out (Nat.le_trans (Nat.le_trans GE.out (Nat.le_of_lt GW.out)) GB8.out) _, Kept.setCell HK.out (.inr GB8.out) _⟩


end Go.Proofs.Ytkcadcoohmofcaa.QFnExactElect
