-- Printed by the session's own program wip/prx.py.
import Derived.Test.YtkcadcoohmofcaaSqFnExactPropose
import Derived.Test.YtkcadcoohmofcaaQFnExactProposex0
import Derived.Test.YtkcadcoohmofcaaQFnExactProposex11
namespace Go.Proofs.Ytkcadcoohmofcaa.QFnExactPropose
open Go.RowKit Go.Proofs.YtkcadcoohmofcaaW.PrintWords Go.Proofs.YtkcadcoohmofcaaW.PrintLast Go.Proofs.YtkcadcoohmofcaaW.PrintMore Go.Proofs.Ytkcadcoohmofcaa.SqFnExactPropose
attribute [local go_sem] max2_int min2_int max_two min_two max_three min_three max_four min_four Go.Proofs.Ytkcadcoohmofcaa.Set.isSome_setCell
set_option linter.unusedVariables false
set_option linter.unusedSimpArgs false

-- squeezed
theorem u14_3 {P : Prop} (h : P := by (with_reducible repeat (first | refine blk_drewN ?_ _ | refine blk_drew ?_ | refine blk_alloc ?_ _)); exact BK347.out) : P := h
theorem u14_4 {P : Prop} (h : P := by (with_reducible repeat (first | refine blk_drewN ?_ _ | refine blk_drew ?_ | refine blk_alloc ?_ _)); exact BK339.out) : P := h
theorem u14_7 {P : Prop} (h : P := by (with_reducible repeat (first | apply Kd.R_alloc | apply Kd.R_drewN | apply Kd.R_drew)); exact (Kd.R_mono (Kd.R_far (p := ⟨gb347, 8, none⟩) (Kd.R_types HO359.out BK347.out (by decide)) (fun _ hk => hk.2) (.slice Ao16 y357.length co16)) (fun _ h_ => h_.1))) : P := h
theorem u14_8 {P : Prop} (h : P := by (try simp only [List.map_toArray, List.map_cons, List.map_nil]); first | done | rfl) : P := h
theorem u14_9 {P : Prop} (h : P := by (with_reducible repeat (first | refine blk_drewN ?_ _ | refine blk_drew ?_ | refine blk_alloc ?_ _)); exact BK348.out) : P := h
theorem u14_10 {P : Prop} (h : P := by (with_reducible repeat (first | refine blk_drewN ?_ _ | refine blk_drew ?_ | refine blk_alloc ?_ _)); exact BK340.out) : P := h
theorem u14_11 {P : Prop} (h : P := by (with_reducible repeat (first | apply Kd.R_alloc | apply Kd.R_drewN | apply Kd.R_drew)); exact HO356.out) : P := h
theorem u14_12 {P : Prop} (h : P := by (with_reducible repeat (first | apply Kd.R_alloc | apply Kd.R_drewN | apply Kd.R_drew)); exact HO353.out) : P := h
theorem u14_13 {P : Prop} (h : P := by (with_reducible repeat (first | apply Kd.R_alloc | apply Kd.R_drewN | apply Kd.R_drew)); exact HO359.out) : P := h
theorem u14_14 {P : Prop} (h : P := by repeat (first | exact HB.out | apply below_alloc | apply pw_below_drewN | apply below_drew1)) : P := h
/-! ### impl_copyRLog: function 118 -/
def impl_copyRLog.f (a0_0 : Int) (a0_1 : Int) (l0_2 : List (S85)) : Option (Int × Int × (List (S85))) := (some (([] : List (S85)) : List (S85))).bind fun y341 => (if y341.length + l0_2.length < 5864062014805 then (some (a0_0, a0_1, (y341 ++ l0_2))) else (none))
set_option maxHeartbeats 8000000 in
set_option maxRecDepth 100000 in
theorem impl_copyRLog.calls (a0_0 : Int) (a0_1 : Int) (A0_2 : Option Addr) (c0_2 : Nat) (l0_2 : List (S85)) (r1 : Int) (r2 : Int) (r3 : List (S85)) (w : World) (hr0_2 : Kd.C k85 w A0_2 l0_2.length l0_2) (hc0_2 : l0_2.length ≤ c0_2) (h : impl_copyRLog.f a0_0 a0_1 l0_2 = some (r1, r2, r3)) :
   Calls Try.prog 118 #[.agg #[.int .i64 a0_0, .int .i64 a0_1, .slice A0_2 l0_2.length c0_2]] w fun e w' => ∃ v2_ : Value, e = .returned (.agg #[.int .i64 r1, .int .i64 r2, v2_]) ∧ Kd.R k85 85 w' w.heap.size (fun _ => True) v2_ r3 ∧ Below w.heap.size w w' := by
 have hu34 := Try.underlying34
 have HR0_2 := am hr0_2
 have HC0_2 := am hc0_2
 clear hr0_2 hc0_2
 have HB := am (Below.refl w.heap.size w)
 have H : ((some (([] : List (S85)) : List (S85))).bind fun y341 => (if y341.length + l0_2.length < 5864062014805 then (some (a0_0, a0_1, (y341 ++ l0_2))) else (none))) = some (r1, r2, r3) := h
 clear h
 obtain ⟨y341, hy341⟩ : ∃ y_ : List (S85), y_ = (([] : List (S85))) := ⟨_, rfl⟩
 replace H : (if y341.length + l0_2.length < 5864062014805 then (some (a0_0, a0_1, (y341 ++ l0_2))) else (none)) = some (r1, r2, r3) := by first | (rw [hy341]; with_reducible exact H) | (have H2_ := (Option.bind_some _ _).symm.trans H; rw [hy341]; with_reducible exact H2_) | (have H2_ := (Option.bind_some _ _).symm.trans H; with_reducible exact H2_) | with_reducible exact H | (rw [hy341]; exact H) | exact H
 have Ny341 := am hy341
 clear hy341
 by_cases c2 : y341.length + l0_2.length < 5864062014805
 rotate_left
 · rw [if_neg c2] at H
   exact absurd H (by simp)
 rw [if_pos c2] at H
 have LMc2 := am c2
 clear c2
 obtain ⟨y344, hy344⟩ : ∃ y_ : List (S85), y_ = (y341 ++ l0_2) := ⟨_, rfl⟩
 replace H : (some (a0_0, a0_1, y344)) = some (r1, r2, r3) := by first | (rw [hy344]; with_reducible exact H) | (have H2_ := (Option.bind_some _ _).symm.trans H; rw [hy344]; with_reducible exact H2_) | (have H2_ := (Option.bind_some _ _).symm.trans H; with_reducible exact H2_) | with_reducible exact H | (rw [hy344]; exact H) | exact H
 have Ny344 := am hy344
 clear hy344
 simp only [Option.some.injEq, Prod.mk.injEq] at H
 obtain ⟨rfl, rfl, rfl⟩ := H
 go_enter Try.func118, Try.ntmps118
 go_wp2_with (first | ((with_reducible refine gate_dst (N := 1) rfl ?_); refine box_event ?hg (N := 1) ?hd (cs := #[.int .i64 a0_0, .int .i64 a0_1, .slice A0_2 l0_2.length c0_2]) (t := 34) ?hr ?_; (case hd => rfl); (case hg => rfl); (case hr => first | (go_simp; done) | (go_simp; rfl)); intro gb339 hg w3 hbox hb; have BK339 := am (hbox); have GW339 := am ((by rw [hg]; exact (below_size Q1) : w.heap.size ≤ gb339)); have GE339 := am ((by rw [hg]; exact (below_size Q1) : w.heap.size ≤ gb339)); replace HB := am (below_step Q1 hb); clear hb hbox hg) | ((with_reducible refine gate_dst (N := 2) rfl ?_); refine box_event ?hg (N := 2) ?hd (cs := #[.int .i64 0, .int .i64 0, .slice none 0 0]) (t := 34) ?hr ?_; (case hd => rfl); (case hg => rfl); (case hr => first | (go_simp; done) | (go_simp; rfl)); intro gb340 hg w4 hbox hb; have BK340 := am (hbox); have GW340 := am ((by rw [hg]; exact (below_size Q1) : w.heap.size ≤ gb340)); have GE340 := am ((by rw [hg]; exact (below_size Q1) : w.heap.size ≤ gb340)); replace HB := am (below_step Q1 hb); have NB339_340 := am ((by rw [hg]; exact Nat.ne_of_lt (blk_lt (g := gb339) (o := .cells #[.int .i64 a0_0, .int .i64 a0_1, .slice A0_2 l0_2.length c0_2] 34 (0, 0)) u14_4) : gb339 ≠ gb340)); have NB340_339 := am ((by rw [hg]; exact Nat.ne_of_gt (blk_lt (g := gb339) (o := .cells #[.int .i64 a0_0, .int .i64 a0_1, .slice A0_2 l0_2.length c0_2] 34 (0, 0)) u14_4) : gb340 ≠ gb339)); replace BK339 := am (blk_below (g := gb339) (o := .cells #[.int .i64 a0_0, .int .i64 a0_1, .slice A0_2 l0_2.length c0_2] 34 (0, 0)) u14_4 hb); clear hb hbox hg) | ((with_reducible refine gate_dst (N := 3) rfl ?_); refine Kd.R_lit k85 _ 85 ?hg (N := 3) ?hd (xs := ([] : List (S85))) (inner := []) (ok := fun _ => True) (okp := fun _ => True) ?hr ?hp (fun _ hk => hk) trivial (Below.refl _ _) (Nat.le_refl _) (by simp) ?_; (case hd => rfl); (case hg => rfl); (case hr => first | (go_simp; done) | (go_simp; rfl)); (case hp => exact (Reps.none _ _)); intro v342 w5 ho6 hb hg_ hnew_; clear hg_ hnew_; (first | rw [← Ny341.out] at ho6 | (simp only [Int.reduceToNat] at ho6; rw [← Ny341.out] at ho6)); have HO343 := am (Kd.R_lower ho6 (below_size Q1)); replace BK339 := am (blk_below (g := gb339) (o := .cells #[.int .i64 a0_0, .int .i64 a0_1, .slice A0_2 l0_2.length c0_2] 34 (0, 0)) u14_4 hb); replace BK340 := am (blk_below (g := gb340) (o := .cells #[.int .i64 0, .int .i64 0, .slice none 0 0] 34 (0, 0)) u14_10 hb); replace HB := am (below_step Q1 hb); clear hb ho6; have hnb7 := NB339_340.out; have hnc7 := NB340_339.out; obtain ⟨hcz8_0, hcz8_1, hcz8_2, hfz8_0, hfz8_1, hfz8_2⟩ := bc3f w5 BK339.out) | ((with_reducible refine gate_builtin (b := .append) (xs := #[.tmp 3, .tmp 5]) rfl ?_); at_builtin; refine Kd.R_append_rows k85 (w0 := w) w.heap.size rfl (.tmp 3) (.tmp 5) 27 85 (.agg #[(.int .i64 0), (.string ⟨#[]⟩)]) 24 rfl Try.underlying27 info85 rfl (by decide) (by omega) v342 y341 l0_2 _ _ _ (fun _ => True) (fun _ => False) rfl rfl ?aO ?aR (fun _ _ h => h) (fun _ h => h.elim) ?aF ?aB ?aS ?aL ?_; (case aR => repeat (first | exact (Kd.C_below HR0_2.out HB.out) | (with_reducible refine Kd.C_alloc ?_ _) | (with_reducible refine Kd.C_drewN ?_ _) | (with_reducible refine Kd.C_drew ?_))); (case aB => exact Q1); (case aF => exact (fun _ _ => trivial)); (case aO => exact (by (with_reducible repeat (first | apply Kd.R_alloc | apply Kd.R_drewN | apply Kd.R_drew)); exact HO343.out)); (case aS => exact (below_size Q1)); (case aL => have := LMc2.out; omega); intro v345 w9 ho hb hg hat; rw [← Ny344.out] at ho; replace BK339 := am (blk_grown (g := gb339) (o := .cells #[.int .i64 a0_0, .int .i64 a0_1, .slice A0_2 l0_2.length c0_2] 34 (0, 0)) u14_4 hg (Kd.R_ne HO343.out BK339.out (by decide))); replace BK340 := am (blk_grown (g := gb340) (o := .cells #[.int .i64 0, .int .i64 0, .slice none 0 0] 34 (0, 0)) u14_10 hg (Kd.R_ne HO343.out BK340.out (by decide))); replace HB := am (hb); have HO346 := am (ho); clear HO343; clear ho hb hg hat; obtain ⟨Ao10, co10, eo10⟩ := Kd.R_slice HO346.out; subst eo10; obtain ⟨hcz11_0, hcz11_1, hcz11_2, hfz11_0, hfz11_1, hfz11_2⟩ := bc3f w9 BK339.out; obtain ⟨hcz12_0, hcz12_1, hcz12_2, hfz12_0, hfz12_1, hfz12_2⟩ := bc3f w9 BK340.out))
 refine bodyPost_ret (results_cell_row rfl _ _ gb340 34 #[.int .i64 a0_0, .int .i64 a0_1, .slice Ao10 y344.length co10] (0, 0) _ rfl (by (with_reducible repeat (first | refine blk_drewN ?_ _ | refine blk_drew ?_ | refine blk_alloc ?_ _)); refine blk_put (cs := #[.int .i64 a0_0, .int .i64 a0_1, .slice none 0 0]) ?_ 2 _ rfl; (with_reducible repeat (first | refine blk_drewN ?_ _ | refine blk_drew ?_ | refine blk_alloc ?_ _)); refine blk_put (cs := #[.int .i64 a0_0, .int .i64 0, .slice none 0 0]) ?_ 1 _ rfl; (with_reducible repeat (first | refine blk_drewN ?_ _ | refine blk_drew ?_ | refine blk_alloc ?_ _)); refine blk_put (cs := #[.int .i64 0, .int .i64 0, .slice none 0 0]) ?_ 0 _ rfl; (with_reducible repeat (first | refine blk_drewN ?_ _ | refine blk_drew ?_ | refine blk_alloc ?_ _)); refine blk_far ?_ NB340_339.out _; (with_reducible repeat (first | refine blk_drewN ?_ _ | refine blk_drew ?_ | refine blk_alloc ?_ _)); exact BK340.out) Try.underlying34 rfl kr) rfl ?_
 exact ⟨_, er, (by (with_reducible repeat (first | apply Kd.R_alloc | apply Kd.R_drewN | apply Kd.R_drew)); exact Kd.R_mono (Kd.R_far (p := ⟨gb340, 2, none⟩) (Kd.R_far (p := ⟨gb340, 1, none⟩) (Kd.R_far (p := ⟨gb340, 0, none⟩) (Kd.R_far (p := ⟨gb339, 2, none⟩) (Kd.R_types (Kd.R_types HO346.out BK339.out (by decide)) BK340.out (by decide)) (fun _ hk => hk.1.2) (.slice Ao10 y344.length co10)) (fun _ hk => hk.2) (.int .i64 a0_0)) (fun _ hk => hk.2) (.int .i64 a0_1)) (fun _ hk => hk.2) (.slice Ao10 y344.length co10)) (fun _ hk => trivial)), Q1⟩

/-! ### impl_copyNode: function 85 -/
def impl_copyNode.f (a0_0 : Int) (a0_1 : Int) (a0_2 : Int) (a0_3 : Int) (a0_4 : Int) (a0_5 : Int) (a0_6 : Int) (l0_7 : List (S85)) (l0_8 : List Int) (l0_9 : List Int) : Option (Int × Int × Int × Int × Int × Int × Int × (List (S85)) × List Int × List Int) := (impl_copyRLog.f a0_5 a0_6 l0_7).bind fun bt349 => ((some (([] : List Int) : List Int)).bind fun y354 => (if y354.length + l0_8.length < 17592186044416 then ((some (([] : List Int) : List Int)).bind fun y360 => (if y360.length + l0_9.length < 17592186044416 then (some (a0_0, a0_1, a0_2, a0_3, a0_4, bt349.1, bt349.2.1, bt349.2.2, (y354 ++ l0_8), (y360 ++ l0_9))) else (none))) else (none)))
set_option maxHeartbeats 8000000 in
set_option maxRecDepth 100000 in
theorem impl_copyNode.calls (a0_0 : Int) (a0_1 : Int) (a0_2 : Int) (a0_3 : Int) (a0_4 : Int) (a0_5 : Int) (a0_6 : Int) (A0_7 : Option Addr) (c0_7 : Nat) (l0_7 : List (S85)) (A0_8 : Option Addr) (c0_8 : Nat) (l0_8 : List Int) (A0_9 : Option Addr) (c0_9 : Nat) (l0_9 : List Int) (r1 : Int) (r2 : Int) (r3 : Int) (r4 : Int) (r5 : Int) (r6 : Int) (r7 : Int) (r8 : List (S85)) (r9 : List Int) (r10 : List Int) (w : World) (hr0_7 : Kd.C k85 w A0_7 l0_7.length l0_7) (hc0_7 : l0_7.length ≤ c0_7) (hr0_8 : Kd.C (Kd.int .i64) w A0_8 l0_8.length l0_8) (hc0_8 : l0_8.length ≤ c0_8) (hr0_9 : Kd.C (Kd.int .i64) w A0_9 l0_9.length l0_9) (hc0_9 : l0_9.length ≤ c0_9) (h : impl_copyNode.f a0_0 a0_1 a0_2 a0_3 a0_4 a0_5 a0_6 l0_7 l0_8 l0_9 = some (r1, r2, r3, r4, r5, r6, r7, r8, r9, r10)) :
   Calls Try.prog 85 #[.agg #[.int .i64 a0_0, .int .i64 a0_1, .int .i64 a0_2, .int .i64 a0_3, .int .i64 a0_4, .int .i64 a0_5, .int .i64 a0_6, .slice A0_7 l0_7.length c0_7, .slice A0_8 l0_8.length c0_8, .slice A0_9 l0_9.length c0_9]] w fun e w' => ∃ v7_ v8_ v9_ : Value, e = .returned (.agg #[.int .i64 r1, .int .i64 r2, .int .i64 r3, .int .i64 r4, .int .i64 r5, .int .i64 r6, .int .i64 r7, v7_, v8_, v9_]) ∧ Kd.R k85 85 w' w.heap.size (fun _ => True) v7_ r8 ∧ Kd.R (Kd.int .i64) 3 w' w.heap.size (fun k_ => some k_ ≠ (v9_ : Value).ownBlock) v8_ r9 ∧ Kd.R (Kd.int .i64) 3 w' w.heap.size (fun k_ => some k_ ≠ (v8_ : Value).ownBlock) v9_ r10 ∧ Below w.heap.size w w' := by
 have hu37 := Try.underlying37
 have hu34 := Try.underlying34
 have HR0_7 := am hr0_7
 have HC0_7 := am hc0_7
 clear hr0_7 hc0_7
 have HR0_8 := am hr0_8
 have HC0_8 := am hc0_8
 clear hr0_8 hc0_8
 have HR0_9 := am hr0_9
 have HC0_9 := am hc0_9
 clear hr0_9 hc0_9
 have HB := am (Below.refl w.heap.size w)
 have H : ((impl_copyRLog.f a0_5 a0_6 l0_7).bind fun bt349 => ((some (([] : List Int) : List Int)).bind fun y354 => (if y354.length + l0_8.length < 17592186044416 then ((some (([] : List Int) : List Int)).bind fun y360 => (if y360.length + l0_9.length < 17592186044416 then (some (a0_0, a0_1, a0_2, a0_3, a0_4, bt349.1, bt349.2.1, bt349.2.2, (y354 ++ l0_8), (y360 ++ l0_9))) else (none))) else (none)))) = some (r1, r2, r3, r4, r5, r6, r7, r8, r9, r10) := h
 clear h
 replace H := Option.bind_eq_some_iff.mp H
 obtain ⟨⟨t349, t350, t351⟩, A20, H⟩ := H
 (try dsimp only at H)
 have A2 := am A20
 clear A20
 obtain ⟨y354, hy354⟩ : ∃ y_ : List Int, y_ = (([] : List Int)) := ⟨_, rfl⟩
 replace H : (if y354.length + l0_8.length < 17592186044416 then ((some (([] : List Int) : List Int)).bind fun y360 => (if y360.length + l0_9.length < 17592186044416 then (some (a0_0, a0_1, a0_2, a0_3, a0_4, t349, t350, t351, (y354 ++ l0_8), (y360 ++ l0_9))) else (none))) else (none)) = some (r1, r2, r3, r4, r5, r6, r7, r8, r9, r10) := by first | (rw [hy354]; with_reducible exact H) | (have H2_ := (Option.bind_some _ _).symm.trans H; rw [hy354]; with_reducible exact H2_) | (have H2_ := (Option.bind_some _ _).symm.trans H; with_reducible exact H2_) | with_reducible exact H | (rw [hy354]; exact H) | exact H
 have Ny354 := am hy354
 clear hy354
 by_cases c3 : y354.length + l0_8.length < 17592186044416
 rotate_left
 · rw [if_neg c3] at H
   exact absurd H (by simp)
 rw [if_pos c3] at H
 have LMc3 := am c3
 clear c3
 obtain ⟨y357, hy357⟩ : ∃ y_ : List Int, y_ = (y354 ++ l0_8) := ⟨_, rfl⟩
 replace H : ((some (([] : List Int) : List Int)).bind fun y360 => (if y360.length + l0_9.length < 17592186044416 then (some (a0_0, a0_1, a0_2, a0_3, a0_4, t349, t350, t351, y357, (y360 ++ l0_9))) else (none))) = some (r1, r2, r3, r4, r5, r6, r7, r8, r9, r10) := by first | (rw [hy357]; with_reducible exact H) | (have H2_ := (Option.bind_some _ _).symm.trans H; rw [hy357]; with_reducible exact H2_) | (have H2_ := (Option.bind_some _ _).symm.trans H; with_reducible exact H2_) | with_reducible exact H | (rw [hy357]; exact H) | exact H
 have Ny357 := am hy357
 clear hy357
 obtain ⟨y360, hy360⟩ : ∃ y_ : List Int, y_ = (([] : List Int)) := ⟨_, rfl⟩
 replace H : (if y360.length + l0_9.length < 17592186044416 then (some (a0_0, a0_1, a0_2, a0_3, a0_4, t349, t350, t351, y357, (y360 ++ l0_9))) else (none)) = some (r1, r2, r3, r4, r5, r6, r7, r8, r9, r10) := by first | (rw [hy360]; with_reducible exact H) | (have H2_ := (Option.bind_some _ _).symm.trans H; rw [hy360]; with_reducible exact H2_) | (have H2_ := (Option.bind_some _ _).symm.trans H; with_reducible exact H2_) | with_reducible exact H | (rw [hy360]; exact H) | exact H
 have Ny360 := am hy360
 clear hy360
 by_cases c4 : y360.length + l0_9.length < 17592186044416
 rotate_left
 · rw [if_neg c4] at H
   exact absurd H (by simp)
 rw [if_pos c4] at H
 have LMc4 := am c4
 clear c4
 obtain ⟨y363, hy363⟩ : ∃ y_ : List Int, y_ = (y360 ++ l0_9) := ⟨_, rfl⟩
 replace H : (some (a0_0, a0_1, a0_2, a0_3, a0_4, t349, t350, t351, y357, y363)) = some (r1, r2, r3, r4, r5, r6, r7, r8, r9, r10) := by first | (rw [hy363]; with_reducible exact H) | (have H2_ := (Option.bind_some _ _).symm.trans H; rw [hy363]; with_reducible exact H2_) | (have H2_ := (Option.bind_some _ _).symm.trans H; with_reducible exact H2_) | with_reducible exact H | (rw [hy363]; exact H) | exact H
 have Ny363 := am hy363
 clear hy363
 simp only [Option.some.injEq, Prod.mk.injEq] at H
 obtain ⟨rfl, rfl, rfl, rfl, rfl, rfl, rfl, rfl, rfl, rfl⟩ := H
 go_enter Try.func85, Try.ntmps85
 go_wp2_with (first | ((with_reducible refine gate_dst (N := 1) rfl ?_); refine box_event ?hg (N := 1) ?hd (cs := #[.int .i64 a0_0, .int .i64 a0_1, .int .i64 a0_2, .int .i64 a0_3, .int .i64 a0_4, .int .i64 a0_5, .int .i64 a0_6, .slice A0_7 l0_7.length c0_7, .slice A0_8 l0_8.length c0_8, .slice A0_9 l0_9.length c0_9]) (t := 37) ?hr ?_; (case hd => rfl); (case hg => rfl); (case hr => first | (go_simp; done) | (go_simp; rfl)); intro gb347 hg w5 hbox hb; have BK347 := am (hbox); have GW347 := am ((by rw [hg]; exact (below_size Q1) : w.heap.size ≤ gb347)); have GE347 := am ((by rw [hg]; exact (below_size Q1) : w.heap.size ≤ gb347)); replace HB := am (below_step Q1 hb); clear hb hbox hg) | ((with_reducible refine gate_dst (N := 2) rfl ?_); refine box_event ?hg (N := 2) ?hd (cs := #[.int .i64 0, .int .i64 0, .int .i64 0, .int .i64 0, .int .i64 0, .int .i64 0, .int .i64 0, .slice none 0 0, .slice none 0 0, .slice none 0 0]) (t := 37) ?hr ?_; (case hd => rfl); (case hg => rfl); (case hr => first | (go_simp; done) | (go_simp; rfl)); intro gb348 hg w6 hbox hb; have BK348 := am (hbox); have GW348 := am ((by rw [hg]; exact (below_size Q1) : w.heap.size ≤ gb348)); have GE348 := am ((by rw [hg]; exact (below_size Q1) : w.heap.size ≤ gb348)); replace HB := am (below_step Q1 hb); have NB347_348 := am ((by rw [hg]; exact Nat.ne_of_lt (blk_lt (g := gb347) (o := .cells #[.int .i64 a0_0, .int .i64 a0_1, .int .i64 a0_2, .int .i64 a0_3, .int .i64 a0_4, .int .i64 a0_5, .int .i64 a0_6, .slice A0_7 l0_7.length c0_7, .slice A0_8 l0_8.length c0_8, .slice A0_9 l0_9.length c0_9] 37 (0, 0)) u14_3) : gb347 ≠ gb348)); have NB348_347 := am ((by rw [hg]; exact Nat.ne_of_gt (blk_lt (g := gb347) (o := .cells #[.int .i64 a0_0, .int .i64 a0_1, .int .i64 a0_2, .int .i64 a0_3, .int .i64 a0_4, .int .i64 a0_5, .int .i64 a0_6, .slice A0_7 l0_7.length c0_7, .slice A0_8 l0_8.length c0_8, .slice A0_9 l0_9.length c0_9] 37 (0, 0)) u14_3) : gb348 ≠ gb347)); replace BK347 := am (blk_below (g := gb347) (o := .cells #[.int .i64 a0_0, .int .i64 a0_1, .int .i64 a0_2, .int .i64 a0_3, .int .i64 a0_4, .int .i64 a0_5, .int .i64 a0_6, .slice A0_7 l0_7.length c0_7, .slice A0_8 l0_8.length c0_8, .slice A0_9 l0_9.length c0_9] 37 (0, 0)) u14_3 hb); clear hb hbox hg; have hnb7 := NB347_348.out; have hnc7 := NB348_347.out; obtain ⟨hcz8_0, hcz8_1, hcz8_2, hcz8_3, hcz8_4, hcz8_5, hcz8_6, hcz8_7, hcz8_8, hcz8_9, hfz8_0, hfz8_1, hfz8_2, hfz8_3, hfz8_4, hfz8_5, hfz8_6, hfz8_7, hfz8_8, hfz8_9⟩ := bc10f w6 BK347.out) | ((with_reducible refine gate_callee (f := 118) rfl ?_); refine goesL_ (some 5) rfl rfl Try.func118 kr rfl #[.agg #[.int .i64 a0_5, .int .i64 a0_6, .slice A0_7 l0_7.length c0_7]] rfl (by (try simp only [List.map_toArray, List.map_cons, List.map_nil]); first | done | rfl | (simp only [List.length_drop, List.length_take]; rfl)) ?_; (with_reducible refine (impl_copyRLog.calls a0_5 a0_6 _ _ l0_7 t349 t350 t351 _ ?side1 ?side2 A2.out).mono ?_); (case side1 => exact (by repeat (first | exact (Kd.C_below HR0_7.out HB.out) | (with_reducible refine Kd.C_alloc ?_ _) | (with_reducible refine Kd.C_drewN ?_ _) | (with_reducible refine Kd.C_drew ?_)))); (case side2 => exact HC0_7.out); rintro e w9 ⟨v352, rfl, ho0, hb⟩; refine ⟨_, rfl, ?_⟩; have HO353 := am (Kd.R_lower ho0 (below_size Q1)); replace BK347 := am (blk_below (g := gb347) (o := .cells #[.int .i64 a0_0, .int .i64 a0_1, .int .i64 a0_2, .int .i64 a0_3, .int .i64 a0_4, .int .i64 a0_5, .int .i64 a0_6, .slice A0_7 l0_7.length c0_7, .slice A0_8 l0_8.length c0_8, .slice A0_9 l0_9.length c0_9] 37 (0, 0)) u14_3 hb); replace BK348 := am (blk_below (g := gb348) (o := .cells #[.int .i64 0, .int .i64 0, .int .i64 0, .int .i64 0, .int .i64 0, .int .i64 0, .int .i64 0, .slice none 0 0, .slice none 0 0, .slice none 0 0] 37 (0, 0)) u14_9 hb); replace HB := am (below_step Q1 hb); (try clear hb); (try clear hb2); (try clear hk); (try clear hi); (try clear ho0); obtain ⟨hcz10_0, hcz10_1, hcz10_2, hcz10_3, hcz10_4, hcz10_5, hcz10_6, hcz10_7, hcz10_8, hcz10_9, hfz10_0, hfz10_1, hfz10_2, hfz10_3, hfz10_4, hfz10_5, hfz10_6, hfz10_7, hfz10_8, hfz10_9⟩ := bc10f w9 BK347.out; obtain ⟨Ao11, co11, eo11⟩ := Kd.R_slice HO353.out; subst eo11) | ((with_reducible refine gate_dst (N := 7) rfl ?_); refine Kd.R_lit (Kd.int .i64) _ 3 ?hg (N := 7) ?hd (xs := ([] : List Int)) (inner := []) (ok := fun _ => True) (okp := fun _ => True) ?hr ?hp (fun _ hk => hk) trivial (Below.refl _ _) (Nat.le_refl _) (by simp) ?_; (case hd => rfl); (case hg => rfl); (case hr => first | (go_simp; done) | (go_simp; rfl)); (case hp => exact (Reps.none _ _)); intro v355 w12 ho13 hb hg_ hnew_; clear hg_ hnew_; (first | rw [← Ny354.out] at ho13 | (simp only [Int.reduceToNat] at ho13; rw [← Ny354.out] at ho13)); replace HO353 := am (Kd.R_below (by (with_reducible repeat (first | apply Kd.R_alloc | apply Kd.R_drewN | apply Kd.R_drew)); exact (Kd.R_mono (Kd.R_far (p := ⟨gb347, 7, none⟩) (Kd.R_far (p := ⟨gb347, 6, none⟩) (Kd.R_far (p := ⟨gb347, 5, none⟩) (Kd.R_types HO353.out BK347.out (by decide)) (fun _ hk => hk.2) (.int .i64 t349)) (fun _ hk => hk.2) (.int .i64 t350)) (fun _ hk => hk.2) (.slice Ao11 t351.length co11)) (fun _ h_ => h_.1))) hb); have HO356 := am (Kd.R_lower ho13 (below_size Q1)); replace BK347 := am (blk_below (g := gb347) (o := .cells #[.int .i64 a0_0, .int .i64 a0_1, .int .i64 a0_2, .int .i64 a0_3, .int .i64 a0_4, .int .i64 t349, .int .i64 t350, .slice Ao11 t351.length co11, .slice A0_8 l0_8.length c0_8, .slice A0_9 l0_9.length c0_9] 37 (0, 0)) (by (with_reducible repeat (first | refine blk_drewN ?_ _ | refine blk_drew ?_ | refine blk_alloc ?_ _)); refine blk_put (cs := #[.int .i64 a0_0, .int .i64 a0_1, .int .i64 a0_2, .int .i64 a0_3, .int .i64 a0_4, .int .i64 t349, .int .i64 t350, .slice A0_7 l0_7.length c0_7, .slice A0_8 l0_8.length c0_8, .slice A0_9 l0_9.length c0_9]) ?_ 7 _ rfl; (with_reducible repeat (first | refine blk_drewN ?_ _ | refine blk_drew ?_ | refine blk_alloc ?_ _)); refine blk_put (cs := #[.int .i64 a0_0, .int .i64 a0_1, .int .i64 a0_2, .int .i64 a0_3, .int .i64 a0_4, .int .i64 t349, .int .i64 a0_6, .slice A0_7 l0_7.length c0_7, .slice A0_8 l0_8.length c0_8, .slice A0_9 l0_9.length c0_9]) ?_ 6 _ rfl; (with_reducible repeat (first | refine blk_drewN ?_ _ | refine blk_drew ?_ | refine blk_alloc ?_ _)); refine blk_put (cs := #[.int .i64 a0_0, .int .i64 a0_1, .int .i64 a0_2, .int .i64 a0_3, .int .i64 a0_4, .int .i64 a0_5, .int .i64 a0_6, .slice A0_7 l0_7.length c0_7, .slice A0_8 l0_8.length c0_8, .slice A0_9 l0_9.length c0_9]) ?_ 5 _ rfl; (with_reducible repeat (first | refine blk_drewN ?_ _ | refine blk_drew ?_ | refine blk_alloc ?_ _)); exact BK347.out) hb); replace BK348 := am (blk_below (g := gb348) (o := .cells #[.int .i64 0, .int .i64 0, .int .i64 0, .int .i64 0, .int .i64 0, .int .i64 0, .int .i64 0, .slice none 0 0, .slice none 0 0, .slice none 0 0] 37 (0, 0)) (by (with_reducible repeat (first | refine blk_drewN ?_ _ | refine blk_drew ?_ | refine blk_alloc ?_ _)); refine blk_far ?_ NB348_347.out _; (with_reducible repeat (first | refine blk_drewN ?_ _ | refine blk_drew ?_ | refine blk_alloc ?_ _)); refine blk_far ?_ NB348_347.out _; (with_reducible repeat (first | refine blk_drewN ?_ _ | refine blk_drew ?_ | refine blk_alloc ?_ _)); refine blk_far ?_ NB348_347.out _; (with_reducible repeat (first | refine blk_drewN ?_ _ | refine blk_drew ?_ | refine blk_alloc ?_ _)); exact BK348.out) hb); replace HB := am (below_step Q1 hb); clear hb ho13; obtain ⟨hcz14_0, hcz14_1, hcz14_2, hcz14_3, hcz14_4, hcz14_5, hcz14_6, hcz14_7, hcz14_8, hcz14_9, hfz14_0, hfz14_1, hfz14_2, hfz14_3, hfz14_4, hfz14_5, hfz14_6, hfz14_7, hfz14_8, hfz14_9⟩ := bc10f w12 BK347.out) | ((with_reducible refine gate_builtin (b := .append) (xs := #[.tmp 7, .tmp 9]) rfl ?_); at_builtin; refine Kd.R_append_rows (Kd.int .i64) (w0 := w) w.heap.size rfl (.tmp 7) (.tmp 9) 35 3 (.int .i64 0) 8 rfl Try.underlying35 info3 rfl (by decide) (by omega) v355 y354 l0_8 _ _ _ (fun _ => True) (fun _ => False) rfl rfl ?aO ?aR (fun _ _ h => h) (fun _ h => h.elim) ?aF ?aB ?aS ?aL ?_; (case aR => repeat (first | exact (Kd.C_below HR0_8.out HB.out) | (with_reducible refine Kd.C_alloc ?_ _) | (with_reducible refine Kd.C_drewN ?_ _) | (with_reducible refine Kd.C_drew ?_))); (case aB => exact Q1); (case aF => exact (fun _ _ => trivial)); (case aO => exact u14_11); (case aS => exact (below_size Q1)); (case aL => have := LMc3.out; omega); intro v358 w15 ho hb hg hat; rw [← Ny357.out] at ho; replace BK347 := am (blk_grown (g := gb347) (o := .cells #[.int .i64 a0_0, .int .i64 a0_1, .int .i64 a0_2, .int .i64 a0_3, .int .i64 a0_4, .int .i64 t349, .int .i64 t350, .slice Ao11 t351.length co11, .slice A0_8 l0_8.length c0_8, .slice A0_9 l0_9.length c0_9] 37 (0, 0)) u14_3 hg (Kd.R_ne HO356.out BK347.out (by decide))); replace BK348 := am (blk_grown (g := gb348) (o := .cells #[.int .i64 0, .int .i64 0, .int .i64 0, .int .i64 0, .int .i64 0, .int .i64 0, .int .i64 0, .slice none 0 0, .slice none 0 0, .slice none 0 0] 37 (0, 0)) u14_9 hg (Kd.R_ne HO356.out BK348.out (by decide))); replace HO353 := am (Kd.R_over' u14_12 (Kd.R_typed u14_11) (by decide) hg); replace HB := am (hb); have HO359 := am (ho); clear HO356; clear ho hb hg hat; obtain ⟨Ao16, co16, eo16⟩ := Kd.R_slice HO359.out; subst eo16; obtain ⟨hcz17_0, hcz17_1, hcz17_2, hcz17_3, hcz17_4, hcz17_5, hcz17_6, hcz17_7, hcz17_8, hcz17_9, hfz17_0, hfz17_1, hfz17_2, hfz17_3, hfz17_4, hfz17_5, hfz17_6, hfz17_7, hfz17_8, hfz17_9⟩ := bc10f w15 BK347.out) | ((with_reducible refine gate_dst (N := 12) rfl ?_); refine Kd.R_lit (Kd.int .i64) _ 3 ?hg (N := 12) ?hd (xs := ([] : List Int)) (inner := []) (ok := fun _ => True) (okp := fun _ => True) ?hr ?hp (fun _ hk => hk) trivial (Below.refl _ _) (Nat.le_refl _) (by simp) ?_; (case hd => rfl); (case hg => rfl); (case hr => first | (go_simp; done) | (go_simp; rfl)); (case hp => exact (Reps.none _ _)); intro v361 w18 ho19 hb hg_ hnew_; clear hg_ hnew_; (first | rw [← Ny360.out] at ho19 | (simp only [Int.reduceToNat] at ho19; rw [← Ny360.out] at ho19)); replace HO353 := am (Kd.R_below (by (with_reducible repeat (first | apply Kd.R_alloc | apply Kd.R_drewN | apply Kd.R_drew)); exact (Kd.R_mono (Kd.R_far (p := ⟨gb347, 8, none⟩) (Kd.R_types HO353.out BK347.out (by decide)) (fun _ hk => hk.2) (.slice Ao16 y357.length co16)) (fun _ h_ => h_.1))) hb); have HO362 := am (Kd.R_lower (Kd.R_new' ho19 (Kd.R_lt u14_7)) (below_size Q1)); replace HO359 := am (Kd.R_elder' u14_7 (Kd.R_base ho19) hb); replace BK347 := am (blk_below (g := gb347) (o := .cells #[.int .i64 a0_0, .int .i64 a0_1, .int .i64 a0_2, .int .i64 a0_3, .int .i64 a0_4, .int .i64 t349, .int .i64 t350, .slice Ao11 t351.length co11, .slice Ao16 y357.length co16, .slice A0_9 l0_9.length c0_9] 37 (0, 0)) (by (with_reducible repeat (first | refine blk_drewN ?_ _ | refine blk_drew ?_ | refine blk_alloc ?_ _)); refine blk_put (cs := #[.int .i64 a0_0, .int .i64 a0_1, .int .i64 a0_2, .int .i64 a0_3, .int .i64 a0_4, .int .i64 t349, .int .i64 t350, .slice Ao11 t351.length co11, .slice A0_8 l0_8.length c0_8, .slice A0_9 l0_9.length c0_9]) ?_ 8 _ rfl; (with_reducible repeat (first | refine blk_drewN ?_ _ | refine blk_drew ?_ | refine blk_alloc ?_ _)); exact BK347.out) hb); replace BK348 := am (blk_below (g := gb348) (o := .cells #[.int .i64 0, .int .i64 0, .int .i64 0, .int .i64 0, .int .i64 0, .int .i64 0, .int .i64 0, .slice none 0 0, .slice none 0 0, .slice none 0 0] 37 (0, 0)) (by (with_reducible repeat (first | refine blk_drewN ?_ _ | refine blk_drew ?_ | refine blk_alloc ?_ _)); refine blk_far ?_ NB348_347.out _; (with_reducible repeat (first | refine blk_drewN ?_ _ | refine blk_drew ?_ | refine blk_alloc ?_ _)); exact BK348.out) hb); replace HB := am (below_step Q1 hb); clear hb ho19; obtain ⟨hcz20_0, hcz20_1, hcz20_2, hcz20_3, hcz20_4, hcz20_5, hcz20_6, hcz20_7, hcz20_8, hcz20_9, hfz20_0, hfz20_1, hfz20_2, hfz20_3, hfz20_4, hfz20_5, hfz20_6, hfz20_7, hfz20_8, hfz20_9⟩ := bc10f w18 BK347.out) | ((with_reducible refine gate_builtin (b := .append) (xs := #[.tmp 12, .tmp 14]) rfl ?_); at_builtin; refine Kd.R_append_rows (Kd.int .i64) (w0 := w) w.heap.size rfl (.tmp 12) (.tmp 14) 35 3 (.int .i64 0) 8 rfl Try.underlying35 info3 rfl (by decide) (by omega) v361 y360 l0_9 _ _ _ (fun k_ => some k_ ≠ (.slice Ao16 y357.length co16 : Value).ownBlock) (fun _ => False) rfl rfl ?aO ?aR (fun _ _ h => h) (fun _ h => h.elim) ?aF ?aB ?aS ?aL ?_; (case aR => repeat (first | exact (Kd.C_below HR0_9.out HB.out) | (with_reducible refine Kd.C_alloc ?_ _) | (with_reducible refine Kd.C_drewN ?_ _) | (with_reducible refine Kd.C_drew ?_))); (case aB => exact Q1); (case aF => exact (fun k_ hk => Kd.fresh' (Kd.R_lt u14_13) k_ hk)); (case aO => exact (by (with_reducible repeat (first | apply Kd.R_alloc | apply Kd.R_drewN | apply Kd.R_drew)); exact Kd.R_mono HO362.out (fun _ hk => hk.2))); (case aS => exact (below_size Q1)); (case aL => have := LMc4.out; omega); intro v364 w21 ho hb hg hat; rw [← Ny363.out] at ho; replace BK347 := am (blk_grown (g := gb347) (o := .cells #[.int .i64 a0_0, .int .i64 a0_1, .int .i64 a0_2, .int .i64 a0_3, .int .i64 a0_4, .int .i64 t349, .int .i64 t350, .slice Ao11 t351.length co11, .slice Ao16 y357.length co16, .slice A0_9 l0_9.length c0_9] 37 (0, 0)) u14_3 hg (Kd.R_ne HO362.out BK347.out (by decide))); replace BK348 := am (blk_grown (g := gb348) (o := .cells #[.int .i64 0, .int .i64 0, .int .i64 0, .int .i64 0, .int .i64 0, .int .i64 0, .int .i64 0, .slice none 0 0, .slice none 0 0, .slice none 0 0] 37 (0, 0)) u14_9 hg (Kd.R_ne HO362.out BK348.out (by decide))); replace HO353 := am (Kd.R_over' u14_12 (Kd.R_typed (by (with_reducible repeat (first | apply Kd.R_alloc | apply Kd.R_drewN | apply Kd.R_drew)); exact HO362.out)) (by decide) hg); replace HO359 := am (Kd.R_after (ok := (fun _ => True)) u14_13 hg hat); replace HB := am (hb); have HO365 := am (ho); clear HO362; clear ho hb hg hat; obtain ⟨Ao22, co22, eo22⟩ := Kd.R_slice HO365.out; subst eo22; obtain ⟨hcz23_0, hcz23_1, hcz23_2, hcz23_3, hcz23_4, hcz23_5, hcz23_6, hcz23_7, hcz23_8, hcz23_9, hfz23_0, hfz23_1, hfz23_2, hfz23_3, hfz23_4, hfz23_5, hfz23_6, hfz23_7, hfz23_8, hfz23_9⟩ := bc10f w21 BK347.out; obtain ⟨hcz24_0, hcz24_1, hcz24_2, hcz24_3, hcz24_4, hcz24_5, hcz24_6, hcz24_7, hcz24_8, hcz24_9, hfz24_0, hfz24_1, hfz24_2, hfz24_3, hfz24_4, hfz24_5, hfz24_6, hfz24_7, hfz24_8, hfz24_9⟩ := bc10f w21 BK348.out))
 refine bodyPost_ret (results_cell_row rfl _ _ gb348 37 #[.int .i64 a0_0, .int .i64 a0_1, .int .i64 a0_2, .int .i64 a0_3, .int .i64 a0_4, .int .i64 t349, .int .i64 t350, .slice Ao11 t351.length co11, .slice Ao16 y357.length co16, .slice Ao22 y363.length co22] (0, 0) _ rfl (by (with_reducible repeat (first | refine blk_drewN ?_ _ | refine blk_drew ?_ | refine blk_alloc ?_ _)); refine blk_put (cs := #[.int .i64 a0_0, .int .i64 a0_1, .int .i64 a0_2, .int .i64 a0_3, .int .i64 a0_4, .int .i64 t349, .int .i64 t350, .slice Ao11 t351.length co11, .slice Ao16 y357.length co16, .slice none 0 0]) ?_ 9 _ rfl; (with_reducible repeat (first | refine blk_drewN ?_ _ | refine blk_drew ?_ | refine blk_alloc ?_ _)); refine blk_put (cs := #[.int .i64 a0_0, .int .i64 a0_1, .int .i64 a0_2, .int .i64 a0_3, .int .i64 a0_4, .int .i64 t349, .int .i64 t350, .slice Ao11 t351.length co11, .slice none 0 0, .slice none 0 0]) ?_ 8 _ rfl; (with_reducible repeat (first | refine blk_drewN ?_ _ | refine blk_drew ?_ | refine blk_alloc ?_ _)); refine blk_put (cs := #[.int .i64 a0_0, .int .i64 a0_1, .int .i64 a0_2, .int .i64 a0_3, .int .i64 a0_4, .int .i64 t349, .int .i64 t350, .slice none 0 0, .slice none 0 0, .slice none 0 0]) ?_ 7 _ rfl; (with_reducible repeat (first | refine blk_drewN ?_ _ | refine blk_drew ?_ | refine blk_alloc ?_ _)); refine blk_put (cs := #[.int .i64 a0_0, .int .i64 a0_1, .int .i64 a0_2, .int .i64 a0_3, .int .i64 a0_4, .int .i64 t349, .int .i64 0, .slice none 0 0, .slice none 0 0, .slice none 0 0]) ?_ 6 _ rfl; (with_reducible repeat (first | refine blk_drewN ?_ _ | refine blk_drew ?_ | refine blk_alloc ?_ _)); refine blk_put (cs := #[.int .i64 a0_0, .int .i64 a0_1, .int .i64 a0_2, .int .i64 a0_3, .int .i64 a0_4, .int .i64 0, .int .i64 0, .slice none 0 0, .slice none 0 0, .slice none 0 0]) ?_ 5 _ rfl; (with_reducible repeat (first | refine blk_drewN ?_ _ | refine blk_drew ?_ | refine blk_alloc ?_ _)); refine blk_put (cs := #[.int .i64 a0_0, .int .i64 a0_1, .int .i64 a0_2, .int .i64 a0_3, .int .i64 0, .int .i64 0, .int .i64 0, .slice none 0 0, .slice none 0 0, .slice none 0 0]) ?_ 4 _ rfl; (with_reducible repeat (first | refine blk_drewN ?_ _ | refine blk_drew ?_ | refine blk_alloc ?_ _)); refine blk_put (cs := #[.int .i64 a0_0, .int .i64 a0_1, .int .i64 a0_2, .int .i64 0, .int .i64 0, .int .i64 0, .int .i64 0, .slice none 0 0, .slice none 0 0, .slice none 0 0]) ?_ 3 _ rfl; (with_reducible repeat (first | refine blk_drewN ?_ _ | refine blk_drew ?_ | refine blk_alloc ?_ _)); refine blk_put (cs := #[.int .i64 a0_0, .int .i64 a0_1, .int .i64 0, .int .i64 0, .int .i64 0, .int .i64 0, .int .i64 0, .slice none 0 0, .slice none 0 0, .slice none 0 0]) ?_ 2 _ rfl; (with_reducible repeat (first | refine blk_drewN ?_ _ | refine blk_drew ?_ | refine blk_alloc ?_ _)); refine blk_put (cs := #[.int .i64 a0_0, .int .i64 0, .int .i64 0, .int .i64 0, .int .i64 0, .int .i64 0, .int .i64 0, .slice none 0 0, .slice none 0 0, .slice none 0 0]) ?_ 1 _ rfl; (with_reducible repeat (first | refine blk_drewN ?_ _ | refine blk_drew ?_ | refine blk_alloc ?_ _)); refine blk_put (cs := #[.int .i64 0, .int .i64 0, .int .i64 0, .int .i64 0, .int .i64 0, .int .i64 0, .int .i64 0, .slice none 0 0, .slice none 0 0, .slice none 0 0]) ?_ 0 _ rfl; (with_reducible repeat (first | refine blk_drewN ?_ _ | refine blk_drew ?_ | refine blk_alloc ?_ _)); refine blk_far ?_ NB348_347.out _; (with_reducible repeat (first | refine blk_drewN ?_ _ | refine blk_drew ?_ | refine blk_alloc ?_ _)); exact BK348.out) Try.underlying37 rfl kr) rfl ?_
 exact ⟨_, _, _, er, (by (with_reducible repeat (first | apply Kd.R_alloc | apply Kd.R_drewN | apply Kd.R_drew)); exact Kd.R_mono (Kd.R_far (p := ⟨gb348, 9, none⟩) (Kd.R_far (p := ⟨gb348, 8, none⟩) (Kd.R_far (p := ⟨gb348, 7, none⟩) (Kd.R_far (p := ⟨gb348, 6, none⟩) (Kd.R_far (p := ⟨gb348, 5, none⟩) (Kd.R_far (p := ⟨gb348, 4, none⟩) (Kd.R_far (p := ⟨gb348, 3, none⟩) (Kd.R_far (p := ⟨gb348, 2, none⟩) (Kd.R_far (p := ⟨gb348, 1, none⟩) (Kd.R_far (p := ⟨gb348, 0, none⟩) (Kd.R_far (p := ⟨gb347, 9, none⟩) (Kd.R_types (Kd.R_types HO353.out BK347.out (by decide)) BK348.out (by decide)) (fun _ hk => hk.1.2) (.slice Ao22 y363.length co22)) (fun _ hk => hk.2) (.int .i64 a0_0)) (fun _ hk => hk.2) (.int .i64 a0_1)) (fun _ hk => hk.2) (.int .i64 a0_2)) (fun _ hk => hk.2) (.int .i64 a0_3)) (fun _ hk => hk.2) (.int .i64 a0_4)) (fun _ hk => hk.2) (.int .i64 t349)) (fun _ hk => hk.2) (.int .i64 t350)) (fun _ hk => hk.2) (.slice Ao11 t351.length co11)) (fun _ hk => hk.2) (.slice Ao16 y357.length co16)) (fun _ hk => hk.2) (.slice Ao22 y363.length co22)) (fun _ hk => trivial)), (by (with_reducible repeat (first | apply Kd.R_alloc | apply Kd.R_drewN | apply Kd.R_drew)); exact Kd.R_mono (Kd.R_far (p := ⟨gb348, 9, none⟩) (Kd.R_far (p := ⟨gb348, 8, none⟩) (Kd.R_far (p := ⟨gb348, 7, none⟩) (Kd.R_far (p := ⟨gb348, 6, none⟩) (Kd.R_far (p := ⟨gb348, 5, none⟩) (Kd.R_far (p := ⟨gb348, 4, none⟩) (Kd.R_far (p := ⟨gb348, 3, none⟩) (Kd.R_far (p := ⟨gb348, 2, none⟩) (Kd.R_far (p := ⟨gb348, 1, none⟩) (Kd.R_far (p := ⟨gb348, 0, none⟩) (Kd.R_far (p := ⟨gb347, 9, none⟩) (Kd.R_types (Kd.R_types HO359.out BK347.out (by decide)) BK348.out (by decide)) (fun _ hk => hk.1.2) (.slice Ao22 y363.length co22)) (fun _ hk => hk.2) (.int .i64 a0_0)) (fun _ hk => hk.2) (.int .i64 a0_1)) (fun _ hk => hk.2) (.int .i64 a0_2)) (fun _ hk => hk.2) (.int .i64 a0_3)) (fun _ hk => hk.2) (.int .i64 a0_4)) (fun _ hk => hk.2) (.int .i64 t349)) (fun _ hk => hk.2) (.int .i64 t350)) (fun _ hk => hk.2) (.slice Ao11 t351.length co11)) (fun _ hk => hk.2) (.slice Ao16 y357.length co16)) (fun _ hk => hk.2) (.slice Ao22 y363.length co22)) (fun _ hk => hk.1.1.2)), (by (with_reducible repeat (first | apply Kd.R_alloc | apply Kd.R_drewN | apply Kd.R_drew)); exact Kd.R_mono (Kd.R_far (p := ⟨gb348, 9, none⟩) (Kd.R_far (p := ⟨gb348, 8, none⟩) (Kd.R_far (p := ⟨gb348, 7, none⟩) (Kd.R_far (p := ⟨gb348, 6, none⟩) (Kd.R_far (p := ⟨gb348, 5, none⟩) (Kd.R_far (p := ⟨gb348, 4, none⟩) (Kd.R_far (p := ⟨gb348, 3, none⟩) (Kd.R_far (p := ⟨gb348, 2, none⟩) (Kd.R_far (p := ⟨gb348, 1, none⟩) (Kd.R_far (p := ⟨gb348, 0, none⟩) (Kd.R_far (p := ⟨gb347, 9, none⟩) (Kd.R_types (Kd.R_types HO365.out BK347.out (by decide)) BK348.out (by decide)) (fun _ hk => hk.1.2) (.slice Ao22 y363.length co22)) (fun _ hk => hk.2) (.int .i64 a0_0)) (fun _ hk => hk.2) (.int .i64 a0_1)) (fun _ hk => hk.2) (.int .i64 a0_2)) (fun _ hk => hk.2) (.int .i64 a0_3)) (fun _ hk => hk.2) (.int .i64 a0_4)) (fun _ hk => hk.2) (.int .i64 t349)) (fun _ hk => hk.2) (.int .i64 t350)) (fun _ hk => hk.2) (.slice Ao11 t351.length co11)) (fun _ hk => hk.2) (.slice Ao16 y357.length co16)) (fun _ hk => hk.2) (.slice Ao22 y363.length co22)) (fun _ hk => hk.1.1)), Q1⟩

/-! ### impl_Node_commit: function 90 -/
theorem kept_elder_ {α : Type} {d : Kd α} {e base g t : Nat} {ok : Nat → Prop} {W w1 : World} {u v : Value} {xs : List α} {cs : Array Value}
   (h : d.R e W base ok u xs) (hb : W.heap[g]? = some (.cells cs t (0, 0))) (ht : ∀ q : Nat, q ∈ e :: d.E → q ≠ t) (hk : Kept W w1 (fun k => k = g))
   (hv : ∀ k, v.ownBlock = some k → W.heap.size ≤ k) : d.R e w1 base (fun k => ok k ∧ some k ≠ v.ownBlock) u xs :=
 Kd.R_mono (Kd.R_kept (Kd.R_bound (Kd.R_types h hb ht)) hk (fun _ hk_ e_ => hk_.1.2 e_)) (fun _ hk_ => ⟨hk_.1.1, fun e_ => Nat.lt_irrefl _ (Nat.lt_of_lt_of_le hk_.2.2.1 (hv _ e_.symm))⟩)
theorem below_two_ {n : Nat} {w W w2 : World} (h : Below n w W) (h2 : Below n W w2) : Below n w w2 := h.trans h2
mutual
def impl_Node_commit.l0 : Nat → Int → Int → Int → Int → Int → List S85 → List Int → Option Int
 | 0, _, _, _, _, _, _, _ => none
 | k + 1, x2, s1, s4, s5, s6, l7, l9 => if x2 > s4 then (impl_Node_commit.l1 k x2 0 0 s1 s4 s5 s6 l7 l9) else (some s4)
def impl_Node_commit.l1 : Nat → Int → Int → Int → Int → Int → Int → Int → List S85 → List Int → Option Int
 | 0, _, _, _, _, _, _, _, _, _ => none
 | k + 1, x2, x3, x24, s1, s4, s5, s6, l7, l9 => if x24 < (l9.length : Int) then (if 0 ≤ x24 then (if (rd l9 x24) ≥ x2 then (impl_Node_commit.l1 k x2 (wrap64 (x3 + 1)) (wrap64 (x24 + 1)) s1 s4 s5 s6 l7 l9) else (impl_Node_commit.l1 k x2 x3 (wrap64 (x24 + 1)) s1 s4 s5 s6 l7 l9)) else (none)) else ((impl_RLog_term.f s5 s6 l7 x2).bind fun t => (if t = s1 then (if (wrap64 (2 * x3)) > (l9.length : Int) then (some x2) else (impl_Node_commit.l0 k (wrap64 (x2 - 1)) s1 s4 s5 s6 l7 l9)) else (impl_Node_commit.l0 k (wrap64 (x2 - 1)) s1 s4 s5 s6 l7 l9)))
end
def impl_Node_commit.f (k : Nat) (_s0 s1 _s2 _s3 s4 s5 s6 : Int) (l7 : List S85) (_l8 l9 : List Int) : Option Int := (impl_RLog_last.f s5 s6 l7).bind fun t => impl_Node_commit.l0 k t s1 s4 s5 s6 l7 l9
theorem impl_Node_commit.mono_l : ∀ k, (∀ y0 y1 y2 y3 y4 y5 y6, LeO (impl_Node_commit.l0 k y0 y1 y2 y3 y4 y5 y6) (impl_Node_commit.l0 (k + 1) y0 y1 y2 y3 y4 y5 y6)) ∧ (∀ y0 y1 y2 y3 y4 y5 y6 y7 y8, LeO (impl_Node_commit.l1 k y0 y1 y2 y3 y4 y5 y6 y7 y8) (impl_Node_commit.l1 (k + 1) y0 y1 y2 y3 y4 y5 y6 y7 y8))
 | 0 => ⟨fun _ _ _ _ _ _ _ r h => by simp [impl_Node_commit.l0] at h, fun _ _ _ _ _ _ _ _ _ r h => by simp [impl_Node_commit.l1] at h⟩
 | k + 1 => by
   obtain ⟨ih0, ih1⟩ := impl_Node_commit.mono_l k
   refine ⟨?_, ?_⟩
   · intro y0 y1 y2 y3 y4 y5 y6
     unfold impl_Node_commit.l0
     repeat' first
     | (with_reducible exact ih1 _ _ _ _ _ _ _ _ _)
     | (with_reducible exact LeO.refl _)
     | (with_reducible exact LeO.none _)
     | (with_reducible refine LeO.ite ?_ ?_)
     | exact ih1 _ _ _ _ _ _ _ _ _
     | refine LeO.ite ?_ ?_
   · intro y0 y1 y2 y3 y4 y5 y6 y7 y8
     unfold impl_Node_commit.l1
     repeat' first
     | (with_reducible exact ih0 _ _ _ _ _ _ _)
     | (with_reducible exact ih1 _ _ _ _ _ _ _ _ _)
     | (with_reducible exact LeO.refl _)
     | (with_reducible exact LeO.none _)
     | (with_reducible refine LeO.ite ?_ ?_)
     | (with_reducible refine LeO.bind ?_ (fun _ => ?_))
     | exact ih0 _ _ _ _ _ _ _
     | exact ih1 _ _ _ _ _ _ _ _ _
     | exact LeO.none _
     | refine LeO.ite ?_ ?_
     | refine LeO.bind ?_ (fun _ => ?_)
theorem impl_Node_commit.mono : ∀ a0 a1 a2 a3 a4 a5 a6 a7 a8 a9 k, LeO (impl_Node_commit.f k a0 a1 a2 a3 a4 a5 a6 a7 a8 a9) (impl_Node_commit.f (k + 1) a0 a1 a2 a3 a4 a5 a6 a7 a8 a9) := by
 intro a0 a1 a2 a3 a4 a5 a6 a7 a8 a9 k
 unfold impl_Node_commit.f
 exact LeO.bind (LeO.refl _) (fun _ => (impl_Node_commit.mono_l k).1 _ _ _ _ _ _ _)
def impl_Node_commit.T10 : Bool × List (List Nat × List Nat) := (true, [([], []), ([0], [0]), ([1], [1]), ([2], [2]), ([], []), ([3, 4], [3, 4]), ([], []), ([6], [6]), ([7], [7]), ([8], [8]), ([5, 9], [5, 9]), ([10, 5], [10]), ([11], [11]), ([12, 11], [11, 12]), ([11], [11]), ([14, 11], [11, 14]), ([15, 11], [11, 15]), ([16, 11], [11, 16]), ([17, 11], [11, 17]), ([13, 18, 11], [11, 13, 18]), ([11, 19], [11, 19])])
def impl_Node_commit.B10 : List Nat := [0, 1, 3, 7, 0, 31, 0, 64, 192, 448, 1023, 2047, 4095, 8191, 4095, 20479, 53247, 118783, 249855, 524287, 1048575]
theorem impl_Node_commit.tab10 : rtab .any (opsOf Try.f90 10) = impl_Node_commit.T10 := by kernel_rfl
theorem impl_Node_commit.bits10 : waitsOk impl_Node_commit.T10.2 impl_Node_commit.B10 = true := by kernel_rfl
set_option maxHeartbeats 8000000 in
set_option maxRecDepth 100000 in
theorem impl_Node_commit.calls (k g N : Nat) (s0 s1 s2 s3 s4 s5 s6 : Int) (A7 : Option Addr) (c7 : Nat) (l7 : List S85) (A8 : Option Addr) (c8 : Nat) (l8 : List Int) (A9 : Option Addr) (c9 : Nat) (l9 : List Int) (r : Int) (w : World) (hN : N ≤ g) (hb0 : w.heap[g]? = some (.cells #[.int .i64 s0, .int .i64 s1, .int .i64 s2, .int .i64 s3, .int .i64 s4, .int .i64 s5, .int .i64 s6, .slice A7 l7.length c7, .slice A8 l8.length c8, .slice A9 l9.length c9] 37 (0, 0))) (hr7 : Kd.C k85 w A7 l7.length l7) (hc7 : l7.length ≤ c7) (hr9 : Kd.C (Kd.int .i64) w A9 l9.length l9) (hc9 : l9.length ≤ c9) (h : impl_Node_commit.f k s0 s1 s2 s3 s4 s5 s6 l7 l8 l9 = some r) :
   Calls Try.prog 90 #[.pointer (some ⟨g, 0, none⟩)] w fun e w' => e = .returned (.tuple #[]) ∧ w'.heap[g]? = some (.cells #[.int .i64 s0, .int .i64 s1, .int .i64 s2, .int .i64 s3, .int .i64 r, .int .i64 s5, .int .i64 s6, .slice A7 l7.length c7, .slice A8 l8.length c8, .slice A9 l9.length c9] 37 (0, 0)) ∧ Below N w w' ∧ Kept w w' (fun k_ => k_ = g) := by
 have hu37 := Try.underlying37
 have hu34 := Try.underlying34
 have GE := am hN
 have GW := am (blk_lt hb0)
 have BK := am hb0
 have HR7 := am hr7
 have HC7 := am hc7
 have HR9 := am hr9
 have HC9 := am hc9
 clear hN hb0 hr7 hc7 hr9 hc9
 have HB := am (Below.refl w.heap.size w)
 unfold impl_Node_commit.f at h
 replace h := Option.bind_eq_some_iff.mp h
 obtain ⟨t, h1, h⟩ := h
 have A1 := am h1
 have H' := am h
 clear h h1
 have hcz_0 : w.cell? ⟨g, 0, none⟩ = some (.int .i64 s0) := (blk_cell BK.out 0).trans rfl
 have hcz_1 : w.cell? ⟨g, 1, none⟩ = some (.int .i64 s1) := (blk_cell BK.out 1).trans rfl
 have hcz_2 : w.cell? ⟨g, 2, none⟩ = some (.int .i64 s2) := (blk_cell BK.out 2).trans rfl
 have hcz_3 : w.cell? ⟨g, 3, none⟩ = some (.int .i64 s3) := (blk_cell BK.out 3).trans rfl
 have hcz_4 : w.cell? ⟨g, 4, none⟩ = some (.int .i64 s4) := (blk_cell BK.out 4).trans rfl
 have hcz_5 : w.cell? ⟨g, 5, none⟩ = some (.int .i64 s5) := (blk_cell BK.out 5).trans rfl
 have hcz_6 : w.cell? ⟨g, 6, none⟩ = some (.int .i64 s6) := (blk_cell BK.out 6).trans rfl
 have hcz_7 : w.cell? ⟨g, 7, none⟩ = some (.slice A7 l7.length c7) := (blk_cell BK.out 7).trans rfl
 have hcz_8 : w.cell? ⟨g, 8, none⟩ = some (.slice A8 l8.length c8) := (blk_cell BK.out 8).trans rfl
 have hcz_9 : w.cell? ⟨g, 9, none⟩ = some (.slice A9 l9.length c9) := (blk_cell BK.out 9).trans rfl
 have hfz_0 := blk_frozen BK.out 0
 have hfz_1 := blk_frozen BK.out 1
 have hfz_2 := blk_frozen BK.out 2
 have hfz_3 := blk_frozen BK.out 3
 have hfz_4 := blk_frozen BK.out 4
 have hfz_5 := blk_frozen BK.out 5
 have hfz_6 := blk_frozen BK.out 6
 have hfz_7 := blk_frozen BK.out 7
 have hfz_8 := blk_frozen BK.out 8
 have hfz_9 := blk_frozen BK.out 9
 go_enter Try.func90, Try.ntmps90
 go_wp2_with (first | ((with_reducible refine gate_callee (f := 89) rfl ?_); refine goesL_ (some 10) rfl rfl Try.func89 kr rfl #[.agg #[.int .i64 s5, .int .i64 s6, .slice A7 l7.length c7]] rfl u14_8 ?_; (with_reducible refine (impl_RLog_last.calls s5 s6 _ _ l7 t _ ?side1 ?side2 A1.out).mono ?_); (case side1 => exact (by first | exact HR7.out | (repeat (first | exact HR7.out | (with_reducible refine Kd.C_alloc ?_ _) | (with_reducible refine Kd.C_drewN ?_ _) | (with_reducible refine Kd.C_drew ?_))))); (case side2 => exact HC7.out); rintro e w2 ⟨rfl, hb⟩; refine ⟨_, rfl, ?_⟩; have n0_ := am (below_step u14_14 hb); clear HB hb; have HB := n0_; clear n0_))
 clear hcz_0 hfz_0 hcz_1 hfz_1 hcz_2 hfz_2 hcz_3 hfz_3 hcz_4 hfz_4 hcz_5 hfz_5 hcz_6 hfz_6 hcz_7 hfz_7 hcz_8 hfz_8 hcz_9 hfz_9
 go_loopg [2] k (fun kq v2 w' => ∃ (x2 : Int), v2 = .int .i64 x2 ∧ Aside0 (impl_Node_commit.l0 kq x2 s1 s4 s5 s6 l7 l9 = some r) ∧ Aside0 (kq ≤ k) ∧ Aside0 (Below w.heap.size w w'))
 case atStart => exact ⟨_, rfl, H', ⟨Nat.le_refl _⟩, ⟨u14_14⟩⟩
 clear H' HB
 obtain ⟨x2, rfl, HA, HK1, HB⟩ := hrel
 cases gk with
 | zero => exact absurd HA.out (by simp [impl_Node_commit.l0])
 | succ k1 =>
   have H := HA.out
   clear HA
   simp only [impl_Node_commit.l0] at H
   have bk1 := blk_below BK.out HB.out
   have hcz_0 : wr.cell? ⟨g, 0, none⟩ = some (.int .i64 s0) := (blk_cell bk1 0).trans rfl
   have hcz_1 : wr.cell? ⟨g, 1, none⟩ = some (.int .i64 s1) := (blk_cell bk1 1).trans rfl
   have hcz_2 : wr.cell? ⟨g, 2, none⟩ = some (.int .i64 s2) := (blk_cell bk1 2).trans rfl
   have hcz_3 : wr.cell? ⟨g, 3, none⟩ = some (.int .i64 s3) := (blk_cell bk1 3).trans rfl
   have hcz_4 : wr.cell? ⟨g, 4, none⟩ = some (.int .i64 s4) := (blk_cell bk1 4).trans rfl
   have hcz_5 : wr.cell? ⟨g, 5, none⟩ = some (.int .i64 s5) := (blk_cell bk1 5).trans rfl
   have hcz_6 : wr.cell? ⟨g, 6, none⟩ = some (.int .i64 s6) := (blk_cell bk1 6).trans rfl
   have hcz_7 : wr.cell? ⟨g, 7, none⟩ = some (.slice A7 l7.length c7) := (blk_cell bk1 7).trans rfl
   have hcz_8 : wr.cell? ⟨g, 8, none⟩ = some (.slice A8 l8.length c8) := (blk_cell bk1 8).trans rfl
   have hcz_9 : wr.cell? ⟨g, 9, none⟩ = some (.slice A9 l9.length c9) := (blk_cell bk1 9).trans rfl
   have hfz_0 := blk_frozen bk1 0
   have hfz_1 := blk_frozen bk1 1
   have hfz_2 := blk_frozen bk1 2
   have hfz_3 := blk_frozen bk1 3
   have hfz_4 := blk_frozen bk1 4
   have hfz_5 := blk_frozen bk1 5
   have hfz_6 := blk_frozen bk1 6
   have hfz_7 := blk_frozen bk1 7
   have hfz_8 := blk_frozen bk1 8
   have hfz_9 := blk_frozen bk1 9
   clear bk1
   by_cases c12 : x2 > s4
   rotate_left
   · rw [if_neg c12] at H
     have c12b0 : decide (s4 < x2) = false := decide_eq_false c12
     clear c12
     obtain rfl := sj H
     go_wp2
     refine bodyPost_end (results_none rfl _ _ _) rfl ?_
     exact ⟨rfl, blk_below BK.out HB.out, HB.out.mono (Nat.le_trans GE.out (Nat.le_of_lt GW.out)), Kept.below (Kept.refl w _) HB.out⟩
   rw [if_pos c12] at H
   have c12b0 : decide (s4 < x2) = true := decide_eq_true c12
   clear c12
   have H' := am H
   clear H
   go_wp2
   go_loopg [3, 24] k1 (fun kq v3 v24 w' => ∃ (x3 x24 : Int), v3 = .int .i64 x3 ∧ v24 = .int .i64 x24 ∧ Aside0 (impl_Node_commit.l1 kq x2 x3 x24 s1 s4 s5 s6 l7 l9 = some r) ∧ Aside0 (kq ≤ k1) ∧ Aside0 (Below w.heap.size w w'))
   case atStart => exact ⟨_, _, rfl, rfl, H', ⟨Nat.le_refl _⟩, ⟨HB.out⟩⟩
   clear H'
   try clear hcz_0 hfz_0 hcz_1 hfz_1 hcz_2 hfz_2 hcz_3 hfz_3 hcz_4 hfz_4 hcz_5 hfz_5 hcz_6 hfz_6 hcz_7 hfz_7 hcz_8 hfz_8 hcz_9 hfz_9
   clear HB
   obtain ⟨x3, x24, rfl, rfl, HA, HK2, HB⟩ := hrel
   cases gk with
   | zero => exact absurd HA.out (by simp [impl_Node_commit.l1])
   | succ k2 =>
     have H := HA.out
     clear HA
     simp only [impl_Node_commit.l1] at H
     by_cases c15 : x24 < (l9.length : Int)
     · rw [if_pos c15] at H
       have c15b0 : decide (x24 < (l9.length : Int)) = true := decide_eq_true c15
       by_cases c16 : 0 ≤ x24
       rotate_left
       · rw [if_neg c16] at H
         exact absurd H (by simp)
       rw [if_pos c16] at H
       have c16b0 : decide (0 ≤ x24) = true := decide_eq_true c16
       have H9 := am H
       clear H
       obtain ⟨ad, e9, hw9⟩ := Kd.at_int HR9.out x24 c16 c15
       cases e9
       have hx9 := (cm HB.out hw9)
       clear hw9
       replace c15 := eq_true c15
       replace c16 := eq_true c16
       go_upto_if 30 with (fail)
       have H := H9.out
       clear H9
       by_cases c20 : (rd l9 x24) ≥ x2
       rotate_left
       · rw [if_neg c20] at H
         have c20b0 : decide (x2 ≤ (rd l9 x24)) = false := decide_eq_false c20
         clear c20
         (first | rw [c20b0] | (simp only [i64_w, i32_w]; rw [c20b0]) | skip)
         have H' := am H
         clear H
         go_wp2
         go_roundg k2
         case measure => have := HK1.out; have := HK2.out; omega
         case rel => exact ⟨x3, (wrap64 (x24 + 1)), rfl, rfl, H', ⟨by have := HK2.out; omega⟩, ⟨HB.out⟩⟩
       rw [if_pos c20] at H
       have c20b0 : decide (x2 ≤ (rd l9 x24)) = true := decide_eq_true c20
       clear c20
       (first | rw [c20b0] | (simp only [i64_w, i32_w]; rw [c20b0]) | skip)
       have H' := am H
       clear H
       go_wp2
       go_roundg k2
       case measure => have := HK1.out; have := HK2.out; omega
       case rel => exact ⟨(wrap64 (x3 + 1)), (wrap64 (x24 + 1)), rfl, rfl, H', ⟨by have := HK2.out; omega⟩, ⟨HB.out⟩⟩
     rw [if_neg c15] at H
     have c15b0 : decide (x24 < (l9.length : Int)) = false := decide_eq_false c15
     clear c15
     replace H := Option.bind_eq_some_iff.mp H
     obtain ⟨t2, A220, H⟩ := H
     have A22 := am A220
     clear A220
     by_cases c25 : t2 = s1
     rotate_left
     · rw [if_neg c25] at H
       have c25b0 : (t2 == s1) = false := beq_eq_false_iff_ne.mpr c25
       have c25b1 : (t2 != s1) = true := bne_iff_ne.mpr c25
       clear c25
       try go_wp2
       have HB := am (below_drew1 HB.out)
       refine start_ (n := 21) (S := fun w' => w'.cell? ⟨g, 0, none⟩ = some (.int .i64 s0) ∧ w'.cell? ⟨g, 1, none⟩ = some (.int .i64 s1) ∧ w'.cell? ⟨g, 2, none⟩ = some (.int .i64 s2) ∧ w'.cell? ⟨g, 3, none⟩ = some (.int .i64 s3) ∧ w'.cell? ⟨g, 4, none⟩ = some (.int .i64 s4) ∧ w'.cell? ⟨g, 5, none⟩ = some (.int .i64 s5) ∧ w'.cell? ⟨g, 6, none⟩ = some (.int .i64 s6) ∧ w'.cell? ⟨g, 7, none⟩ = some (.slice A7 l7.length c7) ∧ w'.cell? ⟨g, 8, none⟩ = some (.slice A8 l8.length c8) ∧ w'.cell? ⟨g, 9, none⟩ = some (.slice A9 l9.length c9)) (ds := []) b0_21 kr rfl rfl ⟨(blk_cell (blk_below BK.out HB.out) 0).trans rfl, (blk_cell (blk_below BK.out HB.out) 1).trans rfl, (blk_cell (blk_below BK.out HB.out) 2).trans rfl, (blk_cell (blk_below BK.out HB.out) 3).trans rfl, (blk_cell (blk_below BK.out HB.out) 4).trans rfl, (blk_cell (blk_below BK.out HB.out) 5).trans rfl, (blk_cell (blk_below BK.out HB.out) 6).trans rfl, (blk_cell (blk_below BK.out HB.out) 7).trans rfl, (blk_cell (blk_below BK.out HB.out) 8).trans rfl, (blk_cell (blk_below BK.out HB.out) 9).trans rfl⟩ (fun hHeld => ?_); refine with_tabW impl_Node_commit.tab10 impl_Node_commit.bits10 (fun HT_ HW_ => ?_)
       generalize wr.drew = w23 at HB hHeld ⊢
       refine pV 0 34 (bt 1 21) ?_
       refine pV 1 35 (bt 2 21) ?_
       refine pV 2 36 (bt 3 21) ?_
       refine pV 4 38 bx39 ?_
       refine pV 6 40 bx40 ?_
       refine pV 7 41 bx41 ?_
       refine pV 8 42 bx42 ?_
       refine take_ (i := 3) (N := some 37) (v := ?_) (a' := ?_) bx43 rfl rfl (take_ofW HT_.out HW_.out kr) (fun _ _ _ h => h) (Or.inl ⟨by rfl, ?_⟩) hHeld ?_ ?_
       rotate_left
       · rintro w' ⟨q0_, q1_, q2_, q3_, q4_, q5_, q6_, q7_, q8_, q9_⟩
         go_simp
         with_reducible rfl
       rotate_left
       · simp only [Act.put, la, lb, lc, i64_w, i32_w]
         rfl
       refine take_ (i := 9) (N := some 43) (v := ?_) (a' := ?_) bx44 rfl rfl (take_ofW HT_.out HW_.out kr) (fun _ _ _ h => h) (Or.inl ⟨by rfl, ?_⟩) hHeld ?_ ?_
       rotate_left
       · rintro w' ⟨q0_, q1_, q2_, q3_, q4_, q5_, q6_, q7_, q8_, q9_⟩
         go_simp
         with_reducible rfl
       rotate_left
       · simp only [Act.put, la, lb, lc, i64_w, i32_w]
         rfl
       refine one_ (i := 5) (N := some 39) b10_21 rfl rfl (one_of HT_.out kr) (by decide) (fun K hK => ?_)
       refine goes_ Try.func92 kr rfl #[.agg #[.int .i64 s5, .int .i64 s6, .slice A7 l7.length c7], .int .i64 x2] (by rfl) rfl rfl u14_8 ?_
       with_reducible refine (impl_RLog_term.calls s5 s6 _ _ l7 x2 t2 _ ?side1 ?side2 A22.out).mono ?_
       (case side1 => exact Kd.C_below HR7.out HB.out)
       (case side2 => exact HC7.out)
       rintro e w24 ⟨rfl, hb⟩
       refine ⟨_, rfl, ?_⟩
       have n0_ := am (below_step HB.out hb)
       clear HB hb
       have HB := n0_
       clear n0_
       refine hK.out _ _ ⟨(blk_cell (blk_below BK.out HB.out) 0).trans rfl, (blk_cell (blk_below BK.out HB.out) 1).trans rfl, (blk_cell (blk_below BK.out HB.out) 2).trans rfl, (blk_cell (blk_below BK.out HB.out) 3).trans rfl, (blk_cell (blk_below BK.out HB.out) 4).trans rfl, (blk_cell (blk_below BK.out HB.out) 5).trans rfl, (blk_cell (blk_below BK.out HB.out) 6).trans rfl, (blk_cell (blk_below BK.out HB.out) 7).trans rfl, (blk_cell (blk_below BK.out HB.out) 8).trans rfl, (blk_cell (blk_below BK.out HB.out) 9).trans rfl⟩ (fun hHeld => ?_)
       clear hK K
       refine norm_ (a' := ?_) ?_ ?_
       rotate_left
       · show Act.put _ (some 39) _ = _
         simp only [Act.put, la, lb, lc, i64_w, i32_w]
         rfl
       refine pV 10 44 (bt 11 21) ?_
       refine pV 11 45 (bt 12 21) ?_
       refine pU 12 46 (bt 13 21) ?_
       refine pU 13 47 (bt 14 21) ?_
       refine pU 14 48 (bt 15 21) ?_
       refine pU 15 49 (bt 16 21) ?_
       refine pU 16 50 (bt 17 21) ?_
       refine pU 17 51 (bt 18 21) ?_
       refine pU 18 52 (bt 19 21) ?_
       refine pU 19 53 (bt 20 21) ?_
       refine pV 20 54 (bt 21 21) ?_
       refine done_ (done_of HT_.out kr) ?_
       have H' := am H
       clear H
       try go_wp2
       go_roundg k2
       case measure => have := HK1.out; have := HK2.out; omega
       case rel => exact ⟨(wrap64 (x2 - 1)), rfl, H', ⟨(by have := HK1.out; have := HK2.out; omega)⟩, ⟨HB.out⟩⟩
     rw [if_pos c25] at H
     have c25b0 : (t2 == s1) = true := beq_iff_eq.mpr c25
     have c25b1 : (t2 != s1) = false := bne_eq_false_iff_eq.mpr c25
     clear c25
     by_cases c26 : (wrap64 (2 * x3)) > (l9.length : Int)
     rotate_left
     · rw [if_neg c26] at H
       have c26b0 : decide ((l9.length : Int) < (wrap64 (2 * x3))) = false := decide_eq_false c26
       clear c26
       try go_wp2
       have HB := am (below_drew1 HB.out)
       refine start_ (n := 21) (S := fun w' => w'.cell? ⟨g, 0, none⟩ = some (.int .i64 s0) ∧ w'.cell? ⟨g, 1, none⟩ = some (.int .i64 s1) ∧ w'.cell? ⟨g, 2, none⟩ = some (.int .i64 s2) ∧ w'.cell? ⟨g, 3, none⟩ = some (.int .i64 s3) ∧ w'.cell? ⟨g, 4, none⟩ = some (.int .i64 s4) ∧ w'.cell? ⟨g, 5, none⟩ = some (.int .i64 s5) ∧ w'.cell? ⟨g, 6, none⟩ = some (.int .i64 s6) ∧ w'.cell? ⟨g, 7, none⟩ = some (.slice A7 l7.length c7) ∧ w'.cell? ⟨g, 8, none⟩ = some (.slice A8 l8.length c8) ∧ w'.cell? ⟨g, 9, none⟩ = some (.slice A9 l9.length c9)) (ds := []) b0_21 kr rfl rfl ⟨(blk_cell (blk_below BK.out HB.out) 0).trans rfl, (blk_cell (blk_below BK.out HB.out) 1).trans rfl, (blk_cell (blk_below BK.out HB.out) 2).trans rfl, (blk_cell (blk_below BK.out HB.out) 3).trans rfl, (blk_cell (blk_below BK.out HB.out) 4).trans rfl, (blk_cell (blk_below BK.out HB.out) 5).trans rfl, (blk_cell (blk_below BK.out HB.out) 6).trans rfl, (blk_cell (blk_below BK.out HB.out) 7).trans rfl, (blk_cell (blk_below BK.out HB.out) 8).trans rfl, (blk_cell (blk_below BK.out HB.out) 9).trans rfl⟩ (fun hHeld => ?_); refine with_tabW impl_Node_commit.tab10 impl_Node_commit.bits10 (fun HT_ HW_ => ?_)
       generalize wr.drew = w23 at HB hHeld ⊢
       refine pV 0 34 (bt 1 21) ?_
       refine pV 1 35 (bt 2 21) ?_
       refine pV 2 36 (bt 3 21) ?_
       refine pV 4 38 bx39 ?_
       refine pV 6 40 bx40 ?_
       refine pV 7 41 bx41 ?_
       refine pV 8 42 bx42 ?_
       refine take_ (i := 3) (N := some 37) (v := ?_) (a' := ?_) bx43 rfl rfl (take_ofW HT_.out HW_.out kr) (fun _ _ _ h => h) (Or.inl ⟨by rfl, ?_⟩) hHeld ?_ ?_
       rotate_left
       · rintro w' ⟨q0_, q1_, q2_, q3_, q4_, q5_, q6_, q7_, q8_, q9_⟩
         go_simp
         with_reducible rfl
       rotate_left
       · simp only [Act.put, la, lb, lc, i64_w, i32_w]
         rfl
       refine take_ (i := 9) (N := some 43) (v := ?_) (a' := ?_) bx44 rfl rfl (take_ofW HT_.out HW_.out kr) (fun _ _ _ h => h) (Or.inl ⟨by rfl, ?_⟩) hHeld ?_ ?_
       rotate_left
       · rintro w' ⟨q0_, q1_, q2_, q3_, q4_, q5_, q6_, q7_, q8_, q9_⟩
         go_simp
         with_reducible rfl
       rotate_left
       · simp only [Act.put, la, lb, lc, i64_w, i32_w]
         rfl
       refine one_ (i := 5) (N := some 39) b10_21 rfl rfl (one_of HT_.out kr) (by decide) (fun K hK => ?_)
       refine goes_ Try.func92 kr rfl #[.agg #[.int .i64 s5, .int .i64 s6, .slice A7 l7.length c7], .int .i64 x2] (by rfl) rfl rfl u14_8 ?_
       with_reducible refine (impl_RLog_term.calls s5 s6 _ _ l7 x2 t2 _ ?side1 ?side2 A22.out).mono ?_
       (case side1 => exact Kd.C_below HR7.out HB.out)
       (case side2 => exact HC7.out)
       rintro e w24 ⟨rfl, hb⟩
       refine ⟨_, rfl, ?_⟩
       have n0_ := am (below_step HB.out hb)
       clear HB hb
       have HB := n0_
       clear n0_
       refine hK.out _ _ ⟨(blk_cell (blk_below BK.out HB.out) 0).trans rfl, (blk_cell (blk_below BK.out HB.out) 1).trans rfl, (blk_cell (blk_below BK.out HB.out) 2).trans rfl, (blk_cell (blk_below BK.out HB.out) 3).trans rfl, (blk_cell (blk_below BK.out HB.out) 4).trans rfl, (blk_cell (blk_below BK.out HB.out) 5).trans rfl, (blk_cell (blk_below BK.out HB.out) 6).trans rfl, (blk_cell (blk_below BK.out HB.out) 7).trans rfl, (blk_cell (blk_below BK.out HB.out) 8).trans rfl, (blk_cell (blk_below BK.out HB.out) 9).trans rfl⟩ (fun hHeld => ?_)
       clear hK K
       refine norm_ (a' := ?_) ?_ ?_
       rotate_left
       · show Act.put _ (some 39) _ = _
         simp only [Act.put, la, lb, lc, i64_w, i32_w]
         rfl
       refine pV 10 44 (bt 11 21) ?_
       refine pV 11 45 (bt 12 21) ?_
       refine pV 12 46 (bt 13 21) ?_
       refine pV 13 47 (bt 14 21) ?_
       refine pV 14 48 (bt 15 21) ?_
       refine pV 15 49 (bt 16 21) ?_
       refine pV 16 50 (bt 17 21) ?_
       refine take_ (i := 17) (N := some 51) (v := ?_) (a' := ?_) b18_21 rfl rfl (take_ofW HT_.out HW_.out kr) (fun _ _ _ h => h) (Or.inl ⟨by rfl, ?_⟩) hHeld ?_ ?_
       rotate_left
       · rintro w' ⟨q0_, q1_, q2_, q3_, q4_, q5_, q6_, q7_, q8_, q9_⟩
         go_simp
         with_reducible rfl
       rotate_left
       · simp only [Act.put, la, lb, lc, i64_w, i32_w]
         rfl
       refine pV 18 52 (bt 19 21) ?_
       refine pV 19 53 (bt 20 21) ?_
       refine pV 20 54 (bt 21 21) ?_
       refine done_ (done_of HT_.out kr) ?_
       have H' := am H
       clear H
       try go_wp2
       go_roundg k2
       case measure => have := HK1.out; have := HK2.out; omega
       case rel => exact ⟨(wrap64 (x2 - 1)), rfl, H', ⟨(by have := HK1.out; have := HK2.out; omega)⟩, ⟨HB.out⟩⟩
     rw [if_pos c26] at H
     have c26b0 : decide ((l9.length : Int) < (wrap64 (2 * x3))) = true := decide_eq_true c26
     clear c26
     try go_wp2
     have HB := am (below_drew1 HB.out)
     refine start_ (n := 21) (S := fun w' => w'.cell? ⟨g, 0, none⟩ = some (.int .i64 s0) ∧ w'.cell? ⟨g, 1, none⟩ = some (.int .i64 s1) ∧ w'.cell? ⟨g, 2, none⟩ = some (.int .i64 s2) ∧ w'.cell? ⟨g, 3, none⟩ = some (.int .i64 s3) ∧ w'.cell? ⟨g, 4, none⟩ = some (.int .i64 s4) ∧ w'.cell? ⟨g, 5, none⟩ = some (.int .i64 s5) ∧ w'.cell? ⟨g, 6, none⟩ = some (.int .i64 s6) ∧ w'.cell? ⟨g, 7, none⟩ = some (.slice A7 l7.length c7) ∧ w'.cell? ⟨g, 8, none⟩ = some (.slice A8 l8.length c8) ∧ w'.cell? ⟨g, 9, none⟩ = some (.slice A9 l9.length c9)) (ds := []) b0_21 kr rfl rfl ⟨(blk_cell (blk_below BK.out HB.out) 0).trans rfl, (blk_cell (blk_below BK.out HB.out) 1).trans rfl, (blk_cell (blk_below BK.out HB.out) 2).trans rfl, (blk_cell (blk_below BK.out HB.out) 3).trans rfl, (blk_cell (blk_below BK.out HB.out) 4).trans rfl, (blk_cell (blk_below BK.out HB.out) 5).trans rfl, (blk_cell (blk_below BK.out HB.out) 6).trans rfl, (blk_cell (blk_below BK.out HB.out) 7).trans rfl, (blk_cell (blk_below BK.out HB.out) 8).trans rfl, (blk_cell (blk_below BK.out HB.out) 9).trans rfl⟩ (fun hHeld => ?_); refine with_tabW impl_Node_commit.tab10 impl_Node_commit.bits10 (fun HT_ HW_ => ?_)
     generalize wr.drew = w23 at HB hHeld ⊢
     refine pV 0 34 (bt 1 21) ?_
     refine pV 1 35 (bt 2 21) ?_
     refine pV 2 36 (bt 3 21) ?_
     refine pV 4 38 bx39 ?_
     refine pV 6 40 bx40 ?_
     refine pV 7 41 bx41 ?_
     refine pV 8 42 bx42 ?_
     refine take_ (i := 3) (N := some 37) (v := ?_) (a' := ?_) bx43 rfl rfl (take_ofW HT_.out HW_.out kr) (fun _ _ _ h => h) (Or.inl ⟨by rfl, ?_⟩) hHeld ?_ ?_
     rotate_left
     · rintro w' ⟨q0_, q1_, q2_, q3_, q4_, q5_, q6_, q7_, q8_, q9_⟩
       go_simp
       with_reducible rfl
     rotate_left
     · simp only [Act.put, la, lb, lc, i64_w, i32_w]
       rfl
     refine take_ (i := 9) (N := some 43) (v := ?_) (a' := ?_) bx44 rfl rfl (take_ofW HT_.out HW_.out kr) (fun _ _ _ h => h) (Or.inl ⟨by rfl, ?_⟩) hHeld ?_ ?_
     rotate_left
     · rintro w' ⟨q0_, q1_, q2_, q3_, q4_, q5_, q6_, q7_, q8_, q9_⟩
       go_simp
       with_reducible rfl
     rotate_left
     · simp only [Act.put, la, lb, lc, i64_w, i32_w]
       rfl
     refine one_ (i := 5) (N := some 39) b10_21 rfl rfl (one_of HT_.out kr) (by decide) (fun K hK => ?_)
     refine goes_ Try.func92 kr rfl #[.agg #[.int .i64 s5, .int .i64 s6, .slice A7 l7.length c7], .int .i64 x2] (by rfl) rfl rfl u14_8 ?_
     with_reducible refine (impl_RLog_term.calls s5 s6 _ _ l7 x2 t2 _ ?side1 ?side2 A22.out).mono ?_
     (case side1 => exact Kd.C_below HR7.out HB.out)
     (case side2 => exact HC7.out)
     rintro e w24 ⟨rfl, hb⟩
     refine ⟨_, rfl, ?_⟩
     have n0_ := am (below_step HB.out hb)
     clear HB hb
     have HB := n0_
     clear n0_
     refine hK.out _ _ ⟨(blk_cell (blk_below BK.out HB.out) 0).trans rfl, (blk_cell (blk_below BK.out HB.out) 1).trans rfl, (blk_cell (blk_below BK.out HB.out) 2).trans rfl, (blk_cell (blk_below BK.out HB.out) 3).trans rfl, (blk_cell (blk_below BK.out HB.out) 4).trans rfl, (blk_cell (blk_below BK.out HB.out) 5).trans rfl, (blk_cell (blk_below BK.out HB.out) 6).trans rfl, (blk_cell (blk_below BK.out HB.out) 7).trans rfl, (blk_cell (blk_below BK.out HB.out) 8).trans rfl, (blk_cell (blk_below BK.out HB.out) 9).trans rfl⟩ (fun hHeld => ?_)
     clear hK K
     refine norm_ (a' := ?_) ?_ ?_
     rotate_left
     · show Act.put _ (some 39) _ = _
       simp only [Act.put, la, lb, lc, i64_w, i32_w]
       rfl
     refine pV 10 44 (bt 11 21) ?_
     refine pV 11 45 (bt 12 21) ?_
     refine pV 12 46 (bt 13 21) ?_
     refine pV 13 47 (bt 14 21) ?_
     refine pV 14 48 (bt 15 21) ?_
     refine pV 15 49 (bt 16 21) ?_
     refine pV 16 50 (bt 17 21) ?_
     refine take_ (i := 17) (N := some 51) (v := ?_) (a' := ?_) b18_21 rfl rfl (take_ofW HT_.out HW_.out kr) (fun _ _ _ h => h) (Or.inl ⟨by rfl, ?_⟩) hHeld ?_ ?_
     rotate_left
     · rintro w' ⟨q0_, q1_, q2_, q3_, q4_, q5_, q6_, q7_, q8_, q9_⟩
       go_simp
       with_reducible rfl
     rotate_left
     · simp only [Act.put, la, lb, lc, i64_w, i32_w]
       rfl
     refine pV 18 52 (bt 19 21) ?_
     refine pV 19 53 (bt 20 21) ?_
     refine pV 20 54 (bt 21 21) ?_
     refine done_ (done_of HT_.out kr) ?_
     obtain rfl := sj H
     have bk1 := blk_below BK.out HB.out
     have hcz_0 : w24.cell? ⟨g, 0, none⟩ = some (.int .i64 s0) := (blk_cell bk1 0).trans rfl
     have hcz_1 : w24.cell? ⟨g, 1, none⟩ = some (.int .i64 s1) := (blk_cell bk1 1).trans rfl
     have hcz_2 : w24.cell? ⟨g, 2, none⟩ = some (.int .i64 s2) := (blk_cell bk1 2).trans rfl
     have hcz_3 : w24.cell? ⟨g, 3, none⟩ = some (.int .i64 s3) := (blk_cell bk1 3).trans rfl
     have hcz_4 : w24.cell? ⟨g, 4, none⟩ = some (.int .i64 s4) := (blk_cell bk1 4).trans rfl
     have hcz_5 : w24.cell? ⟨g, 5, none⟩ = some (.int .i64 s5) := (blk_cell bk1 5).trans rfl
     have hcz_6 : w24.cell? ⟨g, 6, none⟩ = some (.int .i64 s6) := (blk_cell bk1 6).trans rfl
     have hcz_7 : w24.cell? ⟨g, 7, none⟩ = some (.slice A7 l7.length c7) := (blk_cell bk1 7).trans rfl
     have hcz_8 : w24.cell? ⟨g, 8, none⟩ = some (.slice A8 l8.length c8) := (blk_cell bk1 8).trans rfl
     have hcz_9 : w24.cell? ⟨g, 9, none⟩ = some (.slice A9 l9.length c9) := (blk_cell bk1 9).trans rfl
     have hfz_0 := blk_frozen bk1 0
     have hfz_1 := blk_frozen bk1 1
     have hfz_2 := blk_frozen bk1 2
     have hfz_3 := blk_frozen bk1 3
     have hfz_4 := blk_frozen bk1 4
     have hfz_5 := blk_frozen bk1 5
     have hfz_6 := blk_frozen bk1 6
     have hfz_7 := blk_frozen bk1 7
     have hfz_8 := blk_frozen bk1 8
     have hfz_9 := blk_frozen bk1 9
     clear bk1
     try go_wp2
     refine bodyPost_ret (results_none rfl _ _ _) rfl ?_
     exact ⟨rfl, blk_put (cs := #[.int .i64 s0, .int .i64 s1, .int .i64 s2, .int .i64 s3, .int .i64 s4, .int .i64 s5, .int .i64 s6, .slice A7 l7.length c7, .slice A8 l8.length c8, .slice A9 l9.length c9]) (blk_below BK.out HB.out) 4 _ rfl, Below.setCell (HB.out.mono (Nat.le_trans GE.out (Nat.le_of_lt GW.out))) GE.out _, Kept.setCell (S := fun k_ => k_ = g) (Kept.below (Kept.refl w _) HB.out) (.inl rfl) _⟩


end Go.Proofs.Ytkcadcoohmofcaa.QFnExactPropose
