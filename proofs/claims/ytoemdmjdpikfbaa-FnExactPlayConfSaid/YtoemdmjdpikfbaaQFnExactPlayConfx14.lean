import Derived.Test.YtoemdmjdpikfbaaSqFnExactPlayConf
import Derived.Test.YtoemdmjdpikfbaaQFnExactPlayConfx0
import Derived.Test.YtoemdmjdpikfbaaQFnExactPlayConfx1
import Derived.Test.YtoemdmjdpikfbaaQFnExactPlayConfx9
import Derived.Test.YtoemdmjdpikfbaaQFnExactPlayConfx10
import Derived.Test.YtoemdmjdpikfbaaQFnExactPlayConfx11
import Derived.Test.YtoemdmjdpikfbaaQFnExactPlayConfx13
namespace Go.Proofs.Ytoemdmjdpikfbaa.QFnExactPlayConf
open Go.RowKit Go.Proofs.YtoemdmjdpikfbaaW.PrintWords Go.Proofs.YtoemdmjdpikfbaaW.PrintLast Go.Proofs.YtoemdmjdpikfbaaW.PrintMore Go.Proofs.Ytoemdmjdpikfbaa.SqFnExactPlayConf
attribute [local go_sem] max2_int min2_int max_two min_two max_three min_three max_four min_four Go.Proofs.Ytoemdmjdpikfbaa.Set.isSome_setCell
set_option linter.unusedVariables false
set_option linter.unusedSimpArgs false
theorem u14_0 {P : Prop} (h : P := by (with_reducible repeat (first | apply r1_ | apply r2_ | apply r3_)); exact (Kd.R_mono (Kd.R_far (p := ⟨gb536, 2, none⟩) (Kd.R_far (p := ⟨gb536, 1, none⟩) (Kd.R_far (p := ⟨gb536, 0, none⟩) (Kd.R_types HO_512000.out BK536.out (by decide)) (fun _ hk => hk.2) (.int .i64 ((rd_T77 l1 x25_2).f0))) (fun _ hk => hk.2) (.int .i64 ((rd_T77 l1 x25_2).f1))) (fun _ hk => hk.2) (.slice A535_2 ((rd_T77 l1 x25_2).f2).length c535_2)) (fun _ h_ => h_.1))) : P := h
theorem u14_1 {P : Prop} (h : P := by (with_reducible repeat (first | apply r1_ | apply r2_ | apply r3_)); exact (Kd.R_mono (Kd.R_far (p := ⟨gb536, 2, none⟩) (Kd.R_far (p := ⟨gb536, 1, none⟩) (Kd.R_far (p := ⟨gb536, 0, none⟩) (Kd.R_types HO_512001.out BK536.out (by decide)) (fun _ hk => hk.2) (.int .i64 ((rd_T77 l1 x25_2).f0))) (fun _ hk => hk.2) (.int .i64 ((rd_T77 l1 x25_2).f1))) (fun _ hk => hk.2) (.slice A535_2 ((rd_T77 l1 x25_2).f2).length c535_2)) (fun _ h_ => h_.1))) : P := h
theorem u14_2 {P : Prop} (h : P := by (with_reducible repeat (first | apply r1_ | apply r2_ | apply r3_)); exact (Kd.R_mono (Kd.R_far (p := ⟨gb536, 2, none⟩) (Kd.R_far (p := ⟨gb536, 1, none⟩) (Kd.R_far (p := ⟨gb536, 0, none⟩) (Kd.R_types HO_512002.out BK536.out (by decide)) (fun _ hk => hk.2) (.int .i64 ((rd_T77 l1 x25_2).f0))) (fun _ hk => hk.2) (.int .i64 ((rd_T77 l1 x25_2).f1))) (fun _ hk => hk.2) (.slice A535_2 ((rd_T77 l1 x25_2).f2).length c535_2)) (fun _ h_ => h_.1))) : P := h
theorem u14_5 {P : Prop} (h : P := by (with_reducible repeat (first | apply b1_ | apply b2_ | apply b3_)); refine blk_put (cs := #[.int .i64 ((rd_T77 l1 x25_2).f0), .int .i64 ((rd_T77 l1 x25_2).f1), .slice none 0 0]) ?_ 2 _ rfl; (with_reducible repeat (first | apply b1_ | apply b2_ | apply b3_)); refine blk_put (cs := #[.int .i64 ((rd_T77 l1 x25_2).f0), .int .i64 0, .slice none 0 0]) ?_ 1 _ rfl; (with_reducible repeat (first | apply b1_ | apply b2_ | apply b3_)); refine blk_put (cs := #[.int .i64 0, .int .i64 0, .slice none 0 0]) ?_ 0 _ rfl; (with_reducible repeat (first | apply b1_ | apply b2_ | apply b3_)); exact BK536.out) : P := h
theorem u14_6 {P : Prop} (h : P := by (with_reducible repeat (first | apply r1_ | apply r2_ | apply r3_)); exact (Kd.R_mono (Kd.R_far (p := ⟨gb536, 2, none⟩) (Kd.R_far (p := ⟨gb536, 1, none⟩) (Kd.R_far (p := ⟨gb536, 0, none⟩) (Kd.R_types HO_6.out BK536.out (by decide)) (fun _ hk => hk.2) (.int .i64 ((rd_T77 l1 x25_2).f0))) (fun _ hk => hk.2) (.int .i64 ((rd_T77 l1 x25_2).f1))) (fun _ hk => hk.2) (.slice A535_2 ((rd_T77 l1 x25_2).f2).length c535_2)) (fun _ h_ => h_.1))) : P := h
theorem u14_7 {P : Prop} (h : P := by (with_reducible repeat (first | apply r1_ | apply r2_ | apply r3_)); exact (Kd.R_mono (Kd.R_far (p := ⟨gb511, 2, none⟩) (Kd.R_far (p := ⟨gb511, 1, none⟩) (Kd.R_far (p := ⟨gb511, 0, none⟩) (Kd.R_types HO_6.out BK511.out (by decide)) (fun _ hk => hk.2) (.slice Ao101 t576.length co101)) (fun _ hk => hk.2) (.slice Ao103 t579.length co103)) (fun _ hk => hk.2) (.slice Ao104 t582.length co104)) (fun _ h_ => h_.1))) : P := h
theorem u14_8 {P : Prop} (h : P := by (with_reducible repeat (first | apply r1_ | apply r2_ | apply r3_)); exact (Kd.R_mono (Kd.R_far (p := ⟨gb511, 2, none⟩) (Kd.R_far (p := ⟨gb511, 1, none⟩) (Kd.R_far (p := ⟨gb511, 0, none⟩) (Kd.R_types HO_6.out BK511.out (by decide)) (fun _ hk => hk.2) (.slice Ao52 t537.length co52)) (fun _ hk => hk.2) (.slice Ao54 t540.length co54)) (fun _ hk => hk.2) (.slice Ao55 t543.length co55)) (fun _ h_ => h_.1))) : P := h
theorem u14_9 {P : Prop} (h : P := by (with_reducible repeat (first | apply r1_ | apply r2_ | apply r3_)); exact (Kd.R_mono (Kd.R_far (p := ⟨gb511, 2, none⟩) (Kd.R_far (p := ⟨gb511, 1, none⟩) (Kd.R_far (p := ⟨gb511, 0, none⟩) (Kd.R_types HO_6.out BK511.out (by decide)) (fun _ hk => hk.2) (.slice Ao67 t550.length co67)) (fun _ hk => hk.2) (.slice Ao69 t553.length co69)) (fun _ hk => hk.2) (.slice Ao70 t556.length co70)) (fun _ h_ => h_.1))) : P := h
theorem u14_10 {P : Prop} (h : P := by (with_reducible repeat (first | apply r1_ | apply r2_ | apply r3_)); exact (Kd.R_mono (Kd.R_far (p := ⟨gb511, 2, none⟩) (Kd.R_far (p := ⟨gb511, 1, none⟩) (Kd.R_far (p := ⟨gb511, 0, none⟩) (Kd.R_types HO_6.out BK511.out (by decide)) (fun _ hk => hk.2) (.slice Ao84 t563.length co84)) (fun _ hk => hk.2) (.slice Ao86 t566.length co86)) (fun _ hk => hk.2) (.slice Ao87 t569.length co87)) (fun _ h_ => h_.1))) : P := h
theorem u14_11 {P : Prop} (h : P := by (with_reducible repeat (first | apply b1_ | apply b2_ | apply b3_)); refine blk_far ?_ NB512_511.out _; (with_reducible repeat (first | apply b1_ | apply b2_ | apply b3_)); refine blk_far ?_ NB512_511.out _; (with_reducible repeat (first | apply b1_ | apply b2_ | apply b3_)); refine blk_far ?_ NB512_511.out _; (with_reducible repeat (first | apply b1_ | apply b2_ | apply b3_)); exact BK512.out) : P := h
theorem u14_12 {P : Prop} (h : P := by (with_reducible repeat (first | apply b1_ | apply b2_ | apply b3_)); refine blk_far ?_ NB511_536.out _; (with_reducible repeat (first | apply b1_ | apply b2_ | apply b3_)); refine blk_far ?_ NB511_536.out _; (with_reducible repeat (first | apply b1_ | apply b2_ | apply b3_)); refine blk_far ?_ NB511_536.out _; (with_reducible repeat (first | apply b1_ | apply b2_ | apply b3_)); exact BK511.out) : P := h
theorem u14_13 {P : Prop} (h : P := by (with_reducible repeat (first | apply b1_ | apply b2_ | apply b3_)); refine blk_far ?_ NB512_536.out _; (with_reducible repeat (first | apply b1_ | apply b2_ | apply b3_)); refine blk_far ?_ NB512_536.out _; (with_reducible repeat (first | apply b1_ | apply b2_ | apply b3_)); refine blk_far ?_ NB512_536.out _; (with_reducible repeat (first | apply b1_ | apply b2_ | apply b3_)); exact BK512.out) : P := h
theorem u14_14 {P : Prop} (h : P := by (with_reducible repeat (first | apply b1_ | apply b2_ | apply b3_)); exact BK511.out) : P := h
theorem u14_15 {P : Prop} (h : P := by (with_reducible repeat (first | apply b1_ | apply b2_ | apply b3_)); exact BK512.out) : P := h
theorem u14_16 {P : Prop} (h : P := by (with_reducible repeat (first | apply b1_ | apply b2_ | apply b3_)); refine blk_far ?_ NB536_511.out _; (with_reducible repeat (first | apply b1_ | apply b2_ | apply b3_)); refine blk_far ?_ NB536_511.out _; (with_reducible repeat (first | apply b1_ | apply b2_ | apply b3_)); refine blk_far ?_ NB536_511.out _; (with_reducible repeat (first | apply b1_ | apply b2_ | apply b3_)); exact BK536.out) : P := h
theorem u14_26 {P : Prop} (h : P := by (with_reducible repeat (first | apply b1_ | apply b2_ | apply b3_)); exact BK594.out) : P := h
theorem u14_31 {P : Prop} (h : P := by (with_reducible repeat (first | apply r1_ | apply r2_ | apply r3_)); exact HO_512000.out) : P := h
theorem u14_32 {P : Prop} (h : P := by (with_reducible repeat (first | apply r1_ | apply r2_ | apply r3_)); exact HO_512001.out) : P := h
theorem u14_33 {P : Prop} (h : P := by (with_reducible repeat (first | apply r1_ | apply r2_ | apply r3_)); exact HO_512002.out) : P := h
mutual
def impl_PlayConf.j0 : Nat → List (S77) → Bool → List Int → List Int → List Int → Option (List Int × List Int × List Int × List Bool)
 | 0, _, _, _, _, _ => none
 | k + 1, x1, x17, x512000, x512001, x512002 => if x17 = true then ((impl_copyConf.f x512000 x512001 x512002).bind fun bt514 => (some (bt514.1, bt514.2.1, bt514.2.2, ([] : List Bool)))) else ((impl_copyConf.f x512000 x512001 x512002).bind fun bt523 => (impl_PlayConf.l0 k (([] : List Bool)) x1 (x1.length : Int) 0 bt523.1 bt523.2.1 bt523.2.2))
def impl_PlayConf.l0 : Nat → List Bool → List (S77) → Int → Int → List Int → List Int → List Int → Option (List Int × List Int × List Int × List Bool)
 | 0, _, _, _, _, _, _, _ => none
 | k + 1, x6, x23, x24, x25, x512000, x512001, x512002 => if x25 < x24 then (if 0 ≤ x25 then (if x25 < (x23.length : Int) then (if ((rd_T77 x23 x25).f0) = 0 then ((impl_begin.f k x512000 x512001 x512002 ((rd_T77 x23 x25).f2)).bind fun bt537 => (if x6.length < 140737488355328 then (impl_PlayConf.l0 k (x6 ++ [bt537.2.2.2]) x23 x24 (wrap64 (x25 + 1)) bt537.1 bt537.2.1 bt537.2.2.1) else (none))) else (if ((rd_T77 x23 x25).f0) = 1 then ((impl_finish.f k x512000 x512001 x512002).bind fun bt550 => (if x6.length < 140737488355328 then (impl_PlayConf.l0 k (x6 ++ [bt550.2.2.2]) x23 x24 (wrap64 (x25 + 1)) bt550.1 bt550.2.1 bt550.2.2.1) else (none))) else (if ((rd_T77 x23 x25).f0) = 2 then ((impl_learner.f k x512000 x512001 x512002 ((rd_T77 x23 x25).f1) (((rd_T77 x23 x25).f0) == 2)).bind fun bt563 => (if x6.length < 140737488355328 then (impl_PlayConf.l0 k (x6 ++ [bt563.2.2.2]) x23 x24 (wrap64 (x25 + 1)) bt563.1 bt563.2.1 bt563.2.2.1) else (none))) else (if ((rd_T77 x23 x25).f0) = 3 then ((impl_learner.f k x512000 x512001 x512002 ((rd_T77 x23 x25).f1) (((rd_T77 x23 x25).f0) == 2)).bind fun bt576 => (if x6.length < 140737488355328 then (impl_PlayConf.l0 k (x6 ++ [bt576.2.2.2]) x23 x24 (wrap64 (x25 + 1)) bt576.1 bt576.2.1 bt576.2.2.1) else (none))) else (if x6.length < 140737488355328 then (impl_PlayConf.l0 k (x6 ++ [false]) x23 x24 (wrap64 (x25 + 1)) x512000 x512001 x512002) else (none)))))) else (none)) else (none)) else (some (x512000, x512001, x512002, x6))
end
def impl_PlayConf.f (k : Nat) (l0_0 : List Int) (l0_1 : List Int) (l0_2 : List Int) (l1 : List (S77)) : Option (List Int × List Int × List Int × List Bool) := (impl_isConf.f k l0_0 l0_1 l0_2).bind fun t513 => (if t513 = true then (impl_PlayConf.j0 k l1 (decide ((l1.length : Int) > 100)) l0_0 l0_1 l0_2) else (impl_PlayConf.j0 k l1 true l0_0 l0_1 l0_2))
theorem impl_PlayConf.mono_l : ∀ k, (∀ y0 y1 y2 y3 y4, LeO (impl_PlayConf.j0 k y0 y1 y2 y3 y4) (impl_PlayConf.j0 (k + 1) y0 y1 y2 y3 y4)) ∧ (∀ y0 y1 y2 y3 y4 y5 y6, LeO (impl_PlayConf.l0 k y0 y1 y2 y3 y4 y5 y6) (impl_PlayConf.l0 (k + 1) y0 y1 y2 y3 y4 y5 y6))
 | 0 => ⟨fun _ _ _ _ _ r h => by simp [impl_PlayConf.j0] at h, fun _ _ _ _ _ _ _ r h => by simp [impl_PlayConf.l0] at h⟩
 | k + 1 => by
   obtain ⟨ih0, ih1⟩ := impl_PlayConf.mono_l k
   refine ⟨?_, ?_⟩ <;> intros <;> (first | unfold impl_PlayConf.j0 | unfold impl_PlayConf.l0) <;> repeat' first
   | (with_reducible exact ih0 _ _ _ _ _)
   | (with_reducible exact ih1 _ _ _ _ _ _ _)
   | (with_reducible exact impl_begin.mono _ _ _ _ _)
   | (with_reducible exact impl_finish.mono _ _ _ _)
   | (with_reducible exact impl_isConf.mono _ _ _ _)
   | (with_reducible exact impl_learner.mono _ _ _ _ _ _)
   | (with_reducible exact LeO.refl _)
   | (with_reducible exact LeO.none _)
   | (with_reducible refine LeO.ite ?_ ?_)
   | (with_reducible refine LeO.bind ?_ (fun _ => ?_))
   | exact ih0 _ _ _ _ _
   | exact ih1 _ _ _ _ _ _ _
   | exact impl_begin.mono _ _ _ _ _
   | exact impl_finish.mono _ _ _ _
   | exact impl_isConf.mono _ _ _ _
   | exact impl_learner.mono _ _ _ _ _ _
   | exact LeO.none _
   | refine LeO.ite ?_ ?_
   | refine LeO.bind ?_ (fun _ => ?_)
theorem impl_PlayConf.mono : ∀ a0 a1 a2 a3 k, LeO (impl_PlayConf.f k a0 a1 a2 a3) (impl_PlayConf.f (k + 1) a0 a1 a2 a3) := by
 intro a0 a1 a2 a3 k
 obtain ⟨ih0, ih1⟩ := impl_PlayConf.mono_l k
 unfold impl_PlayConf.f
 repeat' first
     | (with_reducible exact ih0 _ _ _ _ _)
     | (with_reducible exact ih1 _ _ _ _ _ _ _)
     | (with_reducible exact impl_begin.mono _ _ _ _ _)
     | (with_reducible exact impl_finish.mono _ _ _ _)
     | (with_reducible exact impl_isConf.mono _ _ _ _)
     | (with_reducible exact impl_learner.mono _ _ _ _ _ _)
     | (with_reducible exact LeO.refl _)
     | (with_reducible exact LeO.none _)
     | (with_reducible refine LeO.ite ?_ ?_)
     | (with_reducible refine LeO.bind ?_ (fun _ => ?_))
     | exact ih0 _ _ _ _ _
     | exact ih1 _ _ _ _ _ _ _
     | exact impl_begin.mono _ _ _ _ _
     | exact impl_finish.mono _ _ _ _
     | exact impl_isConf.mono _ _ _ _
     | exact impl_learner.mono _ _ _ _ _ _
     | exact LeO.none _
     | refine LeO.ite ?_ ?_
     | refine LeO.bind ?_ (fun _ => ?_)
set_option maxHeartbeats 8000000 in
set_option maxRecDepth 100000 in
theorem impl_PlayConf.calls (k : Nat) (A0_0 : Option Addr) (c0_0 : Nat) (l0_0 : List Int) (A0_1 : Option Addr) (c0_1 : Nat) (l0_1 : List Int) (A0_2 : Option Addr) (c0_2 : Nat) (l0_2 : List Int) (A1 : Option Addr) (c1 : Nat) (l1 : List (S77)) (r1 : List Int) (r2 : List Int) (r3 : List Int) (r4 : List Bool) (w : World) (hr0_0 : Kd.C (Kd.int .i64) w A0_0 l0_0.length l0_0) (hc0_0 : l0_0.length ≤ c0_0) (hr0_1 : Kd.C (Kd.int .i64) w A0_1 l0_1.length l0_1) (hc0_1 : l0_1.length ≤ c0_1) (hr0_2 : Kd.C (Kd.int .i64) w A0_2 l0_2.length l0_2) (hc0_2 : l0_2.length ≤ c0_2) (hr1 : Kd.C k77 w A1 l1.length l1) (hc1 : l1.length ≤ c1) (h : impl_PlayConf.f k l0_0 l0_1 l0_2 l1 = some (r1, r2, r3, r4)) :
   Calls Try.prog 33 #[.agg #[.slice A0_0 l0_0.length c0_0, .slice A0_1 l0_1.length c0_1, .slice A0_2 l0_2.length c0_2], .slice A1 l1.length c1] w fun e w' => ∃ v0_ v1_ v2_ v3_ : Value, e = .returned (.tuple #[.agg #[v0_, v1_, v2_], v3_]) ∧ Kd.R (Kd.int .i64) 3 w' w.heap.size (fun k_ => some k_ ≠ (v1_ : Value).ownBlock ∧ some k_ ≠ (v2_ : Value).ownBlock) v0_ r1 ∧ Kd.R (Kd.int .i64) 3 w' w.heap.size (fun k_ => some k_ ≠ (v0_ : Value).ownBlock ∧ some k_ ≠ (v2_ : Value).ownBlock) v1_ r2 ∧ Kd.R (Kd.int .i64) 3 w' w.heap.size (fun k_ => some k_ ≠ (v0_ : Value).ownBlock ∧ some k_ ≠ (v1_ : Value).ownBlock) v2_ r3 ∧ Kd.R Kd.bool 4 w' w.heap.size (fun _ => True) v3_ r4 ∧ Below w.heap.size w w' := by
 have hu26 := Try.underlying26
 have hu77 := Try.underlying77
 have HR0_0 := am hr0_0
 have HC0_0 := am hc0_0
 clear hr0_0 hc0_0
 have HR0_1 := am hr0_1
 have HC0_1 := am hc0_1
 clear hr0_1 hc0_1
 have HR0_2 := am hr0_2
 have HC0_2 := am hc0_2
 clear hr0_2 hc0_2
 have HR1 := am hr1
 have HC1 := am hc1
 clear hr1 hc1
 have HB := am (Below.refl w.heap.size w)
 have H : ((impl_isConf.f k l0_0 l0_1 l0_2).bind fun t513 => (if t513 = true then (impl_PlayConf.j0 k l1 (decide ((l1.length : Int) > 100)) l0_0 l0_1 l0_2) else (impl_PlayConf.j0 k l1 true l0_0 l0_1 l0_2))) = some (r1, r2, r3, r4) := h
 clear h
 have HC3 := am H
 clear H
 go_enter Try.func33, Try.ntmps33
 go_upto_region 1 with (first | ((with_reducible refine gate_dst (N := 2) rfl ?_); (try (refine gate_guard (by rfl) ?_; dsimp only)); refine box_event ?hg (N := 2) ?hd (cs := #[.slice A0_0 l0_0.length c0_0, .slice A0_1 l0_1.length c0_1, .slice A0_2 l0_2.length c0_2]) (t := 26) ?hr ?_; (case hd => rfl); (case hg => rfl); (case hr => first | (go_simp; done) | (go_simp; rfl)); intro gb511 hg w4 hbox hb; have BK511 := am (hbox); have GW511 := am ((by rw [hg]; exact (below_size Q6) : w.heap.size ≤ gb511)); have GE511 := am ((by rw [hg]; exact (below_size Q6) : w.heap.size ≤ gb511)); replace HB := am (below_step Q6 hb); clear hb hbox hg) | ((with_reducible refine gate_dst (N := 4) rfl ?_); (try (refine gate_guard (by rfl) ?_; dsimp only)); refine box_event ?hg (N := 4) ?hd (cs := #[.slice none 0 0, .slice none 0 0, .slice none 0 0]) (t := 26) ?hr ?_; (case hd => rfl); (case hg => rfl); (case hr => first | (go_simp; done) | (go_simp; rfl)); intro gb512 hg w5 hbox hb; have BK512 := am (hbox); have GW512 := am ((by rw [hg]; exact (below_size Q6) : w.heap.size ≤ gb512)); have GE512 := am ((by rw [hg]; exact (below_size Q6) : w.heap.size ≤ gb512)); replace HB := am (below_step Q6 hb); have NB511_512 := am ((by rw [hg]; exact Nat.ne_of_lt (blk_lt (g := gb511) (o := .cells #[.slice A0_0 l0_0.length c0_0, .slice A0_1 l0_1.length c0_1, .slice A0_2 l0_2.length c0_2] 26 (0, 0)) u14_14) : gb511 ≠ gb512)); have NB512_511 := am ((by rw [hg]; exact Nat.ne_of_gt (blk_lt (g := gb511) (o := .cells #[.slice A0_0 l0_0.length c0_0, .slice A0_1 l0_1.length c0_1, .slice A0_2 l0_2.length c0_2] 26 (0, 0)) u14_14) : gb512 ≠ gb511)); replace BK511 := am (bb_ BK511.out u14_14 hb); clear hb hbox hg))
 (try simp only [Act.put, la, lb, lc])
 go_cut [17] (fun v17 wc => ∃ (kq : Nat) (x17_2 : Bool), v17 = .bool x17_2 ∧ Aside0 (impl_PlayConf.j0 kq l1 x17_2 l0_0 l0_1 l0_2 = some (r1, r2, r3, r4)) ∧ Aside0 (kq ≤ k) ∧ Aside0 (wc.heap[gb511]? = some (.cells #[(.slice A0_0 l0_0.length c0_0), (.slice A0_1 l0_1.length c0_1), (.slice A0_2 l0_2.length c0_2)] 26 (0, 0))) ∧ Aside0 (wc.heap[gb512]? = some (.cells #[(.slice none 0 0), (.slice none 0 0), (.slice none 0 0)] 26 (0, 0))) ∧ Aside0 (Below w.heap.size w wc))
 case first =>
   have H := HC3.out
   clear HC3
   replace H := Option.bind_eq_some_iff.mp H
   obtain ⟨t513, A60, H⟩ := H
   have A6 := am A60
   clear A60
   by_cases c7 : t513 = true
   · subst c7
     rw [if_pos rfl] at H
     have H' := am H
     clear H
     have hnb8 := NB511_512.out
     have hnc8 := NB512_511.out
     obtain ⟨hcz9_0, hcz9_1, hcz9_2, hfz9_0, hfz9_1, hfz9_2⟩ := bc3f w5 BK511.out
     go_wp2_with (first | ((with_reducible refine gate_callee (f := 48) rfl ?_); refine goesL_ (some 11) rfl rfl Try.func48 kr rfl #[.agg #[.slice A0_0 l0_0.length c0_0, .slice A0_1 l0_1.length c0_1, .slice A0_2 l0_2.length c0_2]] rfl Q10 ?_; (with_reducible refine (impl_isConf.calls k _ _ l0_0 _ _ l0_1 _ _ l0_2 true _ ?side1 ?side2 ?side3 ?side4 ?side5 ?side6 A6.out).mono ?_); (case side1 => exact Q0); (case side2 => exact HC0_0.out); (case side3 => exact Q7); (case side4 => exact HC0_1.out); (case side5 => exact Q2); (case side6 => exact HC0_2.out); rintro e w10 ⟨rfl, hb⟩; refine ⟨_, rfl, ?_⟩; replace BK511 := am (bb_ BK511.out u14_14 hb); replace BK512 := am (bb_ BK512.out u14_15 hb); replace HB := am (below_step Q6 hb); (try clear hb); (try clear hb2); (try clear hk); (try clear hi)))
     go_meet
     case rel => exact ⟨_, (decide ((l1.length : Int) > 100)), Q9, H', ⟨by first | omega | exact Nat.le_refl _⟩, ⟨u14_14⟩, ⟨u14_15⟩, ⟨Q6⟩⟩
   replace c7 := Bool.eq_false_iff.mpr c7
   subst c7
   rw [nf] at H
   have H' := am H
   clear H
   have hnb11 := NB511_512.out
   have hnc11 := NB512_511.out
   obtain ⟨hcz12_0, hcz12_1, hcz12_2, hfz12_0, hfz12_1, hfz12_2⟩ := bc3f w5 BK511.out
   go_wp2_with (first | ((with_reducible refine gate_callee (f := 48) rfl ?_); refine goesL_ (some 11) rfl rfl Try.func48 kr rfl #[.agg #[.slice A0_0 l0_0.length c0_0, .slice A0_1 l0_1.length c0_1, .slice A0_2 l0_2.length c0_2]] rfl Q10 ?_; (with_reducible refine (impl_isConf.calls k _ _ l0_0 _ _ l0_1 _ _ l0_2 false _ ?side1 ?side2 ?side3 ?side4 ?side5 ?side6 A6.out).mono ?_); (case side1 => exact Q0); (case side2 => exact HC0_0.out); (case side3 => exact Q7); (case side4 => exact HC0_1.out); (case side5 => exact Q2); (case side6 => exact HC0_2.out); rintro e w13 ⟨rfl, hb⟩; refine ⟨_, rfl, ?_⟩; replace BK511 := am (bb_ BK511.out u14_14 hb); replace BK512 := am (bb_ BK512.out u14_15 hb); replace HB := am (below_step Q6 hb); (try clear hb); (try clear hb2); (try clear hk); (try clear hi)))
   go_meet
   case rel => exact ⟨_, (true), Q9, H', ⟨by first | omega | exact Nat.le_refl _⟩, ⟨u14_14⟩, ⟨u14_15⟩, ⟨Q6⟩⟩
 clear HC3
 try clear c1
 obtain ⟨kq, x17_2, rfl, HA, HJ2, BK511, BK512, HB⟩ := hcut
 cases kq with
 | zero => exact absurd HA.out (by simp [impl_PlayConf.j0])
 | succ kj2 =>
   have H := HA.out
   clear HA
   simp only [impl_PlayConf.j0] at H
   by_cases c14 : x17_2 = true
   · subst c14
     rw [if_pos rfl] at H
     replace H := Option.bind_eq_some_iff.mp H
     obtain ⟨⟨t514, t517, t520⟩, A150, H⟩ := H
     replace H : (some (t514, t517, t520, ([] : List Bool))) = some (r1, r2, r3, r4) := H
     have A15 := am A150
     clear A150
     simp only [Option.some.injEq, Prod.mk.injEq] at H
     obtain ⟨rfl, rfl, rfl, rfl⟩ := H
     have hnb16 := NB511_512.out
     have hnc16 := NB512_511.out
     obtain ⟨hcz17_0, hcz17_1, hcz17_2, hfz17_0, hfz17_1, hfz17_2⟩ := bc3f wc BK511.out
     go_wp2_with (first | ((with_reducible refine gate_callee (f := 63) rfl ?_); refine goesL_ (some 19) rfl rfl Try.func63 kr rfl #[.agg #[.slice A0_0 l0_0.length c0_0, .slice A0_1 l0_1.length c0_1, .slice A0_2 l0_2.length c0_2]] rfl Q10 ?_; (with_reducible refine (impl_copyConf.calls _ _ l0_0 _ _ l0_1 _ _ l0_2 t514 t517 t520 _ ?side1 ?side2 ?side3 ?side4 ?side5 ?side6 A15.out).mono ?_); (case side1 => exact Q0); (case side2 => exact HC0_0.out); (case side3 => exact Q7); (case side4 => exact HC0_1.out); (case side5 => exact Q2); (case side6 => exact HC0_2.out); rintro e w18 ⟨v515, v518, v521, rfl, ho0, ho1, ho2, hb⟩; refine ⟨_, rfl, ?_⟩; have HO516 := am (Kd.R_lower ho0 (below_size Q6)); have HO519 := am (Kd.R_lower ho1 (below_size Q6)); have HO522 := am (Kd.R_lower ho2 (below_size Q6)); replace BK511 := am (bb_ BK511.out u14_14 hb); replace BK512 := am (bb_ BK512.out u14_15 hb); replace HB := am (below_step Q6 hb); (try clear hb); (try clear hb2); (try clear hk); (try clear hi); (try clear ho0); (try clear ho1); (try clear ho2); obtain ⟨Ao19, co19, eo19⟩ := Kd.R_slice HO516.out; subst eo19; obtain ⟨hcz20_0, hcz20_1, hcz20_2, hfz20_0, hfz20_1, hfz20_2⟩ := bc3f w18 BK512.out; obtain ⟨Ao21, co21, eo21⟩ := Kd.R_slice HO519.out; subst eo21; obtain ⟨Ao22, co22, eo22⟩ := Kd.R_slice HO522.out; subst eo22))
     refine bodyPost_ret (results_ct rfl _ _ gb512 26 #[.slice Ao19 t514.length co19, .slice Ao21 t517.length co21, .slice Ao22 t520.length co22] (0, 0) _ rfl (by (with_reducible repeat (first | apply b1_ | apply b2_ | apply b3_)); refine blk_put (cs := #[.slice Ao19 t514.length co19, .slice Ao21 t517.length co21, .slice none 0 0]) ?_ 2 _ rfl; (with_reducible repeat (first | apply b1_ | apply b2_ | apply b3_)); refine blk_put (cs := #[.slice Ao19 t514.length co19, .slice none 0 0, .slice none 0 0]) ?_ 1 _ rfl; (with_reducible repeat (first | apply b1_ | apply b2_ | apply b3_)); refine blk_put (cs := #[.slice none 0 0, .slice none 0 0, .slice none 0 0]) ?_ 0 _ rfl; (with_reducible repeat (first | apply b1_ | apply b2_ | apply b3_)); exact BK512.out) Try.underlying26 rfl kr) rfl ?_
     exact ⟨_, _, _, _, er, (by (with_reducible repeat (first | apply r1_ | apply r2_ | apply r3_)); exact Kd.R_mono (Kd.R_far (p := ⟨gb512, 2, none⟩) (Kd.R_far (p := ⟨gb512, 1, none⟩) (Kd.R_far (p := ⟨gb512, 0, none⟩) (Kd.R_types HO516.out BK512.out (by decide)) (fun _ hk => hk.2) (.slice Ao19 t514.length co19)) (fun _ hk => hk.2) (.slice Ao21 t517.length co21)) (fun _ hk => hk.2) (.slice Ao22 t520.length co22)) (fun _ hk => ⟨hk.1.1, hk.1.2⟩)), (by (with_reducible repeat (first | apply r1_ | apply r2_ | apply r3_)); exact Kd.R_mono (Kd.R_far (p := ⟨gb512, 2, none⟩) (Kd.R_far (p := ⟨gb512, 1, none⟩) (Kd.R_far (p := ⟨gb512, 0, none⟩) (Kd.R_types HO519.out BK512.out (by decide)) (fun _ hk => hk.2) (.slice Ao19 t514.length co19)) (fun _ hk => hk.2) (.slice Ao21 t517.length co21)) (fun _ hk => hk.2) (.slice Ao22 t520.length co22)) (fun _ hk => ⟨hk.1.1, hk.1.2⟩)), (by (with_reducible repeat (first | apply r1_ | apply r2_ | apply r3_)); exact Kd.R_mono (Kd.R_far (p := ⟨gb512, 2, none⟩) (Kd.R_far (p := ⟨gb512, 1, none⟩) (Kd.R_far (p := ⟨gb512, 0, none⟩) (Kd.R_types HO522.out BK512.out (by decide)) (fun _ hk => hk.2) (.slice Ao19 t514.length co19)) (fun _ hk => hk.2) (.slice Ao21 t517.length co21)) (fun _ hk => hk.2) (.slice Ao22 t520.length co22)) (fun _ hk => ⟨hk.1.1, hk.1.2⟩)), (by first | exact Kd.R_nil _ _ _ _ _ | exact Kd.N_nil _ _ _ _ _ | exact Kd.V_nil _ _ _ _ _ | exact Kd.Q_nil _ _ _ _ _ | exact Kd.S_nil _ _ _ _ _), Q6⟩
   replace c14 := Bool.eq_false_iff.mpr c14
   subst c14
   rw [nf] at H
   replace H := Option.bind_eq_some_iff.mp H
   obtain ⟨⟨t523, t526, t529⟩, A230, H⟩ := H
   replace H : (impl_PlayConf.l0 kj2 (([] : List Bool)) l1 (l1.length : Int) 0 t523 t526 t529) = some (r1, r2, r3, r4) := H
   have A23 := am A230
   clear A230
   obtain ⟨y532, hy532⟩ : ∃ y_ : List Bool, y_ = (([] : List Bool)) := ⟨_, rfl⟩
   replace H : (impl_PlayConf.l0 kj2 y532 l1 (l1.length : Int) 0 t523 t526 t529) = some (r1, r2, r3, r4) := by first | (rw [hy532]; with_reducible exact H) | (have H2_ := (Option.bind_some _ _).symm.trans H; rw [hy532]; with_reducible exact H2_) | (have H2_ := (Option.bind_some _ _).symm.trans H; with_reducible exact H2_) | with_reducible exact H | (rw [hy532]; exact H) | exact H
   have Ny532 := am hy532
   clear hy532
   have H' := am H
   clear H
   have hnb24 := NB511_512.out
   have hnc24 := NB512_511.out
   obtain ⟨hcz25_0, hcz25_1, hcz25_2, hfz25_0, hfz25_1, hfz25_2⟩ := bc3f wc BK511.out
   go_wp2_with (first | ((with_reducible refine gate_callee (f := 63) rfl ?_); refine goesL_ (some 21) rfl rfl Try.func63 kr rfl #[.agg #[.slice A0_0 l0_0.length c0_0, .slice A0_1 l0_1.length c0_1, .slice A0_2 l0_2.length c0_2]] rfl Q10 ?_; (with_reducible refine (impl_copyConf.calls _ _ l0_0 _ _ l0_1 _ _ l0_2 t523 t526 t529 _ ?side1 ?side2 ?side3 ?side4 ?side5 ?side6 A23.out).mono ?_); (case side1 => exact Q0); (case side2 => exact HC0_0.out); (case side3 => exact Q7); (case side4 => exact HC0_1.out); (case side5 => exact Q2); (case side6 => exact HC0_2.out); rintro e w26 ⟨v524, v527, v530, rfl, ho0, ho1, ho2, hb⟩; refine ⟨_, rfl, ?_⟩; have HO525 := am (Kd.R_lower ho0 (below_size Q6)); have HO528 := am (Kd.R_lower ho1 (below_size Q6)); have HO531 := am (Kd.R_lower ho2 (below_size Q6)); replace BK511 := am (bb_ BK511.out u14_14 hb); replace BK512 := am (bb_ BK512.out u14_15 hb); replace HB := am (below_step Q6 hb); (try clear hb); (try clear hb2); (try clear hk); (try clear hi); (try clear ho0); (try clear ho1); (try clear ho2); obtain ⟨Ao27, co27, eo27⟩ := Kd.R_slice HO525.out; subst eo27; obtain ⟨hcz28_0, hcz28_1, hcz28_2, hfz28_0, hfz28_1, hfz28_2⟩ := bc3f w26 BK511.out; obtain ⟨Ao29, co29, eo29⟩ := Kd.R_slice HO528.out; subst eo29; obtain ⟨Ao30, co30, eo30⟩ := Kd.R_slice HO531.out; subst eo30) | ((with_reducible refine gate_dst (N := 22) rfl ?_); (try (refine gate_guard (by rfl) ?_; dsimp only)); refine Kd.R_lit Kd.bool _ 4 ?hg (N := 22) ?hd (xs := ([] : List Bool)) (inner := []) (ok := fun _ => True) (okp := fun _ => True) ?hr ?hp (fun _ hk => hk) trivial (Below.refl _ _) (Nat.le_refl _) (by simp) ?_; (case hd => rfl); (case hg => rfl); (case hr => first | (go_simp; done) | (go_simp; rfl)); (case hp => exact (Reps.none _ _)); intro v533 w31 ho32 hb hg_ hnew_; clear hg_ hnew_; (first | rw [← Ny532.out] at ho32 | (simp only [Int.reduceToNat] at ho32; rw [← Ny532.out] at ho32)); replace HO525 := am (Kd.R_below (by (with_reducible repeat (first | apply r1_ | apply r2_ | apply r3_)); exact (Kd.R_mono (Kd.R_far (p := ⟨gb511, 2, none⟩) (Kd.R_far (p := ⟨gb511, 1, none⟩) (Kd.R_far (p := ⟨gb511, 0, none⟩) (Kd.R_types HO525.out BK511.out (by decide)) (fun _ hk => hk.2) (.slice Ao27 t523.length co27)) (fun _ hk => hk.2) (.slice Ao29 t526.length co29)) (fun _ hk => hk.2) (.slice Ao30 t529.length co30)) (fun _ h_ => h_.1))) hb); replace HO528 := am (Kd.R_below (by (with_reducible repeat (first | apply r1_ | apply r2_ | apply r3_)); exact (Kd.R_mono (Kd.R_far (p := ⟨gb511, 2, none⟩) (Kd.R_far (p := ⟨gb511, 1, none⟩) (Kd.R_far (p := ⟨gb511, 0, none⟩) (Kd.R_types HO528.out BK511.out (by decide)) (fun _ hk => hk.2) (.slice Ao27 t523.length co27)) (fun _ hk => hk.2) (.slice Ao29 t526.length co29)) (fun _ hk => hk.2) (.slice Ao30 t529.length co30)) (fun _ h_ => h_.1))) hb); replace HO531 := am (Kd.R_below (by (with_reducible repeat (first | apply r1_ | apply r2_ | apply r3_)); exact (Kd.R_mono (Kd.R_far (p := ⟨gb511, 2, none⟩) (Kd.R_far (p := ⟨gb511, 1, none⟩) (Kd.R_far (p := ⟨gb511, 0, none⟩) (Kd.R_types HO531.out BK511.out (by decide)) (fun _ hk => hk.2) (.slice Ao27 t523.length co27)) (fun _ hk => hk.2) (.slice Ao29 t526.length co29)) (fun _ hk => hk.2) (.slice Ao30 t529.length co30)) (fun _ h_ => h_.1))) hb); have HO534 := am (Kd.R_lower ho32 (below_size Q6)); replace BK511 := am (blk_below (g := gb511) (o := .cells #[.slice Ao27 t523.length co27, .slice Ao29 t526.length co29, .slice Ao30 t529.length co30] 26 (0, 0)) (by (with_reducible repeat (first | apply b1_ | apply b2_ | apply b3_)); refine blk_put (cs := #[.slice Ao27 t523.length co27, .slice Ao29 t526.length co29, .slice A0_2 l0_2.length c0_2]) ?_ 2 _ rfl; (with_reducible repeat (first | apply b1_ | apply b2_ | apply b3_)); refine blk_put (cs := #[.slice Ao27 t523.length co27, .slice A0_1 l0_1.length c0_1, .slice A0_2 l0_2.length c0_2]) ?_ 1 _ rfl; (with_reducible repeat (first | apply b1_ | apply b2_ | apply b3_)); refine blk_put (cs := #[.slice A0_0 l0_0.length c0_0, .slice A0_1 l0_1.length c0_1, .slice A0_2 l0_2.length c0_2]) ?_ 0 _ rfl; (with_reducible repeat (first | apply b1_ | apply b2_ | apply b3_)); exact BK511.out) hb); replace BK512 := am (blk_below (g := gb512) (o := .cells #[.slice none 0 0, .slice none 0 0, .slice none 0 0] 26 (0, 0)) u14_11 hb); replace HB := am (below_step Q6 hb); clear hb ho32))
   go_loopg [6, 25] kj2 (fun kq v6 v25 w' => ∃ (x6_2 : List Bool) (x25_2 : Int) (x512000_2 : List Int) (x512001_2 : List Int) (x512002_2 : List Int) (u512000 : Value) (u512001 : Value) (u512002 : Value), v25 = .int .i64 x25_2 ∧ Aside0 (impl_PlayConf.l0 kq x6_2 l1 (l1.length : Int) x25_2 x512000_2 x512001_2 x512002_2 = some (r1, r2, r3, r4)) ∧ Aside0 (kq ≤ kj2) ∧ Aside0 (Kd.R Kd.bool 4 w' w.heap.size (fun _ => True) v6 x6_2) ∧ Aside0 (Kd.R (Kd.int .i64) 3 w' w.heap.size (fun k_ => some k_ ≠ (u512001 : Value).ownBlock ∧ some k_ ≠ (u512002 : Value).ownBlock) u512000 x512000_2) ∧ Aside0 (Kd.R (Kd.int .i64) 3 w' w.heap.size (fun k_ => some k_ ≠ (u512000 : Value).ownBlock ∧ some k_ ≠ (u512002 : Value).ownBlock) u512001 x512001_2) ∧ Aside0 (Kd.R (Kd.int .i64) 3 w' w.heap.size (fun k_ => some k_ ≠ (u512000 : Value).ownBlock ∧ some k_ ≠ (u512001 : Value).ownBlock) u512002 x512002_2) ∧ Aside0 (w'.heap[gb511]? = some (.cells #[u512000, u512001, u512002] 26 (0, 0))) ∧ Aside0 (w'.heap[gb512]? = some (.cells #[(.slice none 0 0), (.slice none 0 0), (.slice none 0 0)] 26 (0, 0))) ∧ Aside0 (Below w.heap.size w w'))
   case atStart => exact ⟨(y532), (0), (t523), (t526), (t529), (.slice Ao27 t523.length co27), (.slice Ao29 t526.length co29), (.slice Ao30 t529.length co30), Q9, H', ⟨Nat.le_refl _⟩, ⟨(by (with_reducible repeat (first | apply r1_ | apply r2_ | apply r3_)); exact HO534.out)⟩, ⟨(by (with_reducible repeat (first | apply r1_ | apply r2_ | apply r3_)); exact HO525.out)⟩, ⟨(by (with_reducible repeat (first | apply r1_ | apply r2_ | apply r3_)); exact HO528.out)⟩, ⟨(by (with_reducible repeat (first | apply r1_ | apply r2_ | apply r3_)); exact HO531.out)⟩, ⟨u14_14⟩, ⟨u14_15⟩, ⟨Q6⟩⟩
   clear H'
   try clear c1
   try clear c14
   try clear hcz25_0
   try clear hcz25_1
   try clear hcz25_2
   try clear hcz28_0
   try clear hcz28_1
   try clear hcz28_2
   try clear hfz25_0
   try clear hfz25_1
   try clear hfz25_2
   try clear hfz28_0
   try clear hfz28_1
   try clear hfz28_2
   obtain ⟨x6_2, x25_2, x512000_2, x512001_2, x512002_2, u512000, u512001, u512002, rfl, HA, HK2, HO_6, HO_512000, HO_512001, HO_512002, BK511, BK512, HB⟩ := hrel
   cases gk with
   | zero => exact absurd HA.out (by simp [impl_PlayConf.l0])
   | succ k2 =>
     have H := HA.out
     clear HA
     simp only [impl_PlayConf.l0] at H
     by_cases c33 : x25_2 < (l1.length : Int)
     rotate_left
     · rw [if_neg c33] at H
       have c33b0 : decide (x25_2 < (l1.length : Int)) = false := decide_eq_false c33
       clear c33
       simp only [Option.some.injEq, Prod.mk.injEq] at H
       obtain ⟨rfl, rfl, rfl, rfl⟩ := H
       have hnb108 := NB511_512.out
       have hnc108 := NB512_511.out
       obtain ⟨hcz109_0, hcz109_1, hcz109_2, hfz109_0, hfz109_1, hfz109_2⟩ := bc3f wr BK511.out
       obtain ⟨Ao110, co110, eo110⟩ := Kd.R_slice HO_512000.out
       subst eo110
       obtain ⟨hcz111_0, hcz111_1, hcz111_2, hfz111_0, hfz111_1, hfz111_2⟩ := bc3f wr BK512.out
       obtain ⟨Ao112, co112, eo112⟩ := Kd.R_slice HO_512001.out
       subst eo112
       obtain ⟨Ao113, co113, eo113⟩ := Kd.R_slice HO_512002.out
       subst eo113
       go_wp2
       refine bodyPost_ret (results_ct rfl _ _ gb512 26 #[.slice Ao110 x512000_2.length co110, .slice Ao112 x512001_2.length co112, .slice Ao113 x512002_2.length co113] (0, 0) _ rfl (by (with_reducible repeat (first | apply b1_ | apply b2_ | apply b3_)); refine blk_put (cs := #[.slice Ao110 x512000_2.length co110, .slice Ao112 x512001_2.length co112, .slice none 0 0]) ?_ 2 _ rfl; (with_reducible repeat (first | apply b1_ | apply b2_ | apply b3_)); refine blk_put (cs := #[.slice Ao110 x512000_2.length co110, .slice none 0 0, .slice none 0 0]) ?_ 1 _ rfl; (with_reducible repeat (first | apply b1_ | apply b2_ | apply b3_)); refine blk_put (cs := #[.slice none 0 0, .slice none 0 0, .slice none 0 0]) ?_ 0 _ rfl; (with_reducible repeat (first | apply b1_ | apply b2_ | apply b3_)); exact BK512.out) Try.underlying26 rfl kr) rfl ?_
       exact ⟨_, _, _, _, er, (by (with_reducible repeat (first | apply r1_ | apply r2_ | apply r3_)); exact Kd.R_mono (Kd.R_far (p := ⟨gb512, 2, none⟩) (Kd.R_far (p := ⟨gb512, 1, none⟩) (Kd.R_far (p := ⟨gb512, 0, none⟩) (Kd.R_types HO_512000.out BK512.out (by decide)) (fun _ hk => hk.2) (.slice Ao110 x512000_2.length co110)) (fun _ hk => hk.2) (.slice Ao112 x512001_2.length co112)) (fun _ hk => hk.2) (.slice Ao113 x512002_2.length co113)) (fun _ hk => ⟨hk.1.1, hk.1.2⟩)), (by (with_reducible repeat (first | apply r1_ | apply r2_ | apply r3_)); exact Kd.R_mono (Kd.R_far (p := ⟨gb512, 2, none⟩) (Kd.R_far (p := ⟨gb512, 1, none⟩) (Kd.R_far (p := ⟨gb512, 0, none⟩) (Kd.R_types HO_512001.out BK512.out (by decide)) (fun _ hk => hk.2) (.slice Ao110 x512000_2.length co110)) (fun _ hk => hk.2) (.slice Ao112 x512001_2.length co112)) (fun _ hk => hk.2) (.slice Ao113 x512002_2.length co113)) (fun _ hk => ⟨hk.1.1, hk.1.2⟩)), (by (with_reducible repeat (first | apply r1_ | apply r2_ | apply r3_)); exact Kd.R_mono (Kd.R_far (p := ⟨gb512, 2, none⟩) (Kd.R_far (p := ⟨gb512, 1, none⟩) (Kd.R_far (p := ⟨gb512, 0, none⟩) (Kd.R_types HO_512002.out BK512.out (by decide)) (fun _ hk => hk.2) (.slice Ao110 x512000_2.length co110)) (fun _ hk => hk.2) (.slice Ao112 x512001_2.length co112)) (fun _ hk => hk.2) (.slice Ao113 x512002_2.length co113)) (fun _ hk => ⟨hk.1.1, hk.1.2⟩)), (by (with_reducible repeat (first | apply r1_ | apply r2_ | apply r3_)); exact Kd.R_mono (Kd.R_far (p := ⟨gb512, 2, none⟩) (Kd.R_far (p := ⟨gb512, 1, none⟩) (Kd.R_far (p := ⟨gb512, 0, none⟩) (Kd.R_types HO_6.out BK512.out (by decide)) (fun _ hk => hk.2) (.slice Ao110 x512000_2.length co110)) (fun _ hk => hk.2) (.slice Ao112 x512001_2.length co112)) (fun _ hk => hk.2) (.slice Ao113 x512002_2.length co113)) (fun _ hk => trivial)), Q6⟩
     rw [if_pos c33] at H
     have c33b0 : decide (x25_2 < (l1.length : Int)) = true := decide_eq_true c33
     clear c33
     by_cases c34 : 0 ≤ x25_2
     rotate_left
     · rw [if_neg c34] at H
       exact absurd H (by simp)
     rw [if_pos c34] at H
     have c34b0 : decide (0 ≤ x25_2) = true := decide_eq_true c34
     clear c34
     by_cases c35 : x25_2 < (l1.length : Int)
     rotate_left
     · rw [if_neg c35] at H
       exact absurd H (by simp)
     rw [if_pos c35] at H
     have c35b0 : decide (x25_2 < (l1.length : Int)) = true := decide_eq_true c35
     clear c35
     have H9 := am H
     clear H
     have p535 : 0 ≤ (x25_2 : Int) := of_decide_eq_true Q5
     have q535 : x25_2 < (l1.length : Int) := of_decide_eq_true Q5
     obtain ⟨ad535, A535_2, c535_2, e535, hx535_0, hx535_1, hx535_2, hl535_2, hi535_2⟩ := at_T77 HR1.out x25_2 p535 q535
     cases e535
     replace hx535_0 := cm HB.out hx535_0
     replace hx535_1 := cm HB.out hx535_1
     replace hx535_2 := cm HB.out hx535_2
     have HR535_2 := am hi535_2
     have HC535_2 := am hl535_2
     clear hi535_2 hl535_2
     replace p535 := eq_true p535
     replace q535 := eq_true q535
     go_upto_if 31 with (first | ((with_reducible refine gate_dst (N := 8) rfl ?_); (try (refine gate_guard (by rfl) ?_; dsimp only)); refine box_event ?hg (N := 8) ?hd (cs := #[.int .i64 0, .int .i64 0, .slice none 0 0]) (t := 77) ?hr ?_; (case hd => rfl); (case hg => rfl); (case hr => first | (go_simp; done) | (go_simp; rfl)); intro gb536 hg w36 hbox hb; replace HO_6 := am (Kd.R_below (by (with_reducible repeat (first | apply r1_ | apply r2_ | apply r3_)); exact HO_6.out) hb); replace HO_512000 := am (Kd.R_below u14_31 hb); replace HO_512001 := am (Kd.R_below u14_32 hb); replace HO_512002 := am (Kd.R_below u14_33 hb); have BK536 := am (hbox); have GW536 := am ((by rw [hg]; exact (below_size Q6) : w.heap.size ≤ gb536)); have GE536 := am ((by rw [hg]; exact (below_size Q6) : w.heap.size ≤ gb536)); replace HB := am (below_step Q6 hb); have NB511_536 := am ((by rw [hg]; exact Nat.ne_of_lt (blk_lt (g := gb511) (o := .cells #[u512000, u512001, u512002] 26 (0, 0)) u14_14) : gb511 ≠ gb536)); have NB536_511 := am ((by rw [hg]; exact Nat.ne_of_gt (blk_lt (g := gb511) (o := .cells #[u512000, u512001, u512002] 26 (0, 0)) u14_14) : gb536 ≠ gb511)); replace BK511 := am (bb_ BK511.out u14_14 hb); have NB512_536 := am ((by rw [hg]; exact Nat.ne_of_lt (blk_lt (g := gb512) (o := .cells #[.slice none 0 0, .slice none 0 0, .slice none 0 0] 26 (0, 0)) u14_15) : gb512 ≠ gb536)); have NB536_512 := am ((by rw [hg]; exact Nat.ne_of_gt (blk_lt (g := gb512) (o := .cells #[.slice none 0 0, .slice none 0 0, .slice none 0 0] 26 (0, 0)) u14_15) : gb536 ≠ gb512)); replace BK512 := am (bb_ BK512.out u14_15 hb); clear hb hbox hg; have hnb37 := NB536_511.out; have hnc37 := NB511_536.out; have hnb38 := NB536_512.out; have hnc38 := NB512_536.out; obtain ⟨hcz39_0, hcz39_1, hcz39_2, hfz39_0, hfz39_1, hfz39_2⟩ := bc3f w36 BK536.out))
     have H := H9.out
     clear H9
     by_cases c40 : ((rd_T77 l1 x25_2).f0) = 0
     · rw [if_pos c40] at H
       have c40b0 : (((rd_T77 l1 x25_2).f0) == 0) = true := beq_iff_eq.mpr c40
       have c40b1 : (((rd_T77 l1 x25_2).f0) != 0) = false := bne_eq_false_iff_eq.mpr c40
       clear c40
       (first | rw [c40b0] | (simp only [i64_w, i32_w]; rw [c40b0]) | skip)
       replace H := Option.bind_eq_some_iff.mp H
       obtain ⟨⟨t537, t540, t543, t546⟩, A410, H⟩ := H
       (try dsimp only at H)
       have A41 := am A410
       clear A410
       by_cases c42 : x6_2.length < 140737488355328
       rotate_left
       · rw [if_neg c42] at H
         exact absurd H (by simp)
       rw [if_pos c42] at H
       have LMc42 := am c42
       clear c42
       obtain ⟨y547, hy547⟩ : ∃ y_ : List Bool, y_ = (x6_2 ++ [t546]) := ⟨_, rfl⟩
       replace H : (impl_PlayConf.l0 k2 y547 l1 (l1.length : Int) (wrap64 (x25_2 + 1)) t537 t540 t543) = some (r1, r2, r3, r4) := by first | (rw [hy547]; with_reducible exact H) | (have H2_ := (Option.bind_some _ _).symm.trans H; rw [hy547]; with_reducible exact H2_) | (have H2_ := (Option.bind_some _ _).symm.trans H; with_reducible exact H2_) | with_reducible exact H | (rw [hy547]; exact H) | exact H
       have Ny547 := am hy547
       clear hy547
       have H' := am H
       clear H
       have hnb43 := NB511_512.out
       have hnc43 := NB512_511.out
       have hnb44 := NB511_536.out
       have hnc44 := NB536_511.out
       obtain ⟨hcz45_0, hcz45_1, hcz45_2, hfz45_0, hfz45_1, hfz45_2⟩ := bc3f w36 BK511.out
       have hnb46 := NB536_512.out
       have hnc46 := NB512_536.out
       obtain ⟨hcz47_0, hcz47_1, hcz47_2, hfz47_0, hfz47_1, hfz47_2⟩ := bc3f w36 BK536.out
       obtain ⟨Ao48, co48, eo48⟩ := Kd.R_slice HO_512000.out
       subst eo48
       obtain ⟨Ao49, co49, eo49⟩ := Kd.R_slice HO_512001.out
       subst eo49
       obtain ⟨Ao50, co50, eo50⟩ := Kd.R_slice HO_512002.out
       subst eo50
       go_wp2_with (first | ((with_reducible refine gate_callee (f := 46) rfl ?_); refine goesL_ (some 37) rfl rfl Try.func46 kr rfl #[.agg #[.slice Ao48 x512000_2.length co48, .slice Ao49 x512001_2.length co49, .slice Ao50 x512002_2.length co50], .slice A535_2 ((rd_T77 l1 x25_2).f2).length c535_2] rfl Q10 ?_; (with_reducible refine (impl_begin.calls k2 _ _ x512000_2 _ _ x512001_2 _ _ x512002_2 _ _ ((rd_T77 l1 x25_2).f2) t537 t540 t543 t546 _ ?side1 ?side2 ?side3 ?side4 ?side5 ?side6 ?side7 ?side8 A41.out).mono ?_); (case side1 => exact (by refine (Kd.R_reads' (e := 3) (base := w.heap.size) (ok := fun k_ => (some k_ ≠ (.slice Ao49 x512001_2.length co49 : Value).ownBlock ∧ some k_ ≠ (.slice Ao50 x512002_2.length co50 : Value).ownBlock)) (n := x512000_2.length) (c := co48) ?_).2.2; exact u14_0)); (case side2 => exact (Kd.R_reads' HO_512000.out).2.1); (case side3 => exact (by refine (Kd.R_reads' (e := 3) (base := w.heap.size) (ok := fun k_ => (some k_ ≠ (.slice Ao48 x512000_2.length co48 : Value).ownBlock ∧ some k_ ≠ (.slice Ao50 x512002_2.length co50 : Value).ownBlock)) (n := x512001_2.length) (c := co49) ?_).2.2; exact u14_1)); (case side4 => exact (Kd.R_reads' HO_512001.out).2.1); (case side5 => exact (by refine (Kd.R_reads' (e := 3) (base := w.heap.size) (ok := fun k_ => (some k_ ≠ (.slice Ao48 x512000_2.length co48 : Value).ownBlock ∧ some k_ ≠ (.slice Ao49 x512001_2.length co49 : Value).ownBlock)) (n := x512002_2.length) (c := co50) ?_).2.2; exact u14_2)); (case side6 => exact (Kd.R_reads' HO_512002.out).2.1); (case side7 => exact (by exact Kd.C_below HR535_2.out Q6)); (case side8 => exact HC535_2.out); rintro e w51 ⟨v538, v541, v544, rfl, ho0, ho1, ho2, hb⟩; refine ⟨_, rfl, ?_⟩; replace HO_6 := am (Kd.R_below u14_6 hb); have HO539 := am (Kd.R_lower (Kd.R_new' (Kd.R_new' (Kd.R_new' ho0 (Kd.R_lt u14_0)) (Kd.R_lt u14_1)) (Kd.R_lt u14_2)) (below_size Q6)); have HO542 := am (Kd.R_lower (Kd.R_new' (Kd.R_new' (Kd.R_new' ho1 (Kd.R_lt u14_0)) (Kd.R_lt u14_1)) (Kd.R_lt u14_2)) (below_size Q6)); have HO545 := am (Kd.R_lower (Kd.R_new' (Kd.R_new' (Kd.R_new' ho2 (Kd.R_lt u14_0)) (Kd.R_lt u14_1)) (Kd.R_lt u14_2)) (below_size Q6)); replace HO_512000 := am (Kd.R_mono (Kd.R_told (Kd.R_told (Kd.R_told (Kd.R_old u14_0 hb) (Kd.R_base ho0)) (Kd.R_base ho1)) (Kd.R_base ho2)) (fun _ h_ => h_.1)); replace HO_512001 := am (Kd.R_mono (Kd.R_told (Kd.R_told (Kd.R_told (Kd.R_old u14_1 hb) (Kd.R_base ho0)) (Kd.R_base ho1)) (Kd.R_base ho2)) (fun _ h_ => h_.1)); replace HO_512002 := am (Kd.R_mono (Kd.R_told (Kd.R_told (Kd.R_told (Kd.R_old u14_2 hb) (Kd.R_base ho0)) (Kd.R_base ho1)) (Kd.R_base ho2)) (fun _ h_ => h_.1)); replace BK511 := am (blk_below (g := gb511) (o := .cells #[.slice Ao48 x512000_2.length co48, .slice Ao49 x512001_2.length co49, .slice Ao50 x512002_2.length co50] 26 (0, 0)) u14_12 hb); replace BK512 := am (blk_below (g := gb512) (o := .cells #[.slice none 0 0, .slice none 0 0, .slice none 0 0] 26 (0, 0)) u14_13 hb); replace BK536 := am (blk_below (g := gb536) (o := .cells #[.int .i64 ((rd_T77 l1 x25_2).f0), .int .i64 ((rd_T77 l1 x25_2).f1), .slice A535_2 ((rd_T77 l1 x25_2).f2).length c535_2] 77 (0, 0)) u14_5 hb); replace HB := am (below_step Q6 hb); (try clear hb); (try clear hb2); (try clear hk); (try clear hi); (try clear ho0); (try clear ho1); (try clear ho2); obtain ⟨Ao52, co52, eo52⟩ := Kd.R_slice HO539.out; subst eo52; obtain ⟨hcz53_0, hcz53_1, hcz53_2, hfz53_0, hfz53_1, hfz53_2⟩ := bc3f w51 BK511.out; obtain ⟨Ao54, co54, eo54⟩ := Kd.R_slice HO542.out; subst eo54; obtain ⟨Ao55, co55, eo55⟩ := Kd.R_slice HO545.out; subst eo55) | ((with_reducible refine gate_builtin (b := .append) (xs := #[.tmp 60, .tmp 62]) rfl ?_); (try (refine gate_guard (by rfl) ?_; dsimp only)); at_builtin; refine Kd.R_append Kd.bool (w0 := w) w.heap.size rfl (.tmp 60) (.tmp 62) 48 4 (.bool false) 1 rfl Try.underlying48 info4 rfl (by decide) (by omega) u6 x6_2 t546 [.bool t546] (fun _ => True) (fun _ => False) rfl Q13 ?aP (fun _ hk => hk.elim) ?aF ?aO ?aB ?aS ?aL ?_; (case aP => exact rfl); (case aB => exact Q6); (case aF => exact (fun _ _ => trivial)); (case aO => exact (by (with_reducible repeat (first | apply r1_ | apply r2_ | apply r3_)); exact Kd.R_mono (Kd.R_far (p := ⟨gb511, 2, none⟩) (Kd.R_far (p := ⟨gb511, 1, none⟩) (Kd.R_far (p := ⟨gb511, 0, none⟩) (Kd.R_types HO_6.out BK511.out (by decide)) (fun _ hk => hk.2) (.slice Ao52 t537.length co52)) (fun _ hk => hk.2) (.slice Ao54 t540.length co54)) (fun _ hk => hk.2) (.slice Ao55 t543.length co55)) (fun _ hk => trivial))); (case aS => exact (below_size Q6)); (case aL => have := LMc42.out; omega); intro v548 w56 ho hb hg hat; rw [← Ny547.out] at ho; replace HO_512000 := am (Kd.R_over' (by (with_reducible repeat (first | apply r1_ | apply r2_ | apply r3_)); exact (Kd.R_mono (Kd.R_far (p := ⟨gb511, 2, none⟩) (Kd.R_far (p := ⟨gb511, 1, none⟩) (Kd.R_far (p := ⟨gb511, 0, none⟩) (Kd.R_types HO_512000.out BK511.out (by decide)) (fun _ hk => hk.2) (.slice Ao52 t537.length co52)) (fun _ hk => hk.2) (.slice Ao54 t540.length co54)) (fun _ hk => hk.2) (.slice Ao55 t543.length co55)) (fun _ h_ => h_.1))) (Kd.R_typed u14_8) (by decide) hg); replace HO_512001 := am (Kd.R_over' (by (with_reducible repeat (first | apply r1_ | apply r2_ | apply r3_)); exact (Kd.R_mono (Kd.R_far (p := ⟨gb511, 2, none⟩) (Kd.R_far (p := ⟨gb511, 1, none⟩) (Kd.R_far (p := ⟨gb511, 0, none⟩) (Kd.R_types HO_512001.out BK511.out (by decide)) (fun _ hk => hk.2) (.slice Ao52 t537.length co52)) (fun _ hk => hk.2) (.slice Ao54 t540.length co54)) (fun _ hk => hk.2) (.slice Ao55 t543.length co55)) (fun _ h_ => h_.1))) (Kd.R_typed u14_8) (by decide) hg); replace HO_512002 := am (Kd.R_over' (by (with_reducible repeat (first | apply r1_ | apply r2_ | apply r3_)); exact (Kd.R_mono (Kd.R_far (p := ⟨gb511, 2, none⟩) (Kd.R_far (p := ⟨gb511, 1, none⟩) (Kd.R_far (p := ⟨gb511, 0, none⟩) (Kd.R_types HO_512002.out BK511.out (by decide)) (fun _ hk => hk.2) (.slice Ao52 t537.length co52)) (fun _ hk => hk.2) (.slice Ao54 t540.length co54)) (fun _ hk => hk.2) (.slice Ao55 t543.length co55)) (fun _ h_ => h_.1))) (Kd.R_typed u14_8) (by decide) hg); replace BK512 := am (blk_grown (g := gb512) (o := .cells #[.slice none 0 0, .slice none 0 0, .slice none 0 0] 26 (0, 0)) u14_11 hg (Kd.R_ne HO_6.out BK512.out (by decide))); replace BK536 := am (blk_grown (g := gb536) (o := .cells #[.int .i64 ((rd_T77 l1 x25_2).f0), .int .i64 ((rd_T77 l1 x25_2).f1), .slice A535_2 ((rd_T77 l1 x25_2).f2).length c535_2] 77 (0, 0)) u14_16 hg (Kd.R_ne HO_6.out BK536.out (by decide))); replace HO539 := am (Kd.R_over' (by (with_reducible repeat (first | apply r1_ | apply r2_ | apply r3_)); exact (Kd.R_mono (Kd.R_far (p := ⟨gb511, 2, none⟩) (Kd.R_far (p := ⟨gb511, 1, none⟩) (Kd.R_far (p := ⟨gb511, 0, none⟩) (Kd.R_types HO539.out BK511.out (by decide)) (fun _ hk => hk.2) (.slice Ao52 t537.length co52)) (fun _ hk => hk.2) (.slice Ao54 t540.length co54)) (fun _ hk => hk.2) (.slice Ao55 t543.length co55)) (fun _ h_ => h_.1))) (Kd.R_typed u14_8) (by decide) hg); replace HO542 := am (Kd.R_over' (by (with_reducible repeat (first | apply r1_ | apply r2_ | apply r3_)); exact (Kd.R_mono (Kd.R_far (p := ⟨gb511, 2, none⟩) (Kd.R_far (p := ⟨gb511, 1, none⟩) (Kd.R_far (p := ⟨gb511, 0, none⟩) (Kd.R_types HO542.out BK511.out (by decide)) (fun _ hk => hk.2) (.slice Ao52 t537.length co52)) (fun _ hk => hk.2) (.slice Ao54 t540.length co54)) (fun _ hk => hk.2) (.slice Ao55 t543.length co55)) (fun _ h_ => h_.1))) (Kd.R_typed u14_8) (by decide) hg); replace HO545 := am (Kd.R_over' (by (with_reducible repeat (first | apply r1_ | apply r2_ | apply r3_)); exact (Kd.R_mono (Kd.R_far (p := ⟨gb511, 2, none⟩) (Kd.R_far (p := ⟨gb511, 1, none⟩) (Kd.R_far (p := ⟨gb511, 0, none⟩) (Kd.R_types HO545.out BK511.out (by decide)) (fun _ hk => hk.2) (.slice Ao52 t537.length co52)) (fun _ hk => hk.2) (.slice Ao54 t540.length co54)) (fun _ hk => hk.2) (.slice Ao55 t543.length co55)) (fun _ h_ => h_.1))) (Kd.R_typed u14_8) (by decide) hg); replace BK511 := am (blk_grown (g := gb511) (o := .cells #[.slice Ao52 t537.length co52, .slice Ao54 t540.length co54, .slice Ao55 t543.length co55] 26 (0, 0)) (by (with_reducible repeat (first | apply b1_ | apply b2_ | apply b3_)); refine blk_put (cs := #[.slice Ao52 t537.length co52, .slice Ao54 t540.length co54, .slice Ao50 x512002_2.length co50]) ?_ 2 _ rfl; (with_reducible repeat (first | apply b1_ | apply b2_ | apply b3_)); refine blk_put (cs := #[.slice Ao52 t537.length co52, .slice Ao49 x512001_2.length co49, .slice Ao50 x512002_2.length co50]) ?_ 1 _ rfl; (with_reducible repeat (first | apply b1_ | apply b2_ | apply b3_)); refine blk_put (cs := #[.slice Ao48 x512000_2.length co48, .slice Ao49 x512001_2.length co49, .slice Ao50 x512002_2.length co50]) ?_ 0 _ rfl; (with_reducible repeat (first | apply b1_ | apply b2_ | apply b3_)); exact BK511.out) hg (Kd.R_ne HO_6.out BK511.out (by decide))); replace HB := am (hb); have HO549 := am (ho); clear HO_6; clear ho hb hg hat))
       go_roundg k2
       case measure => have := HJ2.out; have := HK2.out; omega
       case rel => exact ⟨(y547), (wrap64 (x25_2 + 1)), (t537), (t540), (t543), (.slice Ao52 t537.length co52), (.slice Ao54 t540.length co54), (.slice Ao55 t543.length co55), Q9, H', ⟨Q12⟩, ⟨(by (with_reducible repeat (first | apply r1_ | apply r2_ | apply r3_)); exact HO549.out)⟩, ⟨(by (with_reducible repeat (first | apply r1_ | apply r2_ | apply r3_)); exact Kd.R_mono HO539.out (fun _ hk => ⟨hk.1.1.1.1, hk.1.1.1.2⟩))⟩, ⟨(by (with_reducible repeat (first | apply r1_ | apply r2_ | apply r3_)); exact Kd.R_mono HO542.out (fun _ hk => ⟨hk.1.1.1.1, hk.1.1.1.2⟩))⟩, ⟨(by (with_reducible repeat (first | apply r1_ | apply r2_ | apply r3_)); exact Kd.R_mono HO545.out (fun _ hk => ⟨hk.1.1.1.1, hk.1.1.1.2⟩))⟩, ⟨u14_14⟩, ⟨u14_15⟩, ⟨Q6⟩⟩
     rw [if_neg c40] at H
     have c40b0 : (((rd_T77 l1 x25_2).f0) == 0) = false := beq_eq_false_iff_ne.mpr c40
     have c40b1 : (((rd_T77 l1 x25_2).f0) != 0) = true := bne_iff_ne.mpr c40
     (first | rw [c40b0] | (simp only [i64_w, i32_w]; rw [c40b0]) | skip)
     by_cases c57 : ((rd_T77 l1 x25_2).f0) = 1
     · rw [if_pos c57] at H
       have c57b0 : (((rd_T77 l1 x25_2).f0) == 1) = true := beq_iff_eq.mpr c57
       have c57b1 : (((rd_T77 l1 x25_2).f0) != 1) = false := bne_eq_false_iff_eq.mpr c57
       clear c57
       replace H := Option.bind_eq_some_iff.mp H
       obtain ⟨⟨t550, t553, t556, t559⟩, A580, H⟩ := H
       (try dsimp only at H)
       have A58 := am A580
       clear A580
       by_cases c59 : x6_2.length < 140737488355328
       rotate_left
       · rw [if_neg c59] at H
         exact absurd H (by simp)
       rw [if_pos c59] at H
       have LMc59 := am c59
       clear c59
       obtain ⟨y560, hy560⟩ : ∃ y_ : List Bool, y_ = (x6_2 ++ [t559]) := ⟨_, rfl⟩
       replace H : (impl_PlayConf.l0 k2 y560 l1 (l1.length : Int) (wrap64 (x25_2 + 1)) t550 t553 t556) = some (r1, r2, r3, r4) := by first | (rw [hy560]; with_reducible exact H) | (have H2_ := (Option.bind_some _ _).symm.trans H; rw [hy560]; with_reducible exact H2_) | (have H2_ := (Option.bind_some _ _).symm.trans H; with_reducible exact H2_) | with_reducible exact H | (rw [hy560]; exact H) | exact H
       have Ny560 := am hy560
       clear hy560
       have H' := am H
       clear H
       have hnb60 := NB511_512.out
       have hnc60 := NB512_511.out
       have hnb61 := NB511_536.out
       have hnc61 := NB536_511.out
       obtain ⟨hcz62_0, hcz62_1, hcz62_2, hfz62_0, hfz62_1, hfz62_2⟩ := bc3f w36 BK511.out
       obtain ⟨Ao63, co63, eo63⟩ := Kd.R_slice HO_512000.out
       subst eo63
       obtain ⟨Ao64, co64, eo64⟩ := Kd.R_slice HO_512001.out
       subst eo64
       obtain ⟨Ao65, co65, eo65⟩ := Kd.R_slice HO_512002.out
       subst eo65
       go_wp2_with (first | ((with_reducible refine gate_callee (f := 47) rfl ?_); refine goesL_ (some 44) rfl rfl Try.func47 kr rfl #[.agg #[.slice Ao63 x512000_2.length co63, .slice Ao64 x512001_2.length co64, .slice Ao65 x512002_2.length co65]] rfl Q10 ?_; (with_reducible refine (impl_finish.calls k2 _ _ x512000_2 _ _ x512001_2 _ _ x512002_2 t550 t553 t556 t559 _ ?side1 ?side2 ?side3 ?side4 ?side5 ?side6 A58.out).mono ?_); (case side1 => exact (by refine (Kd.R_reads' (e := 3) (base := w.heap.size) (ok := fun k_ => (some k_ ≠ (.slice Ao64 x512001_2.length co64 : Value).ownBlock ∧ some k_ ≠ (.slice Ao65 x512002_2.length co65 : Value).ownBlock)) (n := x512000_2.length) (c := co63) ?_).2.2; exact u14_0)); (case side2 => exact (Kd.R_reads' HO_512000.out).2.1); (case side3 => exact (by refine (Kd.R_reads' (e := 3) (base := w.heap.size) (ok := fun k_ => (some k_ ≠ (.slice Ao63 x512000_2.length co63 : Value).ownBlock ∧ some k_ ≠ (.slice Ao65 x512002_2.length co65 : Value).ownBlock)) (n := x512001_2.length) (c := co64) ?_).2.2; exact u14_1)); (case side4 => exact (Kd.R_reads' HO_512001.out).2.1); (case side5 => exact (by refine (Kd.R_reads' (e := 3) (base := w.heap.size) (ok := fun k_ => (some k_ ≠ (.slice Ao63 x512000_2.length co63 : Value).ownBlock ∧ some k_ ≠ (.slice Ao64 x512001_2.length co64 : Value).ownBlock)) (n := x512002_2.length) (c := co65) ?_).2.2; exact u14_2)); (case side6 => exact (Kd.R_reads' HO_512002.out).2.1); rintro e w66 ⟨v551, v554, v557, rfl, ho0, ho1, ho2, hb⟩; refine ⟨_, rfl, ?_⟩; replace HO_6 := am (Kd.R_below u14_6 hb); have HO552 := am (Kd.R_lower (Kd.R_new' (Kd.R_new' (Kd.R_new' ho0 (Kd.R_lt u14_0)) (Kd.R_lt u14_1)) (Kd.R_lt u14_2)) (below_size Q6)); have HO555 := am (Kd.R_lower (Kd.R_new' (Kd.R_new' (Kd.R_new' ho1 (Kd.R_lt u14_0)) (Kd.R_lt u14_1)) (Kd.R_lt u14_2)) (below_size Q6)); have HO558 := am (Kd.R_lower (Kd.R_new' (Kd.R_new' (Kd.R_new' ho2 (Kd.R_lt u14_0)) (Kd.R_lt u14_1)) (Kd.R_lt u14_2)) (below_size Q6)); replace HO_512000 := am (Kd.R_mono (Kd.R_told (Kd.R_told (Kd.R_told (Kd.R_old u14_0 hb) (Kd.R_base ho0)) (Kd.R_base ho1)) (Kd.R_base ho2)) (fun _ h_ => h_.1)); replace HO_512001 := am (Kd.R_mono (Kd.R_told (Kd.R_told (Kd.R_told (Kd.R_old u14_1 hb) (Kd.R_base ho0)) (Kd.R_base ho1)) (Kd.R_base ho2)) (fun _ h_ => h_.1)); replace HO_512002 := am (Kd.R_mono (Kd.R_told (Kd.R_told (Kd.R_told (Kd.R_old u14_2 hb) (Kd.R_base ho0)) (Kd.R_base ho1)) (Kd.R_base ho2)) (fun _ h_ => h_.1)); replace BK511 := am (blk_below (g := gb511) (o := .cells #[.slice Ao63 x512000_2.length co63, .slice Ao64 x512001_2.length co64, .slice Ao65 x512002_2.length co65] 26 (0, 0)) u14_12 hb); replace BK512 := am (blk_below (g := gb512) (o := .cells #[.slice none 0 0, .slice none 0 0, .slice none 0 0] 26 (0, 0)) u14_13 hb); replace BK536 := am (blk_below (g := gb536) (o := .cells #[.int .i64 ((rd_T77 l1 x25_2).f0), .int .i64 ((rd_T77 l1 x25_2).f1), .slice A535_2 ((rd_T77 l1 x25_2).f2).length c535_2] 77 (0, 0)) u14_5 hb); replace HB := am (below_step Q6 hb); (try clear hb); (try clear hb2); (try clear hk); (try clear hi); (try clear ho0); (try clear ho1); (try clear ho2); obtain ⟨Ao67, co67, eo67⟩ := Kd.R_slice HO552.out; subst eo67; obtain ⟨hcz68_0, hcz68_1, hcz68_2, hfz68_0, hfz68_1, hfz68_2⟩ := bc3f w66 BK511.out; obtain ⟨Ao69, co69, eo69⟩ := Kd.R_slice HO555.out; subst eo69; obtain ⟨Ao70, co70, eo70⟩ := Kd.R_slice HO558.out; subst eo70) | ((with_reducible refine gate_builtin (b := .append) (xs := #[.tmp 60, .tmp 62]) rfl ?_); (try (refine gate_guard (by rfl) ?_; dsimp only)); at_builtin; refine Kd.R_append Kd.bool (w0 := w) w.heap.size rfl (.tmp 60) (.tmp 62) 48 4 (.bool false) 1 rfl Try.underlying48 info4 rfl (by decide) (by omega) u6 x6_2 t559 [.bool t559] (fun _ => True) (fun _ => False) rfl Q13 ?aP (fun _ hk => hk.elim) ?aF ?aO ?aB ?aS ?aL ?_; (case aP => exact rfl); (case aB => exact Q6); (case aF => exact (fun _ _ => trivial)); (case aO => exact (by (with_reducible repeat (first | apply r1_ | apply r2_ | apply r3_)); exact Kd.R_mono (Kd.R_far (p := ⟨gb511, 2, none⟩) (Kd.R_far (p := ⟨gb511, 1, none⟩) (Kd.R_far (p := ⟨gb511, 0, none⟩) (Kd.R_types HO_6.out BK511.out (by decide)) (fun _ hk => hk.2) (.slice Ao67 t550.length co67)) (fun _ hk => hk.2) (.slice Ao69 t553.length co69)) (fun _ hk => hk.2) (.slice Ao70 t556.length co70)) (fun _ hk => trivial))); (case aS => exact (below_size Q6)); (case aL => have := LMc59.out; omega); intro v561 w71 ho hb hg hat; rw [← Ny560.out] at ho; replace HO_512000 := am (Kd.R_over' (by (with_reducible repeat (first | apply r1_ | apply r2_ | apply r3_)); exact (Kd.R_mono (Kd.R_far (p := ⟨gb511, 2, none⟩) (Kd.R_far (p := ⟨gb511, 1, none⟩) (Kd.R_far (p := ⟨gb511, 0, none⟩) (Kd.R_types HO_512000.out BK511.out (by decide)) (fun _ hk => hk.2) (.slice Ao67 t550.length co67)) (fun _ hk => hk.2) (.slice Ao69 t553.length co69)) (fun _ hk => hk.2) (.slice Ao70 t556.length co70)) (fun _ h_ => h_.1))) (Kd.R_typed u14_9) (by decide) hg); replace HO_512001 := am (Kd.R_over' (by (with_reducible repeat (first | apply r1_ | apply r2_ | apply r3_)); exact (Kd.R_mono (Kd.R_far (p := ⟨gb511, 2, none⟩) (Kd.R_far (p := ⟨gb511, 1, none⟩) (Kd.R_far (p := ⟨gb511, 0, none⟩) (Kd.R_types HO_512001.out BK511.out (by decide)) (fun _ hk => hk.2) (.slice Ao67 t550.length co67)) (fun _ hk => hk.2) (.slice Ao69 t553.length co69)) (fun _ hk => hk.2) (.slice Ao70 t556.length co70)) (fun _ h_ => h_.1))) (Kd.R_typed u14_9) (by decide) hg); replace HO_512002 := am (Kd.R_over' (by (with_reducible repeat (first | apply r1_ | apply r2_ | apply r3_)); exact (Kd.R_mono (Kd.R_far (p := ⟨gb511, 2, none⟩) (Kd.R_far (p := ⟨gb511, 1, none⟩) (Kd.R_far (p := ⟨gb511, 0, none⟩) (Kd.R_types HO_512002.out BK511.out (by decide)) (fun _ hk => hk.2) (.slice Ao67 t550.length co67)) (fun _ hk => hk.2) (.slice Ao69 t553.length co69)) (fun _ hk => hk.2) (.slice Ao70 t556.length co70)) (fun _ h_ => h_.1))) (Kd.R_typed u14_9) (by decide) hg); replace BK512 := am (blk_grown (g := gb512) (o := .cells #[.slice none 0 0, .slice none 0 0, .slice none 0 0] 26 (0, 0)) u14_11 hg (Kd.R_ne HO_6.out BK512.out (by decide))); replace BK536 := am (blk_grown (g := gb536) (o := .cells #[.int .i64 ((rd_T77 l1 x25_2).f0), .int .i64 ((rd_T77 l1 x25_2).f1), .slice A535_2 ((rd_T77 l1 x25_2).f2).length c535_2] 77 (0, 0)) u14_16 hg (Kd.R_ne HO_6.out BK536.out (by decide))); replace HO552 := am (Kd.R_over' (by (with_reducible repeat (first | apply r1_ | apply r2_ | apply r3_)); exact (Kd.R_mono (Kd.R_far (p := ⟨gb511, 2, none⟩) (Kd.R_far (p := ⟨gb511, 1, none⟩) (Kd.R_far (p := ⟨gb511, 0, none⟩) (Kd.R_types HO552.out BK511.out (by decide)) (fun _ hk => hk.2) (.slice Ao67 t550.length co67)) (fun _ hk => hk.2) (.slice Ao69 t553.length co69)) (fun _ hk => hk.2) (.slice Ao70 t556.length co70)) (fun _ h_ => h_.1))) (Kd.R_typed u14_9) (by decide) hg); replace HO555 := am (Kd.R_over' (by (with_reducible repeat (first | apply r1_ | apply r2_ | apply r3_)); exact (Kd.R_mono (Kd.R_far (p := ⟨gb511, 2, none⟩) (Kd.R_far (p := ⟨gb511, 1, none⟩) (Kd.R_far (p := ⟨gb511, 0, none⟩) (Kd.R_types HO555.out BK511.out (by decide)) (fun _ hk => hk.2) (.slice Ao67 t550.length co67)) (fun _ hk => hk.2) (.slice Ao69 t553.length co69)) (fun _ hk => hk.2) (.slice Ao70 t556.length co70)) (fun _ h_ => h_.1))) (Kd.R_typed u14_9) (by decide) hg); replace HO558 := am (Kd.R_over' (by (with_reducible repeat (first | apply r1_ | apply r2_ | apply r3_)); exact (Kd.R_mono (Kd.R_far (p := ⟨gb511, 2, none⟩) (Kd.R_far (p := ⟨gb511, 1, none⟩) (Kd.R_far (p := ⟨gb511, 0, none⟩) (Kd.R_types HO558.out BK511.out (by decide)) (fun _ hk => hk.2) (.slice Ao67 t550.length co67)) (fun _ hk => hk.2) (.slice Ao69 t553.length co69)) (fun _ hk => hk.2) (.slice Ao70 t556.length co70)) (fun _ h_ => h_.1))) (Kd.R_typed u14_9) (by decide) hg); replace BK511 := am (blk_grown (g := gb511) (o := .cells #[.slice Ao67 t550.length co67, .slice Ao69 t553.length co69, .slice Ao70 t556.length co70] 26 (0, 0)) (by (with_reducible repeat (first | apply b1_ | apply b2_ | apply b3_)); refine blk_put (cs := #[.slice Ao67 t550.length co67, .slice Ao69 t553.length co69, .slice Ao65 x512002_2.length co65]) ?_ 2 _ rfl; (with_reducible repeat (first | apply b1_ | apply b2_ | apply b3_)); refine blk_put (cs := #[.slice Ao67 t550.length co67, .slice Ao64 x512001_2.length co64, .slice Ao65 x512002_2.length co65]) ?_ 1 _ rfl; (with_reducible repeat (first | apply b1_ | apply b2_ | apply b3_)); refine blk_put (cs := #[.slice Ao63 x512000_2.length co63, .slice Ao64 x512001_2.length co64, .slice Ao65 x512002_2.length co65]) ?_ 0 _ rfl; (with_reducible repeat (first | apply b1_ | apply b2_ | apply b3_)); exact BK511.out) hg (Kd.R_ne HO_6.out BK511.out (by decide))); replace HB := am (hb); have HO562 := am (ho); clear HO_6; clear ho hb hg hat))
       go_roundg k2
       case measure => have := HJ2.out; have := HK2.out; omega
       case rel => exact ⟨(y560), (wrap64 (x25_2 + 1)), (t550), (t553), (t556), (.slice Ao67 t550.length co67), (.slice Ao69 t553.length co69), (.slice Ao70 t556.length co70), Q9, H', ⟨Q12⟩, ⟨(by (with_reducible repeat (first | apply r1_ | apply r2_ | apply r3_)); exact HO562.out)⟩, ⟨(by (with_reducible repeat (first | apply r1_ | apply r2_ | apply r3_)); exact Kd.R_mono HO552.out (fun _ hk => ⟨hk.1.1.1.1, hk.1.1.1.2⟩))⟩, ⟨(by (with_reducible repeat (first | apply r1_ | apply r2_ | apply r3_)); exact Kd.R_mono HO555.out (fun _ hk => ⟨hk.1.1.1.1, hk.1.1.1.2⟩))⟩, ⟨(by (with_reducible repeat (first | apply r1_ | apply r2_ | apply r3_)); exact Kd.R_mono HO558.out (fun _ hk => ⟨hk.1.1.1.1, hk.1.1.1.2⟩))⟩, ⟨u14_14⟩, ⟨u14_15⟩, ⟨Q6⟩⟩
     rw [if_neg c57] at H
     have c57b0 : (((rd_T77 l1 x25_2).f0) == 1) = false := beq_eq_false_iff_ne.mpr c57
     have c57b1 : (((rd_T77 l1 x25_2).f0) != 1) = true := bne_iff_ne.mpr c57
     by_cases c72 : ((rd_T77 l1 x25_2).f0) = 2
     · rw [if_pos c72] at H
       have c72b0 : (((rd_T77 l1 x25_2).f0) == 2) = true := beq_iff_eq.mpr c72
       have c72b1 : (((rd_T77 l1 x25_2).f0) != 2) = false := bne_eq_false_iff_eq.mpr c72
       clear c72
       replace H := Option.bind_eq_some_iff.mp H
       obtain ⟨⟨t563, t566, t569, t572⟩, A730, H⟩ := H
       (try dsimp only at H)
       rw [c72b0] at A730
       have A73 := am A730
       clear A730
       by_cases c74 : x6_2.length < 140737488355328
       rotate_left
       · rw [if_neg c74] at H
         exact absurd H (by simp)
       rw [if_pos c74] at H
       have LMc74 := am c74
       clear c74
       obtain ⟨y573, hy573⟩ : ∃ y_ : List Bool, y_ = (x6_2 ++ [t572]) := ⟨_, rfl⟩
       replace H : (impl_PlayConf.l0 k2 y573 l1 (l1.length : Int) (wrap64 (x25_2 + 1)) t563 t566 t569) = some (r1, r2, r3, r4) := by first | (rw [hy573]; with_reducible exact H) | (have H2_ := (Option.bind_some _ _).symm.trans H; rw [hy573]; with_reducible exact H2_) | (have H2_ := (Option.bind_some _ _).symm.trans H; with_reducible exact H2_) | with_reducible exact H | (rw [hy573]; exact H) | exact H
       have Ny573 := am hy573
       clear hy573
       have H' := am H
       clear H
       have hnb75 := NB511_512.out
       have hnc75 := NB512_511.out
       have hnb76 := NB511_536.out
       have hnc76 := NB536_511.out
       obtain ⟨hcz77_0, hcz77_1, hcz77_2, hfz77_0, hfz77_1, hfz77_2⟩ := bc3f w36 BK511.out
       have hnb78 := NB536_512.out
       have hnc78 := NB512_536.out
       obtain ⟨hcz79_0, hcz79_1, hcz79_2, hfz79_0, hfz79_1, hfz79_2⟩ := bc3f w36 BK536.out
       obtain ⟨Ao80, co80, eo80⟩ := Kd.R_slice HO_512000.out
       subst eo80
       obtain ⟨Ao81, co81, eo81⟩ := Kd.R_slice HO_512001.out
       subst eo81
       obtain ⟨Ao82, co82, eo82⟩ := Kd.R_slice HO_512002.out
       subst eo82
       go_wp2_with (first | ((with_reducible refine gate_callee (f := 49) rfl ?_); refine goesL_ (some 57) rfl rfl Try.func49 kr rfl #[.agg #[.slice Ao80 x512000_2.length co80, .slice Ao81 x512001_2.length co81, .slice Ao82 x512002_2.length co82], .int .i64 ((rd_T77 l1 x25_2).f1), .bool true] rfl Q10 ?_; (with_reducible refine (impl_learner.calls k2 _ _ x512000_2 _ _ x512001_2 _ _ x512002_2 ((rd_T77 l1 x25_2).f1) true t563 t566 t569 t572 _ ?side1 ?side2 ?side3 ?side4 ?side5 ?side6 A73.out).mono ?_); (case side1 => exact (by refine (Kd.R_reads' (e := 3) (base := w.heap.size) (ok := fun k_ => (some k_ ≠ (.slice Ao81 x512001_2.length co81 : Value).ownBlock ∧ some k_ ≠ (.slice Ao82 x512002_2.length co82 : Value).ownBlock)) (n := x512000_2.length) (c := co80) ?_).2.2; exact u14_0)); (case side2 => exact (Kd.R_reads' HO_512000.out).2.1); (case side3 => exact (by refine (Kd.R_reads' (e := 3) (base := w.heap.size) (ok := fun k_ => (some k_ ≠ (.slice Ao80 x512000_2.length co80 : Value).ownBlock ∧ some k_ ≠ (.slice Ao82 x512002_2.length co82 : Value).ownBlock)) (n := x512001_2.length) (c := co81) ?_).2.2; exact u14_1)); (case side4 => exact (Kd.R_reads' HO_512001.out).2.1); (case side5 => exact (by refine (Kd.R_reads' (e := 3) (base := w.heap.size) (ok := fun k_ => (some k_ ≠ (.slice Ao80 x512000_2.length co80 : Value).ownBlock ∧ some k_ ≠ (.slice Ao81 x512001_2.length co81 : Value).ownBlock)) (n := x512002_2.length) (c := co82) ?_).2.2; exact u14_2)); (case side6 => exact (Kd.R_reads' HO_512002.out).2.1); rintro e w83 ⟨v564, v567, v570, rfl, ho0, ho1, ho2, hb⟩; refine ⟨_, rfl, ?_⟩; replace HO_6 := am (Kd.R_below u14_6 hb); have HO565 := am (Kd.R_lower (Kd.R_new' (Kd.R_new' (Kd.R_new' ho0 (Kd.R_lt u14_0)) (Kd.R_lt u14_1)) (Kd.R_lt u14_2)) (below_size Q6)); have HO568 := am (Kd.R_lower (Kd.R_new' (Kd.R_new' (Kd.R_new' ho1 (Kd.R_lt u14_0)) (Kd.R_lt u14_1)) (Kd.R_lt u14_2)) (below_size Q6)); have HO571 := am (Kd.R_lower (Kd.R_new' (Kd.R_new' (Kd.R_new' ho2 (Kd.R_lt u14_0)) (Kd.R_lt u14_1)) (Kd.R_lt u14_2)) (below_size Q6)); replace HO_512000 := am (Kd.R_mono (Kd.R_told (Kd.R_told (Kd.R_told (Kd.R_old u14_0 hb) (Kd.R_base ho0)) (Kd.R_base ho1)) (Kd.R_base ho2)) (fun _ h_ => h_.1)); replace HO_512001 := am (Kd.R_mono (Kd.R_told (Kd.R_told (Kd.R_told (Kd.R_old u14_1 hb) (Kd.R_base ho0)) (Kd.R_base ho1)) (Kd.R_base ho2)) (fun _ h_ => h_.1)); replace HO_512002 := am (Kd.R_mono (Kd.R_told (Kd.R_told (Kd.R_told (Kd.R_old u14_2 hb) (Kd.R_base ho0)) (Kd.R_base ho1)) (Kd.R_base ho2)) (fun _ h_ => h_.1)); replace BK511 := am (blk_below (g := gb511) (o := .cells #[.slice Ao80 x512000_2.length co80, .slice Ao81 x512001_2.length co81, .slice Ao82 x512002_2.length co82] 26 (0, 0)) u14_12 hb); replace BK512 := am (blk_below (g := gb512) (o := .cells #[.slice none 0 0, .slice none 0 0, .slice none 0 0] 26 (0, 0)) u14_13 hb); replace BK536 := am (blk_below (g := gb536) (o := .cells #[.int .i64 ((rd_T77 l1 x25_2).f0), .int .i64 ((rd_T77 l1 x25_2).f1), .slice A535_2 ((rd_T77 l1 x25_2).f2).length c535_2] 77 (0, 0)) u14_5 hb); replace HB := am (below_step Q6 hb); (try clear hb); (try clear hb2); (try clear hk); (try clear hi); (try clear ho0); (try clear ho1); (try clear ho2); obtain ⟨Ao84, co84, eo84⟩ := Kd.R_slice HO565.out; subst eo84; obtain ⟨hcz85_0, hcz85_1, hcz85_2, hfz85_0, hfz85_1, hfz85_2⟩ := bc3f w83 BK511.out; obtain ⟨Ao86, co86, eo86⟩ := Kd.R_slice HO568.out; subst eo86; obtain ⟨Ao87, co87, eo87⟩ := Kd.R_slice HO571.out; subst eo87) | ((with_reducible refine gate_builtin (b := .append) (xs := #[.tmp 60, .tmp 62]) rfl ?_); (try (refine gate_guard (by rfl) ?_; dsimp only)); at_builtin; refine Kd.R_append Kd.bool (w0 := w) w.heap.size rfl (.tmp 60) (.tmp 62) 48 4 (.bool false) 1 rfl Try.underlying48 info4 rfl (by decide) (by omega) u6 x6_2 t572 [.bool t572] (fun _ => True) (fun _ => False) rfl Q13 ?aP (fun _ hk => hk.elim) ?aF ?aO ?aB ?aS ?aL ?_; (case aP => exact rfl); (case aB => exact Q6); (case aF => exact (fun _ _ => trivial)); (case aO => exact (by (with_reducible repeat (first | apply r1_ | apply r2_ | apply r3_)); exact Kd.R_mono (Kd.R_far (p := ⟨gb511, 2, none⟩) (Kd.R_far (p := ⟨gb511, 1, none⟩) (Kd.R_far (p := ⟨gb511, 0, none⟩) (Kd.R_types HO_6.out BK511.out (by decide)) (fun _ hk => hk.2) (.slice Ao84 t563.length co84)) (fun _ hk => hk.2) (.slice Ao86 t566.length co86)) (fun _ hk => hk.2) (.slice Ao87 t569.length co87)) (fun _ hk => trivial))); (case aS => exact (below_size Q6)); (case aL => have := LMc74.out; omega); intro v574 w88 ho hb hg hat; rw [← Ny573.out] at ho; replace HO_512000 := am (Kd.R_over' (by (with_reducible repeat (first | apply r1_ | apply r2_ | apply r3_)); exact (Kd.R_mono (Kd.R_far (p := ⟨gb511, 2, none⟩) (Kd.R_far (p := ⟨gb511, 1, none⟩) (Kd.R_far (p := ⟨gb511, 0, none⟩) (Kd.R_types HO_512000.out BK511.out (by decide)) (fun _ hk => hk.2) (.slice Ao84 t563.length co84)) (fun _ hk => hk.2) (.slice Ao86 t566.length co86)) (fun _ hk => hk.2) (.slice Ao87 t569.length co87)) (fun _ h_ => h_.1))) (Kd.R_typed u14_10) (by decide) hg); replace HO_512001 := am (Kd.R_over' (by (with_reducible repeat (first | apply r1_ | apply r2_ | apply r3_)); exact (Kd.R_mono (Kd.R_far (p := ⟨gb511, 2, none⟩) (Kd.R_far (p := ⟨gb511, 1, none⟩) (Kd.R_far (p := ⟨gb511, 0, none⟩) (Kd.R_types HO_512001.out BK511.out (by decide)) (fun _ hk => hk.2) (.slice Ao84 t563.length co84)) (fun _ hk => hk.2) (.slice Ao86 t566.length co86)) (fun _ hk => hk.2) (.slice Ao87 t569.length co87)) (fun _ h_ => h_.1))) (Kd.R_typed u14_10) (by decide) hg); replace HO_512002 := am (Kd.R_over' (by (with_reducible repeat (first | apply r1_ | apply r2_ | apply r3_)); exact (Kd.R_mono (Kd.R_far (p := ⟨gb511, 2, none⟩) (Kd.R_far (p := ⟨gb511, 1, none⟩) (Kd.R_far (p := ⟨gb511, 0, none⟩) (Kd.R_types HO_512002.out BK511.out (by decide)) (fun _ hk => hk.2) (.slice Ao84 t563.length co84)) (fun _ hk => hk.2) (.slice Ao86 t566.length co86)) (fun _ hk => hk.2) (.slice Ao87 t569.length co87)) (fun _ h_ => h_.1))) (Kd.R_typed u14_10) (by decide) hg); replace BK512 := am (blk_grown (g := gb512) (o := .cells #[.slice none 0 0, .slice none 0 0, .slice none 0 0] 26 (0, 0)) u14_11 hg (Kd.R_ne HO_6.out BK512.out (by decide))); replace BK536 := am (blk_grown (g := gb536) (o := .cells #[.int .i64 ((rd_T77 l1 x25_2).f0), .int .i64 ((rd_T77 l1 x25_2).f1), .slice A535_2 ((rd_T77 l1 x25_2).f2).length c535_2] 77 (0, 0)) u14_16 hg (Kd.R_ne HO_6.out BK536.out (by decide))); replace HO565 := am (Kd.R_over' (by (with_reducible repeat (first | apply r1_ | apply r2_ | apply r3_)); exact (Kd.R_mono (Kd.R_far (p := ⟨gb511, 2, none⟩) (Kd.R_far (p := ⟨gb511, 1, none⟩) (Kd.R_far (p := ⟨gb511, 0, none⟩) (Kd.R_types HO565.out BK511.out (by decide)) (fun _ hk => hk.2) (.slice Ao84 t563.length co84)) (fun _ hk => hk.2) (.slice Ao86 t566.length co86)) (fun _ hk => hk.2) (.slice Ao87 t569.length co87)) (fun _ h_ => h_.1))) (Kd.R_typed u14_10) (by decide) hg); replace HO568 := am (Kd.R_over' (by (with_reducible repeat (first | apply r1_ | apply r2_ | apply r3_)); exact (Kd.R_mono (Kd.R_far (p := ⟨gb511, 2, none⟩) (Kd.R_far (p := ⟨gb511, 1, none⟩) (Kd.R_far (p := ⟨gb511, 0, none⟩) (Kd.R_types HO568.out BK511.out (by decide)) (fun _ hk => hk.2) (.slice Ao84 t563.length co84)) (fun _ hk => hk.2) (.slice Ao86 t566.length co86)) (fun _ hk => hk.2) (.slice Ao87 t569.length co87)) (fun _ h_ => h_.1))) (Kd.R_typed u14_10) (by decide) hg); replace HO571 := am (Kd.R_over' (by (with_reducible repeat (first | apply r1_ | apply r2_ | apply r3_)); exact (Kd.R_mono (Kd.R_far (p := ⟨gb511, 2, none⟩) (Kd.R_far (p := ⟨gb511, 1, none⟩) (Kd.R_far (p := ⟨gb511, 0, none⟩) (Kd.R_types HO571.out BK511.out (by decide)) (fun _ hk => hk.2) (.slice Ao84 t563.length co84)) (fun _ hk => hk.2) (.slice Ao86 t566.length co86)) (fun _ hk => hk.2) (.slice Ao87 t569.length co87)) (fun _ h_ => h_.1))) (Kd.R_typed u14_10) (by decide) hg); replace BK511 := am (blk_grown (g := gb511) (o := .cells #[.slice Ao84 t563.length co84, .slice Ao86 t566.length co86, .slice Ao87 t569.length co87] 26 (0, 0)) (by (with_reducible repeat (first | apply b1_ | apply b2_ | apply b3_)); refine blk_put (cs := #[.slice Ao84 t563.length co84, .slice Ao86 t566.length co86, .slice Ao82 x512002_2.length co82]) ?_ 2 _ rfl; (with_reducible repeat (first | apply b1_ | apply b2_ | apply b3_)); refine blk_put (cs := #[.slice Ao84 t563.length co84, .slice Ao81 x512001_2.length co81, .slice Ao82 x512002_2.length co82]) ?_ 1 _ rfl; (with_reducible repeat (first | apply b1_ | apply b2_ | apply b3_)); refine blk_put (cs := #[.slice Ao80 x512000_2.length co80, .slice Ao81 x512001_2.length co81, .slice Ao82 x512002_2.length co82]) ?_ 0 _ rfl; (with_reducible repeat (first | apply b1_ | apply b2_ | apply b3_)); exact BK511.out) hg (Kd.R_ne HO_6.out BK511.out (by decide))); replace HB := am (hb); have HO575 := am (ho); clear HO_6; clear ho hb hg hat))
       go_roundg k2
       case measure => have := HJ2.out; have := HK2.out; omega
       case rel => exact ⟨(y573), (wrap64 (x25_2 + 1)), (t563), (t566), (t569), (.slice Ao84 t563.length co84), (.slice Ao86 t566.length co86), (.slice Ao87 t569.length co87), Q9, H', ⟨Q12⟩, ⟨(by (with_reducible repeat (first | apply r1_ | apply r2_ | apply r3_)); exact HO575.out)⟩, ⟨(by (with_reducible repeat (first | apply r1_ | apply r2_ | apply r3_)); exact Kd.R_mono HO565.out (fun _ hk => ⟨hk.1.1.1.1, hk.1.1.1.2⟩))⟩, ⟨(by (with_reducible repeat (first | apply r1_ | apply r2_ | apply r3_)); exact Kd.R_mono HO568.out (fun _ hk => ⟨hk.1.1.1.1, hk.1.1.1.2⟩))⟩, ⟨(by (with_reducible repeat (first | apply r1_ | apply r2_ | apply r3_)); exact Kd.R_mono HO571.out (fun _ hk => ⟨hk.1.1.1.1, hk.1.1.1.2⟩))⟩, ⟨u14_14⟩, ⟨u14_15⟩, ⟨Q6⟩⟩
     rw [if_neg c72] at H
     have c72b0 : (((rd_T77 l1 x25_2).f0) == 2) = false := beq_eq_false_iff_ne.mpr c72
     have c72b1 : (((rd_T77 l1 x25_2).f0) != 2) = true := bne_iff_ne.mpr c72
     by_cases c89 : ((rd_T77 l1 x25_2).f0) = 3
     rotate_left
     · rw [if_neg c89] at H
       have c89b0 : (((rd_T77 l1 x25_2).f0) == 3) = false := beq_eq_false_iff_ne.mpr c89
       have c89b1 : (((rd_T77 l1 x25_2).f0) != 3) = true := bne_iff_ne.mpr c89
       by_cases c106 : x6_2.length < 140737488355328
       rotate_left
       · rw [if_neg c106] at H
         exact absurd H (by simp)
       rw [if_pos c106] at H
       have LMc106 := am c106
       clear c106
       obtain ⟨y589, hy589⟩ : ∃ y_ : List Bool, y_ = (x6_2 ++ [false]) := ⟨_, rfl⟩
       replace H : (impl_PlayConf.l0 k2 y589 l1 (l1.length : Int) (wrap64 (x25_2 + 1)) x512000_2 x512001_2 x512002_2) = some (r1, r2, r3, r4) := by first | (rw [hy589]; with_reducible exact H) | (have H2_ := (Option.bind_some _ _).symm.trans H; rw [hy589]; with_reducible exact H2_) | (have H2_ := (Option.bind_some _ _).symm.trans H; with_reducible exact H2_) | with_reducible exact H | (rw [hy589]; exact H) | exact H
       have Ny589 := am hy589
       clear hy589
       have H' := am H
       clear H
       go_wp2_with (first | ((with_reducible refine gate_builtin (b := .append) (xs := #[.tmp 60, .tmp 62]) rfl ?_); (try (refine gate_guard (by rfl) ?_; dsimp only)); at_builtin; refine Kd.R_append Kd.bool (w0 := w) w.heap.size rfl (.tmp 60) (.tmp 62) 48 4 (.bool false) 1 rfl Try.underlying48 info4 rfl (by decide) (by omega) u6 x6_2 false [.bool false] (fun _ => True) (fun _ => False) rfl Q13 ?aP (fun _ hk => hk.elim) ?aF ?aO ?aB ?aS ?aL ?_; (case aP => exact rfl); (case aB => exact Q6); (case aF => exact (fun _ _ => trivial)); (case aO => exact (by (with_reducible repeat (first | apply r1_ | apply r2_ | apply r3_)); exact Kd.R_mono (Kd.R_far (p := ⟨gb536, 2, none⟩) (Kd.R_far (p := ⟨gb536, 1, none⟩) (Kd.R_far (p := ⟨gb536, 0, none⟩) (Kd.R_types HO_6.out BK536.out (by decide)) (fun _ hk => hk.2) (.int .i64 ((rd_T77 l1 x25_2).f0))) (fun _ hk => hk.2) (.int .i64 ((rd_T77 l1 x25_2).f1))) (fun _ hk => hk.2) (.slice A535_2 ((rd_T77 l1 x25_2).f2).length c535_2)) (fun _ hk => trivial))); (case aS => exact (below_size Q6)); (case aL => have := LMc106.out; omega); intro v590 w107 ho hb hg hat; rw [← Ny589.out] at ho; replace HO_512000 := am (Kd.R_over' u14_0 (Kd.R_typed u14_6) (by decide) hg); replace HO_512001 := am (Kd.R_over' u14_1 (Kd.R_typed u14_6) (by decide) hg); replace HO_512002 := am (Kd.R_over' u14_2 (Kd.R_typed u14_6) (by decide) hg); replace BK511 := am (blk_grown (g := gb511) (o := .cells #[u512000, u512001, u512002] 26 (0, 0)) u14_12 hg (Kd.R_ne HO_6.out BK511.out (by decide))); replace BK512 := am (blk_grown (g := gb512) (o := .cells #[.slice none 0 0, .slice none 0 0, .slice none 0 0] 26 (0, 0)) u14_13 hg (Kd.R_ne HO_6.out BK512.out (by decide))); replace BK536 := am (blk_grown (g := gb536) (o := .cells #[.int .i64 ((rd_T77 l1 x25_2).f0), .int .i64 ((rd_T77 l1 x25_2).f1), .slice A535_2 ((rd_T77 l1 x25_2).f2).length c535_2] 77 (0, 0)) u14_5 hg (Kd.R_ne HO_6.out BK536.out (by decide))); replace HB := am (hb); have HO591 := am (ho); clear HO_6; clear ho hb hg hat))
       go_roundg k2
       case measure => have := HJ2.out; have := HK2.out; omega
       case rel => exact ⟨(y589), (wrap64 (x25_2 + 1)), (x512000_2), (x512001_2), (x512002_2), (u512000), (u512001), (u512002), Q9, H', ⟨Q12⟩, ⟨(by (with_reducible repeat (first | apply r1_ | apply r2_ | apply r3_)); exact HO591.out)⟩, ⟨u14_31⟩, ⟨u14_32⟩, ⟨u14_33⟩, ⟨u14_14⟩, ⟨u14_15⟩, ⟨Q6⟩⟩
     rw [if_pos c89] at H
     have c89b0 : (((rd_T77 l1 x25_2).f0) == 3) = true := beq_iff_eq.mpr c89
     have c89b1 : (((rd_T77 l1 x25_2).f0) != 3) = false := bne_eq_false_iff_eq.mpr c89
     clear c89
     replace H := Option.bind_eq_some_iff.mp H
     obtain ⟨⟨t576, t579, t582, t585⟩, A900, H⟩ := H
     (try dsimp only at H)
     rw [c72b0] at A900
     have A90 := am A900
     clear A900
     by_cases c91 : x6_2.length < 140737488355328
     rotate_left
     · rw [if_neg c91] at H
       exact absurd H (by simp)
     rw [if_pos c91] at H
     have LMc91 := am c91
     clear c91
     obtain ⟨y586, hy586⟩ : ∃ y_ : List Bool, y_ = (x6_2 ++ [t585]) := ⟨_, rfl⟩
     replace H : (impl_PlayConf.l0 k2 y586 l1 (l1.length : Int) (wrap64 (x25_2 + 1)) t576 t579 t582) = some (r1, r2, r3, r4) := by first | (rw [hy586]; with_reducible exact H) | (have H2_ := (Option.bind_some _ _).symm.trans H; rw [hy586]; with_reducible exact H2_) | (have H2_ := (Option.bind_some _ _).symm.trans H; with_reducible exact H2_) | with_reducible exact H | (rw [hy586]; exact H) | exact H
     have Ny586 := am hy586
     clear hy586
     have H' := am H
     clear H
     have hnb92 := NB511_512.out
     have hnc92 := NB512_511.out
     have hnb93 := NB511_536.out
     have hnc93 := NB536_511.out
     obtain ⟨hcz94_0, hcz94_1, hcz94_2, hfz94_0, hfz94_1, hfz94_2⟩ := bc3f w36 BK511.out
     have hnb95 := NB536_512.out
     have hnc95 := NB512_536.out
     obtain ⟨hcz96_0, hcz96_1, hcz96_2, hfz96_0, hfz96_1, hfz96_2⟩ := bc3f w36 BK536.out
     obtain ⟨Ao97, co97, eo97⟩ := Kd.R_slice HO_512000.out
     subst eo97
     obtain ⟨Ao98, co98, eo98⟩ := Kd.R_slice HO_512001.out
     subst eo98
     obtain ⟨Ao99, co99, eo99⟩ := Kd.R_slice HO_512002.out
     subst eo99
     go_wp2_with (first | ((with_reducible refine gate_callee (f := 49) rfl ?_); refine goesL_ (some 57) rfl rfl Try.func49 kr rfl #[.agg #[.slice Ao97 x512000_2.length co97, .slice Ao98 x512001_2.length co98, .slice Ao99 x512002_2.length co99], .int .i64 ((rd_T77 l1 x25_2).f1), .bool false] rfl Q10 ?_; (with_reducible refine (impl_learner.calls k2 _ _ x512000_2 _ _ x512001_2 _ _ x512002_2 ((rd_T77 l1 x25_2).f1) false t576 t579 t582 t585 _ ?side1 ?side2 ?side3 ?side4 ?side5 ?side6 A90.out).mono ?_); (case side1 => exact (by refine (Kd.R_reads' (e := 3) (base := w.heap.size) (ok := fun k_ => (some k_ ≠ (.slice Ao98 x512001_2.length co98 : Value).ownBlock ∧ some k_ ≠ (.slice Ao99 x512002_2.length co99 : Value).ownBlock)) (n := x512000_2.length) (c := co97) ?_).2.2; exact u14_0)); (case side2 => exact (Kd.R_reads' HO_512000.out).2.1); (case side3 => exact (by refine (Kd.R_reads' (e := 3) (base := w.heap.size) (ok := fun k_ => (some k_ ≠ (.slice Ao97 x512000_2.length co97 : Value).ownBlock ∧ some k_ ≠ (.slice Ao99 x512002_2.length co99 : Value).ownBlock)) (n := x512001_2.length) (c := co98) ?_).2.2; exact u14_1)); (case side4 => exact (Kd.R_reads' HO_512001.out).2.1); (case side5 => exact (by refine (Kd.R_reads' (e := 3) (base := w.heap.size) (ok := fun k_ => (some k_ ≠ (.slice Ao97 x512000_2.length co97 : Value).ownBlock ∧ some k_ ≠ (.slice Ao98 x512001_2.length co98 : Value).ownBlock)) (n := x512002_2.length) (c := co99) ?_).2.2; exact u14_2)); (case side6 => exact (Kd.R_reads' HO_512002.out).2.1); rintro e w100 ⟨v577, v580, v583, rfl, ho0, ho1, ho2, hb⟩; refine ⟨_, rfl, ?_⟩; replace HO_6 := am (Kd.R_below u14_6 hb); have HO578 := am (Kd.R_lower (Kd.R_new' (Kd.R_new' (Kd.R_new' ho0 (Kd.R_lt u14_0)) (Kd.R_lt u14_1)) (Kd.R_lt u14_2)) (below_size Q6)); have HO581 := am (Kd.R_lower (Kd.R_new' (Kd.R_new' (Kd.R_new' ho1 (Kd.R_lt u14_0)) (Kd.R_lt u14_1)) (Kd.R_lt u14_2)) (below_size Q6)); have HO584 := am (Kd.R_lower (Kd.R_new' (Kd.R_new' (Kd.R_new' ho2 (Kd.R_lt u14_0)) (Kd.R_lt u14_1)) (Kd.R_lt u14_2)) (below_size Q6)); replace HO_512000 := am (Kd.R_mono (Kd.R_told (Kd.R_told (Kd.R_told (Kd.R_old u14_0 hb) (Kd.R_base ho0)) (Kd.R_base ho1)) (Kd.R_base ho2)) (fun _ h_ => h_.1)); replace HO_512001 := am (Kd.R_mono (Kd.R_told (Kd.R_told (Kd.R_told (Kd.R_old u14_1 hb) (Kd.R_base ho0)) (Kd.R_base ho1)) (Kd.R_base ho2)) (fun _ h_ => h_.1)); replace HO_512002 := am (Kd.R_mono (Kd.R_told (Kd.R_told (Kd.R_told (Kd.R_old u14_2 hb) (Kd.R_base ho0)) (Kd.R_base ho1)) (Kd.R_base ho2)) (fun _ h_ => h_.1)); replace BK511 := am (blk_below (g := gb511) (o := .cells #[.slice Ao97 x512000_2.length co97, .slice Ao98 x512001_2.length co98, .slice Ao99 x512002_2.length co99] 26 (0, 0)) u14_12 hb); replace BK512 := am (blk_below (g := gb512) (o := .cells #[.slice none 0 0, .slice none 0 0, .slice none 0 0] 26 (0, 0)) u14_13 hb); replace BK536 := am (blk_below (g := gb536) (o := .cells #[.int .i64 ((rd_T77 l1 x25_2).f0), .int .i64 ((rd_T77 l1 x25_2).f1), .slice A535_2 ((rd_T77 l1 x25_2).f2).length c535_2] 77 (0, 0)) u14_5 hb); replace HB := am (below_step Q6 hb); (try clear hb); (try clear hb2); (try clear hk); (try clear hi); (try clear ho0); (try clear ho1); (try clear ho2); obtain ⟨Ao101, co101, eo101⟩ := Kd.R_slice HO578.out; subst eo101; obtain ⟨hcz102_0, hcz102_1, hcz102_2, hfz102_0, hfz102_1, hfz102_2⟩ := bc3f w100 BK511.out; obtain ⟨Ao103, co103, eo103⟩ := Kd.R_slice HO581.out; subst eo103; obtain ⟨Ao104, co104, eo104⟩ := Kd.R_slice HO584.out; subst eo104) | ((with_reducible refine gate_builtin (b := .append) (xs := #[.tmp 60, .tmp 62]) rfl ?_); (try (refine gate_guard (by rfl) ?_; dsimp only)); at_builtin; refine Kd.R_append Kd.bool (w0 := w) w.heap.size rfl (.tmp 60) (.tmp 62) 48 4 (.bool false) 1 rfl Try.underlying48 info4 rfl (by decide) (by omega) u6 x6_2 t585 [.bool t585] (fun _ => True) (fun _ => False) rfl Q13 ?aP (fun _ hk => hk.elim) ?aF ?aO ?aB ?aS ?aL ?_; (case aP => exact rfl); (case aB => exact Q6); (case aF => exact (fun _ _ => trivial)); (case aO => exact (by (with_reducible repeat (first | apply r1_ | apply r2_ | apply r3_)); exact Kd.R_mono (Kd.R_far (p := ⟨gb511, 2, none⟩) (Kd.R_far (p := ⟨gb511, 1, none⟩) (Kd.R_far (p := ⟨gb511, 0, none⟩) (Kd.R_types HO_6.out BK511.out (by decide)) (fun _ hk => hk.2) (.slice Ao101 t576.length co101)) (fun _ hk => hk.2) (.slice Ao103 t579.length co103)) (fun _ hk => hk.2) (.slice Ao104 t582.length co104)) (fun _ hk => trivial))); (case aS => exact (below_size Q6)); (case aL => have := LMc91.out; omega); intro v587 w105 ho hb hg hat; rw [← Ny586.out] at ho; replace HO_512000 := am (Kd.R_over' (by (with_reducible repeat (first | apply r1_ | apply r2_ | apply r3_)); exact (Kd.R_mono (Kd.R_far (p := ⟨gb511, 2, none⟩) (Kd.R_far (p := ⟨gb511, 1, none⟩) (Kd.R_far (p := ⟨gb511, 0, none⟩) (Kd.R_types HO_512000.out BK511.out (by decide)) (fun _ hk => hk.2) (.slice Ao101 t576.length co101)) (fun _ hk => hk.2) (.slice Ao103 t579.length co103)) (fun _ hk => hk.2) (.slice Ao104 t582.length co104)) (fun _ h_ => h_.1))) (Kd.R_typed u14_7) (by decide) hg); replace HO_512001 := am (Kd.R_over' (by (with_reducible repeat (first | apply r1_ | apply r2_ | apply r3_)); exact (Kd.R_mono (Kd.R_far (p := ⟨gb511, 2, none⟩) (Kd.R_far (p := ⟨gb511, 1, none⟩) (Kd.R_far (p := ⟨gb511, 0, none⟩) (Kd.R_types HO_512001.out BK511.out (by decide)) (fun _ hk => hk.2) (.slice Ao101 t576.length co101)) (fun _ hk => hk.2) (.slice Ao103 t579.length co103)) (fun _ hk => hk.2) (.slice Ao104 t582.length co104)) (fun _ h_ => h_.1))) (Kd.R_typed u14_7) (by decide) hg); replace HO_512002 := am (Kd.R_over' (by (with_reducible repeat (first | apply r1_ | apply r2_ | apply r3_)); exact (Kd.R_mono (Kd.R_far (p := ⟨gb511, 2, none⟩) (Kd.R_far (p := ⟨gb511, 1, none⟩) (Kd.R_far (p := ⟨gb511, 0, none⟩) (Kd.R_types HO_512002.out BK511.out (by decide)) (fun _ hk => hk.2) (.slice Ao101 t576.length co101)) (fun _ hk => hk.2) (.slice Ao103 t579.length co103)) (fun _ hk => hk.2) (.slice Ao104 t582.length co104)) (fun _ h_ => h_.1))) (Kd.R_typed u14_7) (by decide) hg); replace BK512 := am (blk_grown (g := gb512) (o := .cells #[.slice none 0 0, .slice none 0 0, .slice none 0 0] 26 (0, 0)) u14_11 hg (Kd.R_ne HO_6.out BK512.out (by decide))); replace BK536 := am (blk_grown (g := gb536) (o := .cells #[.int .i64 ((rd_T77 l1 x25_2).f0), .int .i64 ((rd_T77 l1 x25_2).f1), .slice A535_2 ((rd_T77 l1 x25_2).f2).length c535_2] 77 (0, 0)) u14_16 hg (Kd.R_ne HO_6.out BK536.out (by decide))); replace HO578 := am (Kd.R_over' (by (with_reducible repeat (first | apply r1_ | apply r2_ | apply r3_)); exact (Kd.R_mono (Kd.R_far (p := ⟨gb511, 2, none⟩) (Kd.R_far (p := ⟨gb511, 1, none⟩) (Kd.R_far (p := ⟨gb511, 0, none⟩) (Kd.R_types HO578.out BK511.out (by decide)) (fun _ hk => hk.2) (.slice Ao101 t576.length co101)) (fun _ hk => hk.2) (.slice Ao103 t579.length co103)) (fun _ hk => hk.2) (.slice Ao104 t582.length co104)) (fun _ h_ => h_.1))) (Kd.R_typed u14_7) (by decide) hg); replace HO581 := am (Kd.R_over' (by (with_reducible repeat (first | apply r1_ | apply r2_ | apply r3_)); exact (Kd.R_mono (Kd.R_far (p := ⟨gb511, 2, none⟩) (Kd.R_far (p := ⟨gb511, 1, none⟩) (Kd.R_far (p := ⟨gb511, 0, none⟩) (Kd.R_types HO581.out BK511.out (by decide)) (fun _ hk => hk.2) (.slice Ao101 t576.length co101)) (fun _ hk => hk.2) (.slice Ao103 t579.length co103)) (fun _ hk => hk.2) (.slice Ao104 t582.length co104)) (fun _ h_ => h_.1))) (Kd.R_typed u14_7) (by decide) hg); replace HO584 := am (Kd.R_over' (by (with_reducible repeat (first | apply r1_ | apply r2_ | apply r3_)); exact (Kd.R_mono (Kd.R_far (p := ⟨gb511, 2, none⟩) (Kd.R_far (p := ⟨gb511, 1, none⟩) (Kd.R_far (p := ⟨gb511, 0, none⟩) (Kd.R_types HO584.out BK511.out (by decide)) (fun _ hk => hk.2) (.slice Ao101 t576.length co101)) (fun _ hk => hk.2) (.slice Ao103 t579.length co103)) (fun _ hk => hk.2) (.slice Ao104 t582.length co104)) (fun _ h_ => h_.1))) (Kd.R_typed u14_7) (by decide) hg); replace BK511 := am (blk_grown (g := gb511) (o := .cells #[.slice Ao101 t576.length co101, .slice Ao103 t579.length co103, .slice Ao104 t582.length co104] 26 (0, 0)) (by (with_reducible repeat (first | apply b1_ | apply b2_ | apply b3_)); refine blk_put (cs := #[.slice Ao101 t576.length co101, .slice Ao103 t579.length co103, .slice Ao99 x512002_2.length co99]) ?_ 2 _ rfl; (with_reducible repeat (first | apply b1_ | apply b2_ | apply b3_)); refine blk_put (cs := #[.slice Ao101 t576.length co101, .slice Ao98 x512001_2.length co98, .slice Ao99 x512002_2.length co99]) ?_ 1 _ rfl; (with_reducible repeat (first | apply b1_ | apply b2_ | apply b3_)); refine blk_put (cs := #[.slice Ao97 x512000_2.length co97, .slice Ao98 x512001_2.length co98, .slice Ao99 x512002_2.length co99]) ?_ 0 _ rfl; (with_reducible repeat (first | apply b1_ | apply b2_ | apply b3_)); exact BK511.out) hg (Kd.R_ne HO_6.out BK511.out (by decide))); replace HB := am (hb); have HO588 := am (ho); clear HO_6; clear ho hb hg hat))
     go_roundg k2
     case measure => have := HJ2.out; have := HK2.out; omega
     case rel => exact ⟨(y586), (wrap64 (x25_2 + 1)), (t576), (t579), (t582), (.slice Ao101 t576.length co101), (.slice Ao103 t579.length co103), (.slice Ao104 t582.length co104), Q9, H', ⟨Q12⟩, ⟨(by (with_reducible repeat (first | apply r1_ | apply r2_ | apply r3_)); exact HO588.out)⟩, ⟨(by (with_reducible repeat (first | apply r1_ | apply r2_ | apply r3_)); exact Kd.R_mono HO578.out (fun _ hk => ⟨hk.1.1.1.1, hk.1.1.1.2⟩))⟩, ⟨(by (with_reducible repeat (first | apply r1_ | apply r2_ | apply r3_)); exact Kd.R_mono HO581.out (fun _ hk => ⟨hk.1.1.1.1, hk.1.1.1.2⟩))⟩, ⟨(by (with_reducible repeat (first | apply r1_ | apply r2_ | apply r3_)); exact Kd.R_mono HO584.out (fun _ hk => ⟨hk.1.1.1.1, hk.1.1.1.2⟩))⟩, ⟨u14_14⟩, ⟨u14_15⟩, ⟨Q6⟩⟩
def laws_eqBoolS.l0 : Nat → List Bool → List Bool → Int → Option (Bool)
 | 0, _, _, _ => none
 | k + 1, x0, x1, x5 => if x5 < (x0.length : Int) then (if 0 ≤ x5 then (if x5 < (x1.length : Int) then (if ((rdOf false x0 x5) != (rdOf false x1 x5)) = true then (some false) else (laws_eqBoolS.l0 k x0 x1 (wrap64 (x5 + 1)))) else (none)) else (none)) else (some true)
def laws_eqBoolS.f (k : Nat) (l0 : List Bool) (l1 : List Bool) : Option (Bool) := if (l0.length : Int) = (l1.length : Int) then (laws_eqBoolS.l0 k l0 l1 0) else (some false)
theorem laws_eqBoolS.mono_l : ∀ k, (∀ y0 y1 y2, LeO (laws_eqBoolS.l0 k y0 y1 y2) (laws_eqBoolS.l0 (k + 1) y0 y1 y2))
 | 0 => fun _ _ _ r h => by simp [laws_eqBoolS.l0] at h
 | k + 1 => by
   have ih0 := laws_eqBoolS.mono_l k
   · intro y0 y1 y2
     unfold laws_eqBoolS.l0
     repeat' first
     | (with_reducible exact ih0 _ _ _)
     | (with_reducible exact LeO.refl _)
     | (with_reducible exact LeO.none _)
     | (with_reducible refine LeO.ite ?_ ?_)
     | (with_reducible refine LeO.bind ?_ (fun _ => ?_))
     | exact ih0 _ _ _
     | exact LeO.none _
     | refine LeO.ite ?_ ?_
     | refine LeO.bind ?_ (fun _ => ?_)
theorem laws_eqBoolS.mono : ∀ a0 a1 k, LeO (laws_eqBoolS.f k a0 a1) (laws_eqBoolS.f (k + 1) a0 a1) := by
 intro a0 a1 k
 have ih0 := laws_eqBoolS.mono_l k
 unfold laws_eqBoolS.f
 repeat' first
     | (with_reducible exact ih0 _ _ _)
     | (with_reducible exact LeO.refl _)
     | (with_reducible exact LeO.none _)
     | (with_reducible refine LeO.ite ?_ ?_)
     | (with_reducible refine LeO.bind ?_ (fun _ => ?_))
     | exact ih0 _ _ _
     | exact LeO.none _
     | refine LeO.ite ?_ ?_
     | refine LeO.bind ?_ (fun _ => ?_)
set_option maxHeartbeats 8000000 in
set_option maxRecDepth 100000 in
theorem laws_eqBoolS.calls (k : Nat) (A0 : Option Addr) (c0 : Nat) (l0 : List Bool) (A1 : Option Addr) (c1 : Nat) (l1 : List Bool) (r : Bool) (w : World) (hr0 : Kd.C Kd.bool w A0 l0.length l0) (hc0 : l0.length ≤ c0) (hr1 : Kd.C Kd.bool w A1 l1.length l1) (hc1 : l1.length ≤ c1) (h : laws_eqBoolS.f k l0 l1 = some r) :
   Calls Try.prog 34 #[.slice A0 l0.length c0, .slice A1 l1.length c1] w fun e w' => e = .returned (.bool r) ∧ Drawn0 w w' := by
 have HR0 := am hr0
 have HC0 := am hc0
 clear hr0 hc0
 have HR1 := am hr1
 have HC1 := am hc1
 clear hr1 hc1
 have H : (if (l0.length : Int) = (l1.length : Int) then (laws_eqBoolS.l0 k l0 l1 0) else (some false)) = some r := h
 clear h
 by_cases c3 : (l0.length : Int) = (l1.length : Int)
 rotate_left
 · rw [if_neg c3] at H
   have c3b0 : ((l0.length : Int) == (l1.length : Int)) = false := beq_eq_false_iff_ne.mpr c3
   have c3b1 : ((l0.length : Int) != (l1.length : Int)) = true := bne_iff_ne.mpr c3
   have c3b2 : (l0.length == l1.length) = false := by first | simpa using c3 | (simp at c3 ⊢; omega)
   obtain rfl := sj H
   go_enter Try.func34, Try.ntmps34
   go_wp2
   repeat (go_quiet (fail); try go_wp2)
   go_ret
   exact ⟨by first | rfl | (simp; done) | (simp [*]; done), Q3⟩
 rw [if_pos c3] at H
 have c3b0 : ((l0.length : Int) == (l1.length : Int)) = true := beq_iff_eq.mpr c3
 have c3b1 : ((l0.length : Int) != (l1.length : Int)) = false := bne_eq_false_iff_eq.mpr c3
 have c3b2 : (l0.length == l1.length) = true := by first | simpa using c3 | (simp at c3 ⊢; omega)
 clear c3
 have H' := am H
 clear H
 go_enter Try.func34, Try.ntmps34
 go_wp2
 repeat (go_quiet (fail); try go_wp2)
 go_loopg [5] k (fun kq v5 w' => ∃ (x5_1 : Int), v5 = .int .i64 x5_1 ∧ Aside0 (laws_eqBoolS.l0 kq l0 l1 x5_1 = some r) ∧ Aside0 (kq ≤ k) ∧ Drawn0 w w')
 case atStart => exact ⟨(0), Q9, H', ⟨Nat.le_refl _⟩, Q3⟩
 clear H'
 try clear c1
 try clear c3
 try clear c3b0
 try clear c3b1
 try clear c3b2
 obtain ⟨x5_1, rfl, HA, HK1, ⟨m1, rfl⟩⟩ := hrel
 cases gk with
 | zero => exact absurd HA.out (by simp [laws_eqBoolS.l0])
 | succ k1 =>
   have H := HA.out
   clear HA
   simp only [laws_eqBoolS.l0] at H
   by_cases c4 : x5_1 < (l0.length : Int)
   rotate_left
   · rw [if_neg c4] at H
     have c4b0 : decide (x5_1 < (l0.length : Int)) = false := decide_eq_false c4
     clear c4
     obtain rfl := sj H
     go_wp2
     repeat (go_quiet (fail); try go_wp2)
     go_ret
     exact ⟨by first | rfl | (simp; done) | (simp [*]; done), Q3⟩
   rw [if_pos c4] at H
   have c4b0 : decide (x5_1 < (l0.length : Int)) = true := decide_eq_true c4
   clear c4
   by_cases c5 : 0 ≤ x5_1
   rotate_left
   · rw [if_neg c5] at H
     exact absurd H (by simp)
   rw [if_pos c5] at H
   have c5b0 : decide (0 ≤ x5_1) = true := decide_eq_true c5
   clear c5
   by_cases c6 : x5_1 < (l1.length : Int)
   rotate_left
   · rw [if_neg c6] at H
     exact absurd H (by simp)
   rw [if_pos c6] at H
   have c6b0 : decide (x5_1 < (l1.length : Int)) = true := decide_eq_true c6
   clear c6
   have H9 := am H
   clear H
   have p592 : 0 ≤ (x5_1 : Int) := of_decide_eq_true Q5
   have q592 : x5_1 < (l0.length : Int) := of_decide_eq_true Q5
   obtain ⟨ad592, e592, hx592_0⟩ := Kd.at_bool HR0.out x5_1 p592 q592
   cases e592
   replace p592 := eq_true p592
   replace q592 := eq_true q592
   have p593 : 0 ≤ (x5_1 : Int) := of_decide_eq_true Q5
   have q593 : x5_1 < (l1.length : Int) := of_decide_eq_true Q5
   obtain ⟨ad593, e593, hx593_0⟩ := Kd.at_bool HR1.out x5_1 p593 q593
   cases e593
   replace p593 := eq_true p593
   replace q593 := eq_true q593
   go_upto_if 25 with (fail)
   repeat (go_quiet (fail); go_upto_if 25 with (fail))
   have H := H9.out
   clear H9
   by_cases c7 : ((rdOf false l0 x5_1) != (rdOf false l1 x5_1)) = true
   · rw [if_pos c7] at H
     have c7b0 : ((rdOf false l0 x5_1) != (rdOf false l1 x5_1)) = true := c7
     (try (have c7b1 : decide ((rdOf false l0 x5_1) = (rdOf false l1 x5_1)) = false := by simpa using c7))
     (try (have c7b2 : ((rdOf false l0 x5_1) == (rdOf false l1 x5_1)) = false := by simpa using c7))
     (try (have c7b3 : ¬ ((rdOf false l0 x5_1) = (rdOf false l1 x5_1)) := by simpa using c7))
     clear c7
     (first | rw [c7b0] | (simp only [i64_w, i32_w]; rw [c7b0]) | rw [show (!(_ == _)) = _ from c7b0] | skip)
     obtain rfl := sj H
     go_wp2
     repeat (go_quiet (fail); try go_wp2)
     go_ret
     exact ⟨by first | rfl | (simp; done) | (simp [*]; done), Q3⟩
   rw [if_neg c7] at H
   have c7b0 : ((rdOf false l0 x5_1) != (rdOf false l1 x5_1)) = false := by simpa using c7
   (try (have c7b1 : decide ((rdOf false l0 x5_1) = (rdOf false l1 x5_1)) = true := by simpa using c7))
   (try (have c7b2 : ((rdOf false l0 x5_1) == (rdOf false l1 x5_1)) = true := by simpa using c7))
   clear c7
   (first | rw [c7b0] | (simp only [i64_w, i32_w]; rw [c7b0]) | rw [show (!(_ == _)) = _ from c7b0] | skip)
   have H' := am H
   clear H
   go_wp2
   repeat (go_quiet (fail); try go_wp2)
   go_roundg k1
   case measure => have := HK1.out; omega
   case rel => exact ⟨(wrap64 (x5_1 + 1)), Q9, H', ⟨by have := HK1.out; omega⟩, Q3⟩
def laws_eqConfOp.f (k : Nat) (a0_0 : Int) (a0_1 : Int) (l0_2 : List Int) (a1_0 : Int) (a1_1 : Int) (l1_2 : List Int) : Option (Bool) := if a0_0 = a1_0 then (if a0_1 = a1_1 then ((laws_eqIntS.f k l0_2 l1_2).bind fun t596 => (if t596 = true then (some true) else (some false))) else (some false)) else (some false)
theorem laws_eqConfOp.mono : ∀ a0 a1 a2 a3 a4 a5 k, LeO (laws_eqConfOp.f k a0 a1 a2 a3 a4 a5) (laws_eqConfOp.f (k + 1) a0 a1 a2 a3 a4 a5) := by
 intro a0 a1 a2 a3 a4 a5 k
 unfold laws_eqConfOp.f
 repeat' first
     | (with_reducible exact laws_eqIntS.mono _ _ _)
     | (with_reducible exact LeO.refl _)
     | (with_reducible exact LeO.none _)
     | (with_reducible refine LeO.ite ?_ ?_)
     | (with_reducible refine LeO.bind ?_ (fun _ => ?_))
     | exact laws_eqIntS.mono _ _ _
     | exact LeO.none _
     | refine LeO.ite ?_ ?_
     | refine LeO.bind ?_ (fun _ => ?_)
set_option maxHeartbeats 8000000 in
set_option maxRecDepth 100000 in
theorem laws_eqConfOp.calls (k : Nat) (a0_0 : Int) (a0_1 : Int) (A0_2 : Option Addr) (c0_2 : Nat) (l0_2 : List Int) (a1_0 : Int) (a1_1 : Int) (A1_2 : Option Addr) (c1_2 : Nat) (l1_2 : List Int) (r : Bool) (w : World) (hr0_2 : Kd.C (Kd.int .i64) w A0_2 l0_2.length l0_2) (hc0_2 : l0_2.length ≤ c0_2) (hr1_2 : Kd.C (Kd.int .i64) w A1_2 l1_2.length l1_2) (hc1_2 : l1_2.length ≤ c1_2) (h : laws_eqConfOp.f k a0_0 a0_1 l0_2 a1_0 a1_1 l1_2 = some r) :
   Calls Try.prog 64 #[.agg #[.int .i64 a0_0, .int .i64 a0_1, .slice A0_2 l0_2.length c0_2], .agg #[.int .i64 a1_0, .int .i64 a1_1, .slice A1_2 l1_2.length c1_2]] w fun e w' => e = .returned (.bool r) ∧ Below w.heap.size w w' := by
 have hu77 := Try.underlying77
 have HR0_2 := am hr0_2
 have HC0_2 := am hc0_2
 clear hr0_2 hc0_2
 have HR1_2 := am hr1_2
 have HC1_2 := am hc1_2
 clear hr1_2 hc1_2
 have HB := am (Below.refl w.heap.size w)
 have H : (if a0_0 = a1_0 then (if a0_1 = a1_1 then ((laws_eqIntS.f k l0_2 l1_2).bind fun t596 => (if t596 = true then (some true) else (some false))) else (some false)) else (some false)) = some r := h
 clear h
 have H9 := am H
 clear H
 go_enter Try.func64, Try.ntmps64
 go_upto_if 9 with (first | ((with_reducible refine gate_dst (N := 2) rfl ?_); refine box_event ?hg (N := 2) ?hd (cs := #[.int .i64 a0_0, .int .i64 a0_1, .slice A0_2 l0_2.length c0_2]) (t := 77) ?hr ?_; (case hd => rfl); (case hg => rfl); (case hr => first | (go_simp; done) | (go_simp; rfl)); intro gb594 hg w3 hbox hb; have BK594 := am (hbox); have GW594 := am ((by rw [hg]; exact (below_size Q6) : w.heap.size ≤ gb594)); have GE594 := am ((by rw [hg]; exact (below_size Q6) : w.heap.size ≤ gb594)); replace HB := am (below_step Q6 hb); clear hb hbox hg) | ((with_reducible refine gate_dst (N := 3) rfl ?_); refine box_event ?hg (N := 3) ?hd (cs := #[.int .i64 a1_0, .int .i64 a1_1, .slice A1_2 l1_2.length c1_2]) (t := 77) ?hr ?_; (case hd => rfl); (case hg => rfl); (case hr => first | (go_simp; done) | (go_simp; rfl)); intro gb595 hg w4 hbox hb; have BK595 := am (hbox); have GW595 := am ((by rw [hg]; exact (below_size Q6) : w.heap.size ≤ gb595)); have GE595 := am ((by rw [hg]; exact (below_size Q6) : w.heap.size ≤ gb595)); replace HB := am (below_step Q6 hb); have NB594_595 := am ((by rw [hg]; exact Nat.ne_of_lt (blk_lt (g := gb594) (o := .cells #[.int .i64 a0_0, .int .i64 a0_1, .slice A0_2 l0_2.length c0_2] 77 (0, 0)) u14_26) : gb594 ≠ gb595)); have NB595_594 := am ((by rw [hg]; exact Nat.ne_of_gt (blk_lt (g := gb594) (o := .cells #[.int .i64 a0_0, .int .i64 a0_1, .slice A0_2 l0_2.length c0_2] 77 (0, 0)) u14_26) : gb595 ≠ gb594)); replace BK594 := am (bb_ BK594.out u14_26 hb); clear hb hbox hg; have hnb5 := NB594_595.out; have hnc5 := NB595_594.out; obtain ⟨hcz6_0, hcz6_1, hcz6_2⟩ := bc3 w4 BK594.out; obtain ⟨hcz7_0, hcz7_1, hcz7_2, hfz7_0, hfz7_1, hfz7_2⟩ := bc3f w4 BK595.out))
 have H := H9.out
 clear H9
 by_cases c8 : a0_0 = a1_0
 rotate_left
 · rw [if_neg c8] at H
   have c8b0 : (a0_0 == a1_0) = false := beq_eq_false_iff_ne.mpr c8
   have c8b1 : (a0_0 != a1_0) = true := bne_iff_ne.mpr c8
   (first | rw [c8b0] | (simp only [i64_w, i32_w]; rw [c8b0]) | skip)
   obtain rfl := sj H
   go_wp2
   go_ret
   exact ⟨er, Q6⟩
 rw [if_pos c8] at H
 have c8b0 : (a0_0 == a1_0) = true := beq_iff_eq.mpr c8
 have c8b1 : (a0_0 != a1_0) = false := bne_eq_false_iff_eq.mpr c8
 clear c8
 (first | rw [c8b0] | (simp only [i64_w, i32_w]; rw [c8b0]) | skip)
 by_cases c9 : a0_1 = a1_1
 rotate_left
 · rw [if_neg c9] at H
   have c9b0 : (a0_1 == a1_1) = false := beq_eq_false_iff_ne.mpr c9
   have c9b1 : (a0_1 != a1_1) = true := bne_iff_ne.mpr c9
   obtain rfl := sj H
   have hnb15 := NB594_595.out
   have hnc15 := NB595_594.out
   obtain ⟨hcz16_0, hcz16_1, hcz16_2⟩ := bc3 w4 BK594.out
   obtain ⟨hcz17_0, hcz17_1, hcz17_2, hfz17_0, hfz17_1, hfz17_2⟩ := bc3f w4 BK595.out
   go_wp2
   go_ret
   exact ⟨er, Q6⟩
 rw [if_pos c9] at H
 have c9b0 : (a0_1 == a1_1) = true := beq_iff_eq.mpr c9
 have c9b1 : (a0_1 != a1_1) = false := bne_eq_false_iff_eq.mpr c9
 clear c9
 replace H := Option.bind_eq_some_iff.mp H
 obtain ⟨t596, A100, H⟩ := H
 replace H : (if t596 = true then (some true) else (some false)) = some r := H
 have A10 := am A100
 clear A100
 have H9 := am H
 clear H
 have hnb11 := NB594_595.out
 have hnc11 := NB595_594.out
 obtain ⟨hcz12_0, hcz12_1, hcz12_2⟩ := bc3 w4 BK594.out
 obtain ⟨hcz13_0, hcz13_1, hcz13_2, hfz13_0, hfz13_1, hfz13_2⟩ := bc3f w4 BK595.out
 go_upto_if 20 with (first | ((with_reducible refine gate_callee (f := 27) rfl ?_); refine goesL_ (some 19) rfl rfl Try.func27 kr rfl #[.slice A0_2 l0_2.length c0_2, .slice A1_2 l1_2.length c1_2] rfl Q10 ?_; (with_reducible refine (laws_eqIntS.calls k _ _ l0_2 _ _ l1_2 t596 _ ?side1 ?side2 ?side3 ?side4 A10.out).mono ?_); (case side1 => exact Q2); (case side2 => exact HC0_2.out); (case side3 => exact (by repeat (first | exact (Kd.C_below HR1_2.out HB.out) | (with_reducible refine Kd.C_alloc ?_ _) | (with_reducible refine Kd.C_drewN ?_ _) | (with_reducible refine Kd.C_drew ?_)))); (case side4 => exact HC1_2.out); rintro e w' ⟨rfl, ⟨nd, rfl⟩⟩; refine ⟨_, rfl, ?_⟩))
 have H := H9.out
 clear H9
 by_cases c14 : t596 = true
 · subst c14
   rw [if_pos rfl] at H
   obtain rfl := sj H
   go_wp2
   go_ret
   exact ⟨er, Q6⟩
 replace c14 := Bool.eq_false_iff.mpr c14
 subst c14
 rw [nf] at H
 obtain rfl := sj H
 go_wp2
 go_ret
 exact ⟨er, Q6⟩
end Go.Proofs.Ytoemdmjdpikfbaa.QFnExactPlayConf
