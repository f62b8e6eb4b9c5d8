import Derived.Test.YtoemdmjdpikfbaaSqFnExactPlayConf
import Derived.Test.YtoemdmjdpikfbaaQFnExactPlayConfx0
namespace Go.Proofs.Ytoemdmjdpikfbaa.QFnExactPlayConf
open Go.RowKit Go.Proofs.YtoemdmjdpikfbaaW.PrintWords Go.Proofs.YtoemdmjdpikfbaaW.PrintLast Go.Proofs.YtoemdmjdpikfbaaW.PrintMore Go.Proofs.Ytoemdmjdpikfbaa.SqFnExactPlayConf
attribute [local go_sem] max2_int min2_int max_two min_two max_three min_three max_four min_four Go.Proofs.Ytoemdmjdpikfbaa.Set.isSome_setCell
set_option linter.unusedVariables false
set_option linter.unusedSimpArgs false
theorem u10_1 {P : Prop} (h : P := by (with_reducible repeat (first | apply b1_ | apply b2_ | apply b3_)); exact BK403.out) : P := h
theorem u10_2 {P : Prop} (h : P := by (with_reducible repeat (first | apply b1_ | apply b2_ | apply b3_)); exact BK404.out) : P := h
theorem u10_3 {P : Prop} (h : P := by first | (simp only [putAll, Act.put, la, lb, lc]; done) | (simp only [putAll, Act.put, la, lb, lc]; rfl)) : P := h
theorem u10_4 {P : Prop} (h : P := by (with_reducible repeat (first | apply r1_ | apply r2_ | apply r3_)); exact HO410.out) : P := h
theorem u10_5 {P : Prop} (h : P := by (with_reducible repeat (first | apply r1_ | apply r2_ | apply r3_)); exact HO419.out) : P := h
theorem u10_6 {P : Prop} (h : P := by (with_reducible repeat (first | apply r1_ | apply r2_ | apply r3_)); exact HO413.out) : P := h
theorem u10_7 {P : Prop} (h : P := by (with_reducible repeat (first | apply r1_ | apply r2_ | apply r3_)); exact HO407.out) : P := h
theorem u10_8 {P : Prop} (h : P := by (with_reducible repeat (first | apply r1_ | apply r2_ | apply r3_)); exact Kd.R_mono HO419.out (fun _ hk => hk.2)) : P := h
theorem u10_9 {P : Prop} (h : P := by (with_reducible repeat (first | apply r1_ | apply r2_ | apply r3_)); exact Kd.R_mono HO413.out (fun _ hk => hk.2)) : P := h
theorem u10_10 {P : Prop} (h : P := by (with_reducible repeat (first | apply r1_ | apply r2_ | apply r3_)); exact HO416.out) : P := h
theorem u10_11 {P : Prop} (h : P := by (with_reducible repeat (first | apply r1_ | apply r2_ | apply r3_)); exact Kd.R_mono HO407.out (fun _ hk => hk.2)) : P := h
theorem u10_13 {P : Prop} (h : P := by (with_reducible repeat (first | apply r1_ | apply r2_ | apply r3_)); exact Kd.R_mono HO419.out (fun _ hk => ⟨hk.1.2, hk.2⟩)) : P := h
theorem u10_14 {P : Prop} (h : P := by (with_reducible repeat (first | apply r1_ | apply r2_ | apply r3_)); exact Kd.R_mono HO413.out (fun _ hk => ⟨hk.2, hk.1⟩)) : P := h
theorem u10_15 {P : Prop} (h : P := by (with_reducible repeat (first | apply r1_ | apply r2_ | apply r3_)); exact Kd.R_mono HO419.out (fun _ hk => ⟨hk.2, hk.1⟩)) : P := h
theorem u10_16 {P : Prop} (h : P := by (with_reducible repeat (first | apply r1_ | apply r2_ | apply r3_)); exact Kd.R_mono HO410.out (fun _ hk => ⟨hk.2, hk.1⟩)) : P := h
theorem u10_17 {P : Prop} (h : P := by (with_reducible repeat (first | apply r1_ | apply r2_ | apply r3_)); exact Kd.R_mono HO410.out (fun _ hk => hk.2)) : P := h
theorem u10_19 {P : Prop} (h : P := by (with_reducible repeat (first | apply r1_ | apply r2_ | apply r3_)); exact Kd.R_mono HO413.out (fun _ hk => ⟨hk.1.2, hk.2⟩)) : P := h
def impl_copyConf.f (l0_0 : List Int) (l0_1 : List Int) (l0_2 : List Int) : Option (List Int × List Int × List Int) := (some (([] : List Int) : List Int)).bind fun y405 => (if y405.length + l0_0.length < 17592186044416 then ((some (([] : List Int) : List Int)).bind fun y411 => (if y411.length + l0_1.length < 17592186044416 then ((some (([] : List Int) : List Int)).bind fun y417 => (if y417.length + l0_2.length < 17592186044416 then (some ((y405 ++ l0_0), (y411 ++ l0_1), (y417 ++ l0_2))) else (none))) else (none))) else (none))
def impl_copyConf.T1 : Bool × List (List Nat × List Nat) := (true, [([], []), ([], []), ([1], [1]), ([0, 2], [0, 2]), ([], []), ([], []), ([5], [5]), ([4, 6, 3], [4, 6]), ([], []), ([], []), ([9], [9]), ([8, 10, 7], [8, 10]), ([3, 7, 11], [3, 7, 11]), ([12, 11, 0, 1, 2, 3, 4, 5, 6, 7, 8, 9, 10, 11, 12], [12])])
def impl_copyConf.B1 : List Nat := [0, 0, 2, 7, 0, 0, 32, 127, 0, 0, 512, 2047, 4095, 8191]
theorem impl_copyConf.tab1 : rtab .any (opsOf Try.f63 1) = impl_copyConf.T1 := by kernel_rfl
theorem impl_copyConf.bits1 : waitsOk impl_copyConf.T1.2 impl_copyConf.B1 = true := by kernel_rfl
set_option maxHeartbeats 8000000 in
set_option maxRecDepth 100000 in
theorem impl_copyConf.calls (A0_0 : Option Addr) (c0_0 : Nat) (l0_0 : List Int) (A0_1 : Option Addr) (c0_1 : Nat) (l0_1 : List Int) (A0_2 : Option Addr) (c0_2 : Nat) (l0_2 : List Int) (r1 : List Int) (r2 : List Int) (r3 : List Int) (w : World) (hr0_0 : Kd.C (Kd.int .i64) w A0_0 l0_0.length l0_0) (hc0_0 : l0_0.length ≤ c0_0) (hr0_1 : Kd.C (Kd.int .i64) w A0_1 l0_1.length l0_1) (hc0_1 : l0_1.length ≤ c0_1) (hr0_2 : Kd.C (Kd.int .i64) w A0_2 l0_2.length l0_2) (hc0_2 : l0_2.length ≤ c0_2) (h : impl_copyConf.f l0_0 l0_1 l0_2 = some (r1, r2, r3)) :
   Calls Try.prog 63 #[.agg #[.slice A0_0 l0_0.length c0_0, .slice A0_1 l0_1.length c0_1, .slice A0_2 l0_2.length c0_2]] w fun e w' => ∃ v0_ v1_ v2_ : Value, e = .returned (.agg #[v0_, v1_, v2_]) ∧ Kd.R (Kd.int .i64) 3 w' w.heap.size (fun k_ => some k_ ≠ (v1_ : Value).ownBlock ∧ some k_ ≠ (v2_ : Value).ownBlock) v0_ r1 ∧ Kd.R (Kd.int .i64) 3 w' w.heap.size (fun k_ => some k_ ≠ (v0_ : Value).ownBlock ∧ some k_ ≠ (v2_ : Value).ownBlock) v1_ r2 ∧ Kd.R (Kd.int .i64) 3 w' w.heap.size (fun k_ => some k_ ≠ (v0_ : Value).ownBlock ∧ some k_ ≠ (v1_ : Value).ownBlock) v2_ r3 ∧ Below w.heap.size w w' := by
 have hu26 := Try.underlying26
 have HR0_0 := am hr0_0
 have HC0_0 := am hc0_0
 clear hr0_0 hc0_0
 have HR0_1 := am hr0_1
 have HC0_1 := am hc0_1
 clear hr0_1 hc0_1
 have HR0_2 := am hr0_2
 have HC0_2 := am hc0_2
 clear hr0_2 hc0_2
 have HB := am (Below.refl w.heap.size w)
 have H : ((some (([] : List Int) : List Int)).bind fun y405 => (if y405.length + l0_0.length < 17592186044416 then ((some (([] : List Int) : List Int)).bind fun y411 => (if y411.length + l0_1.length < 17592186044416 then ((some (([] : List Int) : List Int)).bind fun y417 => (if y417.length + l0_2.length < 17592186044416 then (some ((y405 ++ l0_0), (y411 ++ l0_1), (y417 ++ l0_2))) else (none))) else (none))) else (none))) = some (r1, r2, r3) := h
 clear h
 obtain ⟨y405, hy405⟩ : ∃ y_ : List Int, y_ = (([] : List Int)) := ⟨_, rfl⟩
 replace H : (if y405.length + l0_0.length < 17592186044416 then ((some (([] : List Int) : List Int)).bind fun y411 => (if y411.length + l0_1.length < 17592186044416 then ((some (([] : List Int) : List Int)).bind fun y417 => (if y417.length + l0_2.length < 17592186044416 then (some ((y405 ++ l0_0), (y411 ++ l0_1), (y417 ++ l0_2))) else (none))) else (none))) else (none)) = some (r1, r2, r3) := by first | (rw [hy405]; with_reducible exact H) | (have H2_ := (Option.bind_some _ _).symm.trans H; rw [hy405]; with_reducible exact H2_) | (have H2_ := (Option.bind_some _ _).symm.trans H; with_reducible exact H2_) | with_reducible exact H | (rw [hy405]; exact H) | exact H
 have Ny405 := am hy405
 clear hy405
 by_cases c2 : y405.length + l0_0.length < 17592186044416
 rotate_left
 · rw [if_neg c2] at H
   exact absurd H (by simp)
 rw [if_pos c2] at H
 have LMc2 := am c2
 clear c2
 obtain ⟨y408, hy408⟩ : ∃ y_ : List Int, y_ = (y405 ++ l0_0) := ⟨_, rfl⟩
 replace H : ((some (([] : List Int) : List Int)).bind fun y411 => (if y411.length + l0_1.length < 17592186044416 then ((some (([] : List Int) : List Int)).bind fun y417 => (if y417.length + l0_2.length < 17592186044416 then (some (y408, (y411 ++ l0_1), (y417 ++ l0_2))) else (none))) else (none))) = some (r1, r2, r3) := by first | (rw [hy408]; with_reducible exact H) | (have H2_ := (Option.bind_some _ _).symm.trans H; rw [hy408]; with_reducible exact H2_) | (have H2_ := (Option.bind_some _ _).symm.trans H; with_reducible exact H2_) | with_reducible exact H | (rw [hy408]; exact H) | exact H
 have Ny408 := am hy408
 clear hy408
 obtain ⟨y411, hy411⟩ : ∃ y_ : List Int, y_ = (([] : List Int)) := ⟨_, rfl⟩
 replace H : (if y411.length + l0_1.length < 17592186044416 then ((some (([] : List Int) : List Int)).bind fun y417 => (if y417.length + l0_2.length < 17592186044416 then (some (y408, (y411 ++ l0_1), (y417 ++ l0_2))) else (none))) else (none)) = some (r1, r2, r3) := by first | (rw [hy411]; with_reducible exact H) | (have H2_ := (Option.bind_some _ _).symm.trans H; rw [hy411]; with_reducible exact H2_) | (have H2_ := (Option.bind_some _ _).symm.trans H; with_reducible exact H2_) | with_reducible exact H | (rw [hy411]; exact H) | exact H
 have Ny411 := am hy411
 clear hy411
 by_cases c3 : y411.length + l0_1.length < 17592186044416
 rotate_left
 · rw [if_neg c3] at H
   exact absurd H (by simp)
 rw [if_pos c3] at H
 have LMc3 := am c3
 clear c3
 obtain ⟨y414, hy414⟩ : ∃ y_ : List Int, y_ = (y411 ++ l0_1) := ⟨_, rfl⟩
 replace H : ((some (([] : List Int) : List Int)).bind fun y417 => (if y417.length + l0_2.length < 17592186044416 then (some (y408, y414, (y417 ++ l0_2))) else (none))) = some (r1, r2, r3) := by first | (rw [hy414]; with_reducible exact H) | (have H2_ := (Option.bind_some _ _).symm.trans H; rw [hy414]; with_reducible exact H2_) | (have H2_ := (Option.bind_some _ _).symm.trans H; with_reducible exact H2_) | with_reducible exact H | (rw [hy414]; exact H) | exact H
 have Ny414 := am hy414
 clear hy414
 obtain ⟨y417, hy417⟩ : ∃ y_ : List Int, y_ = (([] : List Int)) := ⟨_, rfl⟩
 replace H : (if y417.length + l0_2.length < 17592186044416 then (some (y408, y414, (y417 ++ l0_2))) else (none)) = some (r1, r2, r3) := by first | (rw [hy417]; with_reducible exact H) | (have H2_ := (Option.bind_some _ _).symm.trans H; rw [hy417]; with_reducible exact H2_) | (have H2_ := (Option.bind_some _ _).symm.trans H; with_reducible exact H2_) | with_reducible exact H | (rw [hy417]; exact H) | exact H
 have Ny417 := am hy417
 clear hy417
 by_cases c4 : y417.length + l0_2.length < 17592186044416
 rotate_left
 · rw [if_neg c4] at H
   exact absurd H (by simp)
 rw [if_pos c4] at H
 have LMc4 := am c4
 clear c4
 obtain ⟨y420, hy420⟩ : ∃ y_ : List Int, y_ = (y417 ++ l0_2) := ⟨_, rfl⟩
 replace H : (some (y408, y414, y420)) = some (r1, r2, r3) := by first | (rw [hy420]; with_reducible exact H) | (have H2_ := (Option.bind_some _ _).symm.trans H; rw [hy420]; with_reducible exact H2_) | (have H2_ := (Option.bind_some _ _).symm.trans H; with_reducible exact H2_) | with_reducible exact H | (rw [hy420]; exact H) | exact H
 have Ny420 := am hy420
 clear hy420
 simp only [Option.some.injEq, Prod.mk.injEq] at H
 obtain ⟨rfl, rfl, rfl⟩ := H
 go_enter Try.func63, Try.ntmps63
 try go_wp2_with (first | ((with_reducible refine gate_dst (N := 1) rfl ?_); refine box_event ?hg (N := 1) ?hd (cs := #[.slice A0_0 l0_0.length c0_0, .slice A0_1 l0_1.length c0_1, .slice A0_2 l0_2.length c0_2]) (t := 26) ?hr ?_; (case hd => rfl); (case hg => rfl); (case hr => first | (go_simp; done) | (go_simp; rfl)); intro gb403 hg w5 hbox hb; have BK403 := am (hbox); have GW403 := am ((by rw [hg]; exact (below_size Q6) : w.heap.size ≤ gb403)); have GE403 := am ((by rw [hg]; exact (below_size Q6) : w.heap.size ≤ gb403)); replace HB := am (below_step Q6 hb); clear hb hbox hg) | ((with_reducible refine gate_dst (N := 2) rfl ?_); refine box_event ?hg (N := 2) ?hd (cs := #[.slice none 0 0, .slice none 0 0, .slice none 0 0]) (t := 26) ?hr ?_; (case hd => rfl); (case hg => rfl); (case hr => first | (go_simp; done) | (go_simp; rfl)); intro gb404 hg w6 hbox hb; have BK404 := am (hbox); have GW404 := am ((by rw [hg]; exact (below_size Q6) : w.heap.size ≤ gb404)); have GE404 := am ((by rw [hg]; exact (below_size Q6) : w.heap.size ≤ gb404)); replace HB := am (below_step Q6 hb); have NB403_404 := am ((by rw [hg]; exact Nat.ne_of_lt (blk_lt (g := gb403) (o := .cells #[.slice A0_0 l0_0.length c0_0, .slice A0_1 l0_1.length c0_1, .slice A0_2 l0_2.length c0_2] 26 (0, 0)) u10_1) : gb403 ≠ gb404)); have NB404_403 := am ((by rw [hg]; exact Nat.ne_of_gt (blk_lt (g := gb403) (o := .cells #[.slice A0_0 l0_0.length c0_0, .slice A0_1 l0_1.length c0_1, .slice A0_2 l0_2.length c0_2] 26 (0, 0)) u10_1) : gb404 ≠ gb403)); replace BK403 := am (bb_ BK403.out u10_1 hb); clear hb hbox hg))
 replace BK403 := am (blk_drew BK403.out)
 replace BK404 := am (blk_drew BK404.out)
 replace HB := am (below_drew1 HB.out)
 refine start_ (n := 14) (S := fun w' => w'.cell? ⟨gb403, 0, none⟩ = some (.slice A0_0 l0_0.length c0_0) ∧ w'.cell? ⟨gb403, 1, none⟩ = some (.slice A0_1 l0_1.length c0_1) ∧ w'.cell? ⟨gb403, 2, none⟩ = some (.slice A0_2 l0_2.length c0_2)) (ds := []) #[false, false, false, false, false, false, false, false, false, false, false, false, false, false] kr rfl rfl ⟨(blk_cell BK403.out 0).trans rfl, (blk_cell BK403.out 1).trans rfl, (blk_cell BK403.out 2).trans rfl⟩ (fun hHeld => ?_); refine with_tabW impl_copyConf.tab1 impl_copyConf.bits1 (fun HT_ HW_ => ?_)
 generalize w6.drew = w7 at BK403 BK404 HB hHeld ⊢
 refine pV 1 4 #[false, true, false, false, false, false, false, false, false, false, false, false, false, false] ?_
 refine pV 5 8 #[false, true, false, false, false, true, false, false, false, false, false, false, false, false] ?_
 refine pV 9 12 #[false, true, false, false, false, true, false, false, false, true, false, false, false, false] ?_
 refine tV 2 5 #[false, true, true, false, false, true, false, false, false, true, false, false, false, false] ?_
 refine tV 6 9 #[false, true, true, false, false, true, true, false, false, true, false, false, false, false] ?_
 refine tV 10 13 #[false, true, true, false, false, true, true, false, false, true, true, false, false, false] ?_
 refine join_ (σ := Value × Value × Value × Value × Value) 3 b11_14 (fun s_ => [(3, s_.1), (6, s_.2.1), (7, s_.2.2.1), (10, s_.2.2.2.1), (11, s_.2.2.2.2)]) (fun s_ w' => (w'.cell? ⟨gb403, 0, none⟩ = some (.slice A0_0 l0_0.length c0_0) ∧ w'.cell? ⟨gb403, 1, none⟩ = some (.slice A0_1 l0_1.length c0_1) ∧ w'.cell? ⟨gb403, 2, none⟩ = some (.slice A0_2 l0_2.length c0_2)) ∧ (Kd.R (Kd.int .i64) 3 w' w.heap.size (fun k_ => some k_ ≠ (s_.2.2.2.1 : Value).ownBlock ∧ some k_ ≠ (s_.2.2.2.2 : Value).ownBlock) s_.2.1 y408) ∧ (Kd.R (Kd.int .i64) 3 w' w.heap.size (fun k_ => some k_ ≠ (s_.2.1 : Value).ownBlock ∧ some k_ ≠ (s_.2.2.2.2 : Value).ownBlock) s_.2.2.2.1 y414) ∧ (Kd.R (Kd.int .i64) 3 w' w.heap.size (fun k_ => some k_ ≠ (s_.2.1 : Value).ownBlock ∧ some k_ ≠ (s_.2.2.2.1 : Value).ownBlock) s_.2.2.2.2 y417) ∧ (w'.heap[gb403]? = some (.cells #[.slice A0_0 l0_0.length c0_0, .slice A0_1 l0_1.length c0_1, .slice A0_2 l0_2.length c0_2] 26 (0, 0))) ∧ (w'.heap[gb404]? = some (.cells #[.slice none 0 0, .slice none 0 0, .slice none 0 0] 26 (0, 0))) ∧ (Below w.heap.size w w')) ?_ ?_
 rotate_left
 · intro hJ0_3_4_7_8
   refine join_ (σ := Value × Value × Value × Value) 4 #[true, true, true, true, true, true, true, true, false, true, true, false, false, false] (fun s_ => [(3, s_.1), (6, s_.2.1), (7, s_.2.2.1), (10, s_.2.2.2)]) (fun s_ w' => (w'.cell? ⟨gb403, 0, none⟩ = some (.slice A0_0 l0_0.length c0_0) ∧ w'.cell? ⟨gb403, 1, none⟩ = some (.slice A0_1 l0_1.length c0_1) ∧ w'.cell? ⟨gb403, 2, none⟩ = some (.slice A0_2 l0_2.length c0_2)) ∧ (Kd.R (Kd.int .i64) 3 w' w.heap.size (fun k_ => some k_ ≠ (s_.2.2.2 : Value).ownBlock) s_.2.1 y408) ∧ (Kd.R (Kd.int .i64) 3 w' w.heap.size (fun k_ => some k_ ≠ (s_.2.1 : Value).ownBlock) s_.2.2.2 y414) ∧ (w'.heap[gb403]? = some (.cells #[.slice A0_0 l0_0.length c0_0, .slice A0_1 l0_1.length c0_1, .slice A0_2 l0_2.length c0_2] 26 (0, 0))) ∧ (w'.heap[gb404]? = some (.cells #[.slice none 0 0, .slice none 0 0, .slice none 0 0] 26 (0, 0))) ∧ (Below w.heap.size w w')) ?_ ?_
   rotate_left
   · intro hJ0_3_4_7
     refine join_ (σ := Value × Value × Value × Value) 4 bx1 (fun s_ => [(3, s_.1), (6, s_.2.1), (7, s_.2.2.1), (11, s_.2.2.2)]) (fun s_ w' => (w'.cell? ⟨gb403, 0, none⟩ = some (.slice A0_0 l0_0.length c0_0) ∧ w'.cell? ⟨gb403, 1, none⟩ = some (.slice A0_1 l0_1.length c0_1) ∧ w'.cell? ⟨gb403, 2, none⟩ = some (.slice A0_2 l0_2.length c0_2)) ∧ (Kd.R (Kd.int .i64) 3 w' w.heap.size (fun k_ => some k_ ≠ (s_.2.2.1 : Value).ownBlock ∧ some k_ ≠ (s_.2.2.2 : Value).ownBlock) s_.2.1 y408) ∧ (Kd.R (Kd.int .i64) 3 w' w.heap.size (fun k_ => some k_ ≠ (s_.2.1 : Value).ownBlock ∧ some k_ ≠ (s_.2.2.2 : Value).ownBlock) s_.2.2.1 y411) ∧ (Kd.R (Kd.int .i64) 3 w' w.heap.size (fun k_ => some k_ ≠ (s_.2.1 : Value).ownBlock ∧ some k_ ≠ (s_.2.2.1 : Value).ownBlock) s_.2.2.2 y417) ∧ (w'.heap[gb403]? = some (.cells #[.slice A0_0 l0_0.length c0_0, .slice A0_1 l0_1.length c0_1, .slice A0_2 l0_2.length c0_2] 26 (0, 0))) ∧ (w'.heap[gb404]? = some (.cells #[.slice none 0 0, .slice none 0 0, .slice none 0 0] 26 (0, 0))) ∧ (Below w.heap.size w w')) ?_ ?_
     rotate_left
     · intro hJ0_3_4_8
       refine join_ (σ := Value × Value × Value) 5 bx2 (fun s_ => [(3, s_.1), (6, s_.2.1), (7, s_.2.2)]) (fun s_ w' => (w'.cell? ⟨gb403, 0, none⟩ = some (.slice A0_0 l0_0.length c0_0) ∧ w'.cell? ⟨gb403, 1, none⟩ = some (.slice A0_1 l0_1.length c0_1) ∧ w'.cell? ⟨gb403, 2, none⟩ = some (.slice A0_2 l0_2.length c0_2)) ∧ (Kd.R (Kd.int .i64) 3 w' w.heap.size (fun k_ => some k_ ≠ (s_.2.2 : Value).ownBlock) s_.2.1 y408) ∧ (Kd.R (Kd.int .i64) 3 w' w.heap.size (fun k_ => some k_ ≠ (s_.2.1 : Value).ownBlock) s_.2.2 y411) ∧ (w'.heap[gb403]? = some (.cells #[.slice A0_0 l0_0.length c0_0, .slice A0_1 l0_1.length c0_1, .slice A0_2 l0_2.length c0_2] 26 (0, 0))) ∧ (w'.heap[gb404]? = some (.cells #[.slice none 0 0, .slice none 0 0, .slice none 0 0] 26 (0, 0))) ∧ (Below w.heap.size w w')) ?_ ?_
       rotate_left
       · intro hJ0_3_4
         refine join_ (σ := Value × Value × Value) 5 bx3 (fun s_ => [(3, s_.1), (6, s_.2.1), (11, s_.2.2)]) (fun s_ w' => (w'.cell? ⟨gb403, 0, none⟩ = some (.slice A0_0 l0_0.length c0_0) ∧ w'.cell? ⟨gb403, 1, none⟩ = some (.slice A0_1 l0_1.length c0_1) ∧ w'.cell? ⟨gb403, 2, none⟩ = some (.slice A0_2 l0_2.length c0_2)) ∧ (Kd.R (Kd.int .i64) 3 w' w.heap.size (fun k_ => some k_ ≠ (s_.2.2 : Value).ownBlock) s_.2.1 y408) ∧ (Kd.R (Kd.int .i64) 3 w' w.heap.size (fun k_ => some k_ ≠ (s_.2.1 : Value).ownBlock) s_.2.2 y417) ∧ (w'.heap[gb403]? = some (.cells #[.slice A0_0 l0_0.length c0_0, .slice A0_1 l0_1.length c0_1, .slice A0_2 l0_2.length c0_2] 26 (0, 0))) ∧ (w'.heap[gb404]? = some (.cells #[.slice none 0 0, .slice none 0 0, .slice none 0 0] 26 (0, 0))) ∧ (Below w.heap.size w w')) ?_ ?_
         rotate_left
         · intro hJ0_3_8
           refine join_ (σ := Value × Value × Value) 5 bx4 (fun s_ => [(3, s_.1), (7, s_.2.1), (11, s_.2.2)]) (fun s_ w' => (w'.cell? ⟨gb403, 0, none⟩ = some (.slice A0_0 l0_0.length c0_0) ∧ w'.cell? ⟨gb403, 1, none⟩ = some (.slice A0_1 l0_1.length c0_1) ∧ w'.cell? ⟨gb403, 2, none⟩ = some (.slice A0_2 l0_2.length c0_2)) ∧ (Kd.R (Kd.int .i64) 3 w' w.heap.size (fun k_ => some k_ ≠ (s_.2.1 : Value).ownBlock ∧ some k_ ≠ (s_.2.2 : Value).ownBlock) s_.1 y405) ∧ (Kd.R (Kd.int .i64) 3 w' w.heap.size (fun k_ => some k_ ≠ (s_.1 : Value).ownBlock ∧ some k_ ≠ (s_.2.2 : Value).ownBlock) s_.2.1 y411) ∧ (Kd.R (Kd.int .i64) 3 w' w.heap.size (fun k_ => some k_ ≠ (s_.1 : Value).ownBlock ∧ some k_ ≠ (s_.2.1 : Value).ownBlock) s_.2.2 y417) ∧ (w'.heap[gb403]? = some (.cells #[.slice A0_0 l0_0.length c0_0, .slice A0_1 l0_1.length c0_1, .slice A0_2 l0_2.length c0_2] 26 (0, 0))) ∧ (w'.heap[gb404]? = some (.cells #[.slice none 0 0, .slice none 0 0, .slice none 0 0] 26 (0, 0))) ∧ (Below w.heap.size w w')) ?_ ?_
           rotate_left
           · intro hJ0_4_8
             refine join_ (σ := Value × Value) 6 #[true, true, true, true, false, true, true, false, false, true, true, false, false, false] (fun s_ => [(3, s_.1), (6, s_.2)]) (fun s_ w' => (w'.cell? ⟨gb403, 0, none⟩ = some (.slice A0_0 l0_0.length c0_0) ∧ w'.cell? ⟨gb403, 1, none⟩ = some (.slice A0_1 l0_1.length c0_1) ∧ w'.cell? ⟨gb403, 2, none⟩ = some (.slice A0_2 l0_2.length c0_2)) ∧ (Kd.R (Kd.int .i64) 3 w' w.heap.size (fun _ => True) s_.2 y408) ∧ (w'.heap[gb403]? = some (.cells #[.slice A0_0 l0_0.length c0_0, .slice A0_1 l0_1.length c0_1, .slice A0_2 l0_2.length c0_2] 26 (0, 0))) ∧ (w'.heap[gb404]? = some (.cells #[.slice none 0 0, .slice none 0 0, .slice none 0 0] 26 (0, 0))) ∧ (Below w.heap.size w w')) ?_ ?_
             rotate_left
             · intro hJ0_3
               refine join_ (σ := Value × Value) 6 bx5 (fun s_ => [(3, s_.1), (7, s_.2)]) (fun s_ w' => (w'.cell? ⟨gb403, 0, none⟩ = some (.slice A0_0 l0_0.length c0_0) ∧ w'.cell? ⟨gb403, 1, none⟩ = some (.slice A0_1 l0_1.length c0_1) ∧ w'.cell? ⟨gb403, 2, none⟩ = some (.slice A0_2 l0_2.length c0_2)) ∧ (Kd.R (Kd.int .i64) 3 w' w.heap.size (fun k_ => some k_ ≠ (s_.2 : Value).ownBlock) s_.1 y405) ∧ (Kd.R (Kd.int .i64) 3 w' w.heap.size (fun k_ => some k_ ≠ (s_.1 : Value).ownBlock) s_.2 y411) ∧ (w'.heap[gb403]? = some (.cells #[.slice A0_0 l0_0.length c0_0, .slice A0_1 l0_1.length c0_1, .slice A0_2 l0_2.length c0_2] 26 (0, 0))) ∧ (w'.heap[gb404]? = some (.cells #[.slice none 0 0, .slice none 0 0, .slice none 0 0] 26 (0, 0))) ∧ (Below w.heap.size w w')) ?_ ?_
               rotate_left
               · intro hJ0_4
                 refine join_ (σ := Value × Value) 6 bx6 (fun s_ => [(3, s_.1), (11, s_.2)]) (fun s_ w' => (w'.cell? ⟨gb403, 0, none⟩ = some (.slice A0_0 l0_0.length c0_0) ∧ w'.cell? ⟨gb403, 1, none⟩ = some (.slice A0_1 l0_1.length c0_1) ∧ w'.cell? ⟨gb403, 2, none⟩ = some (.slice A0_2 l0_2.length c0_2)) ∧ (Kd.R (Kd.int .i64) 3 w' w.heap.size (fun k_ => some k_ ≠ (s_.2 : Value).ownBlock) s_.1 y405) ∧ (Kd.R (Kd.int .i64) 3 w' w.heap.size (fun k_ => some k_ ≠ (s_.1 : Value).ownBlock) s_.2 y417) ∧ (w'.heap[gb403]? = some (.cells #[.slice A0_0 l0_0.length c0_0, .slice A0_1 l0_1.length c0_1, .slice A0_2 l0_2.length c0_2] 26 (0, 0))) ∧ (w'.heap[gb404]? = some (.cells #[.slice none 0 0, .slice none 0 0, .slice none 0 0] 26 (0, 0))) ∧ (Below w.heap.size w w')) ?_ ?_
                 rotate_left
                 · intro hJ0_8
                   refine join_ (σ := Value × Value) 6 bx7 (fun s_ => [(7, s_.1), (11, s_.2)]) (fun s_ w' => (w'.cell? ⟨gb403, 0, none⟩ = some (.slice A0_0 l0_0.length c0_0) ∧ w'.cell? ⟨gb403, 1, none⟩ = some (.slice A0_1 l0_1.length c0_1) ∧ w'.cell? ⟨gb403, 2, none⟩ = some (.slice A0_2 l0_2.length c0_2)) ∧ (Kd.R (Kd.int .i64) 3 w' w.heap.size (fun k_ => some k_ ≠ (s_.2 : Value).ownBlock) s_.1 y411) ∧ (Kd.R (Kd.int .i64) 3 w' w.heap.size (fun k_ => some k_ ≠ (s_.1 : Value).ownBlock) s_.2 y417) ∧ (w'.heap[gb403]? = some (.cells #[.slice A0_0 l0_0.length c0_0, .slice A0_1 l0_1.length c0_1, .slice A0_2 l0_2.length c0_2] 26 (0, 0))) ∧ (w'.heap[gb404]? = some (.cells #[.slice none 0 0, .slice none 0 0, .slice none 0 0] 26 (0, 0))) ∧ (Below w.heap.size w w')) ?_ ?_
                   rotate_left
                   · intro hJ4_8
                     refine join_ (σ := Value) 7 #[true, true, true, false, false, true, true, false, false, true, true, false, false, false] (fun s_ => [(3, s_)]) (fun s_ w' => (w'.cell? ⟨gb403, 0, none⟩ = some (.slice A0_0 l0_0.length c0_0) ∧ w'.cell? ⟨gb403, 1, none⟩ = some (.slice A0_1 l0_1.length c0_1) ∧ w'.cell? ⟨gb403, 2, none⟩ = some (.slice A0_2 l0_2.length c0_2)) ∧ (Kd.R (Kd.int .i64) 3 w' w.heap.size (fun _ => True) s_ y405) ∧ (w'.heap[gb403]? = some (.cells #[.slice A0_0 l0_0.length c0_0, .slice A0_1 l0_1.length c0_1, .slice A0_2 l0_2.length c0_2] 26 (0, 0))) ∧ (w'.heap[gb404]? = some (.cells #[.slice none 0 0, .slice none 0 0, .slice none 0 0] 26 (0, 0))) ∧ (Below w.heap.size w w')) ?_ ?_
                     rotate_left
                     · intro hJ0
                       refine join_ (σ := Value) 7 #[false, true, true, false, true, true, true, false, false, true, true, false, false, false] (fun s_ => [(7, s_)]) (fun s_ w' => (w'.cell? ⟨gb403, 0, none⟩ = some (.slice A0_0 l0_0.length c0_0) ∧ w'.cell? ⟨gb403, 1, none⟩ = some (.slice A0_1 l0_1.length c0_1) ∧ w'.cell? ⟨gb403, 2, none⟩ = some (.slice A0_2 l0_2.length c0_2)) ∧ (Kd.R (Kd.int .i64) 3 w' w.heap.size (fun _ => True) s_ y411) ∧ (w'.heap[gb403]? = some (.cells #[.slice A0_0 l0_0.length c0_0, .slice A0_1 l0_1.length c0_1, .slice A0_2 l0_2.length c0_2] 26 (0, 0))) ∧ (w'.heap[gb404]? = some (.cells #[.slice none 0 0, .slice none 0 0, .slice none 0 0] 26 (0, 0))) ∧ (Below w.heap.size w w')) ?_ ?_
                       rotate_left
                       · intro hJ4
                         refine join_ (σ := Value) 7 #[false, true, true, false, false, true, true, false, true, true, true, false, false, false] (fun s_ => [(11, s_)]) (fun s_ w' => (w'.cell? ⟨gb403, 0, none⟩ = some (.slice A0_0 l0_0.length c0_0) ∧ w'.cell? ⟨gb403, 1, none⟩ = some (.slice A0_1 l0_1.length c0_1) ∧ w'.cell? ⟨gb403, 2, none⟩ = some (.slice A0_2 l0_2.length c0_2)) ∧ (Kd.R (Kd.int .i64) 3 w' w.heap.size (fun _ => True) s_ y417) ∧ (w'.heap[gb403]? = some (.cells #[.slice A0_0 l0_0.length c0_0, .slice A0_1 l0_1.length c0_1, .slice A0_2 l0_2.length c0_2] 26 (0, 0))) ∧ (w'.heap[gb404]? = some (.cells #[.slice none 0 0, .slice none 0 0, .slice none 0 0] 26 (0, 0))) ∧ (Below w.heap.size w w')) ?_ ?_
                         rotate_left
                         · intro hJ8
                           refine three_ (i := 0) (j := 4) (k := 8) (Ni := some 3) (Nj := some 7) (Nk := some 11) #[true, true, true, false, false, true, true, false, false, true, true, false, false, false] #[false, true, true, false, true, true, true, false, false, true, true, false, false, false] #[false, true, true, false, false, true, true, false, true, true, true, false, false, false] rfl rfl rfl rfl rfl rfl (three_of HT_.out kr) (by decide) (by decide) (by decide) (fun K hK => ?_) (fun K hK => ?_) (fun K hK => ?_)
                           · skip
                             refine Kd.R_lit_step (Kd.int .i64) _ 3 ?hg (N := 3) ?hd (xs := ([] : List Int)) (inner := []) (ok := fun _ => True) (okp := fun _ => True) ?hr ?hp (fun _ hk => hk) trivial (Below.refl _ _) (Nat.le_refl _) (by simp) ?_; (case hd => rfl); (case hg => rfl); (case hr => first | (go_simp; done) | (go_simp; rfl)); (case hp => exact (Reps.none _ _))
                             intro v406 w8 ho9 hb hg_ hnew_
                             clear hg_ hnew_
                             (first | rw [← Ny405.out] at ho9 | (simp only [Int.reduceToNat] at ho9; rw [← Ny405.out] at ho9))
                             have HO407 := am (Kd.R_lower ho9 (below_size Q6))
                             replace BK403 := am (bb_ BK403.out u10_1 hb)
                             replace BK404 := am (bb_ BK404.out u10_2 hb)
                             replace HB := am (below_step Q6 hb)
                             clear hb ho9
                             refine hK.out _ _ ⟨(blk_cell BK403.out 0).trans rfl, (blk_cell BK403.out 1).trans rfl, (blk_cell BK403.out 2).trans rfl⟩ (fun hHeld => ?_)
                             clear hK K
                             refine norm_ (a' := ?_) ?_ ?_
                             rotate_left
                             · show Act.put _ (some 3) _ = _
                               simp only [Act.put, la, lb, lc, i64_w, i32_w]
                               rfl
                             exact norm_ u10_3 (hJ0 (v406) _ ⟨hHeld, u10_7, u10_1, u10_2, Q6⟩)
                           · skip
                             refine Kd.R_lit_step (Kd.int .i64) _ 3 ?hg (N := 7) ?hd (xs := ([] : List Int)) (inner := []) (ok := fun _ => True) (okp := fun _ => True) ?hr ?hp (fun _ hk => hk) trivial (Below.refl _ _) (Nat.le_refl _) (by simp) ?_; (case hd => rfl); (case hg => rfl); (case hr => first | (go_simp; done) | (go_simp; rfl)); (case hp => exact (Reps.none _ _))
                             intro v412 w8 ho9 hb hg_ hnew_
                             clear hg_ hnew_
                             (first | rw [← Ny411.out] at ho9 | (simp only [Int.reduceToNat] at ho9; rw [← Ny411.out] at ho9))
                             have HO413 := am (Kd.R_lower ho9 (below_size Q6))
                             replace BK403 := am (bb_ BK403.out u10_1 hb)
                             replace BK404 := am (bb_ BK404.out u10_2 hb)
                             replace HB := am (below_step Q6 hb)
                             clear hb ho9
                             refine hK.out _ _ ⟨(blk_cell BK403.out 0).trans rfl, (blk_cell BK403.out 1).trans rfl, (blk_cell BK403.out 2).trans rfl⟩ (fun hHeld => ?_)
                             clear hK K
                             refine norm_ (a' := ?_) ?_ ?_
                             rotate_left
                             · show Act.put _ (some 7) _ = _
                               simp only [Act.put, la, lb, lc, i64_w, i32_w]
                               rfl
                             exact norm_ u10_3 (hJ4 (v412) _ ⟨hHeld, u10_6, u10_1, u10_2, Q6⟩)
                           skip
                           refine Kd.R_lit_step (Kd.int .i64) _ 3 ?hg (N := 11) ?hd (xs := ([] : List Int)) (inner := []) (ok := fun _ => True) (okp := fun _ => True) ?hr ?hp (fun _ hk => hk) trivial (Below.refl _ _) (Nat.le_refl _) (by simp) ?_; (case hd => rfl); (case hg => rfl); (case hr => first | (go_simp; done) | (go_simp; rfl)); (case hp => exact (Reps.none _ _))
                           intro v418 w8 ho9 hb hg_ hnew_
                           clear hg_ hnew_
                           (first | rw [← Ny417.out] at ho9 | (simp only [Int.reduceToNat] at ho9; rw [← Ny417.out] at ho9))
                           have HO419 := am (Kd.R_lower ho9 (below_size Q6))
                           replace BK403 := am (bb_ BK403.out u10_1 hb)
                           replace BK404 := am (bb_ BK404.out u10_2 hb)
                           replace HB := am (below_step Q6 hb)
                           clear hb ho9
                           refine hK.out _ _ ⟨(blk_cell BK403.out 0).trans rfl, (blk_cell BK403.out 1).trans rfl, (blk_cell BK403.out 2).trans rfl⟩ (fun hHeld => ?_)
                           clear hK K
                           refine norm_ (a' := ?_) ?_ ?_
                           rotate_left
                           · show Act.put _ (some 11) _ = _
                             simp only [Act.put, la, lb, lc, i64_w, i32_w]
                             rfl
                           exact norm_ u10_3 (hJ8 (v418) _ ⟨hHeld, u10_5, u10_1, u10_2, Q6⟩)
                         skip
                         rintro v418 w10 ⟨hS_, h0_, h1_, h2_, h3_⟩
                         have n0_ : Aside0 (Kd.R (Kd.int .i64) 3 w10 w.heap.size (fun _ => True) v418 y417) := ⟨h0_⟩
                         have n1_ : Aside0 (w10.heap[gb403]? = some (.cells #[.slice A0_0 l0_0.length c0_0, .slice A0_1 l0_1.length c0_1, .slice A0_2 l0_2.length c0_2] 26 (0, 0))) := ⟨h1_⟩
                         have n2_ : Aside0 (w10.heap[gb404]? = some (.cells #[.slice none 0 0, .slice none 0 0, .slice none 0 0] 26 (0, 0))) := ⟨h2_⟩
                         have n3_ : Aside0 (Below w.heap.size w w10) := ⟨h3_⟩
                         clear BK403
                         clear BK404
                         clear HB
                         clear h0_ h1_ h2_ h3_
                         have HO419 := n0_
                         have BK403 := n1_
                         have BK404 := n2_
                         have HB := n3_
                         clear n0_ n1_ n2_ n3_
                         have hHeld : w10.cell? ⟨gb403, 0, none⟩ = some (.slice A0_0 l0_0.length c0_0) ∧ w10.cell? ⟨gb403, 1, none⟩ = some (.slice A0_1 l0_1.length c0_1) ∧ w10.cell? ⟨gb403, 2, none⟩ = some (.slice A0_2 l0_2.length c0_2) := hS_
                         refine norm_ (a' := ?_) ?_ ?_
                         rotate_left
                         · simp only [putAll, Act.put, la, lb, lc]
                           rfl
                         refine two_ (i := 0) (j := 4) (Ni := some 3) (Nj := some 7) bx6 bx7 rfl rfl rfl rfl (two_of HT_.out kr) (by decide) (by decide) (fun K hK => ?_) (fun K hK => ?_)
                         · skip
                           refine Kd.R_lit_step (Kd.int .i64) _ 3 ?hg (N := 3) ?hd (xs := ([] : List Int)) (inner := []) (ok := fun _ => True) (okp := fun _ => True) ?hr ?hp (fun _ hk => hk) trivial (Below.refl _ _) (Nat.le_refl _) (by simp) ?_; (case hd => rfl); (case hg => rfl); (case hr => first | (go_simp; done) | (go_simp; rfl)); (case hp => exact (Reps.none _ _))
                           intro v406 w11 ho12 hb hg_ hnew_
                           clear hg_ hnew_
                           (first | rw [← Ny405.out] at ho12 | (simp only [Int.reduceToNat] at ho12; rw [← Ny405.out] at ho12))
                           have HO407 := am (Kd.R_lower (Kd.R_new' ho12 (Kd.R_lt u10_5)) (below_size Q6))
                           replace HO419 := am (Kd.R_elder' u10_5 (Kd.R_base ho12) hb)
                           replace BK403 := am (bb_ BK403.out u10_1 hb)
                           replace BK404 := am (bb_ BK404.out u10_2 hb)
                           replace HB := am (below_step Q6 hb)
                           clear hb ho12
                           refine hK.out _ _ ⟨(blk_cell BK403.out 0).trans rfl, (blk_cell BK403.out 1).trans rfl, (blk_cell BK403.out 2).trans rfl⟩ (fun hHeld => ?_)
                           clear hK K
                           refine norm_ (a' := ?_) ?_ ?_
                           rotate_left
                           · show Act.put _ (some 3) _ = _
                             simp only [Act.put, la, lb, lc, i64_w, i32_w]
                             rfl
                           exact norm_ u10_3 (hJ0_8 (v406, v418) _ ⟨hHeld, u10_11, u10_8, u10_1, u10_2, Q6⟩)
                         skip
                         refine Kd.R_lit_step (Kd.int .i64) _ 3 ?hg (N := 7) ?hd (xs := ([] : List Int)) (inner := []) (ok := fun _ => True) (okp := fun _ => True) ?hr ?hp (fun _ hk => hk) trivial (Below.refl _ _) (Nat.le_refl _) (by simp) ?_; (case hd => rfl); (case hg => rfl); (case hr => first | (go_simp; done) | (go_simp; rfl)); (case hp => exact (Reps.none _ _))
                         intro v412 w11 ho12 hb hg_ hnew_
                         clear hg_ hnew_
                         (first | rw [← Ny411.out] at ho12 | (simp only [Int.reduceToNat] at ho12; rw [← Ny411.out] at ho12))
                         have HO413 := am (Kd.R_lower (Kd.R_new' ho12 (Kd.R_lt u10_5)) (below_size Q6))
                         replace HO419 := am (Kd.R_elder' u10_5 (Kd.R_base ho12) hb)
                         replace BK403 := am (bb_ BK403.out u10_1 hb)
                         replace BK404 := am (bb_ BK404.out u10_2 hb)
                         replace HB := am (below_step Q6 hb)
                         clear hb ho12
                         refine hK.out _ _ ⟨(blk_cell BK403.out 0).trans rfl, (blk_cell BK403.out 1).trans rfl, (blk_cell BK403.out 2).trans rfl⟩ (fun hHeld => ?_)
                         clear hK K
                         refine norm_ (a' := ?_) ?_ ?_
                         rotate_left
                         · show Act.put _ (some 7) _ = _
                           simp only [Act.put, la, lb, lc, i64_w, i32_w]
                           rfl
                         exact norm_ u10_3 (hJ4_8 (v412, v418) _ ⟨hHeld, u10_9, u10_8, u10_1, u10_2, Q6⟩)
                       skip
                       rintro v412 w10 ⟨hS_, h0_, h1_, h2_, h3_⟩
                       have n0_ : Aside0 (Kd.R (Kd.int .i64) 3 w10 w.heap.size (fun _ => True) v412 y411) := ⟨h0_⟩
                       have n1_ : Aside0 (w10.heap[gb403]? = some (.cells #[.slice A0_0 l0_0.length c0_0, .slice A0_1 l0_1.length c0_1, .slice A0_2 l0_2.length c0_2] 26 (0, 0))) := ⟨h1_⟩
                       have n2_ : Aside0 (w10.heap[gb404]? = some (.cells #[.slice none 0 0, .slice none 0 0, .slice none 0 0] 26 (0, 0))) := ⟨h2_⟩
                       have n3_ : Aside0 (Below w.heap.size w w10) := ⟨h3_⟩
                       clear BK403
                       clear BK404
                       clear HB
                       clear h0_ h1_ h2_ h3_
                       have HO413 := n0_
                       have BK403 := n1_
                       have BK404 := n2_
                       have HB := n3_
                       clear n0_ n1_ n2_ n3_
                       have hHeld : w10.cell? ⟨gb403, 0, none⟩ = some (.slice A0_0 l0_0.length c0_0) ∧ w10.cell? ⟨gb403, 1, none⟩ = some (.slice A0_1 l0_1.length c0_1) ∧ w10.cell? ⟨gb403, 2, none⟩ = some (.slice A0_2 l0_2.length c0_2) := hS_
                       refine norm_ (a' := ?_) ?_ ?_
                       rotate_left
                       · simp only [putAll, Act.put, la, lb, lc]
                         rfl
                       refine two_ (i := 0) (j := 8) (Ni := some 3) (Nj := some 11) bx5 bx7 rfl rfl rfl rfl (two_of HT_.out kr) (by decide) (by decide) (fun K hK => ?_) (fun K hK => ?_)
                       · skip
                         refine Kd.R_lit_step (Kd.int .i64) _ 3 ?hg (N := 3) ?hd (xs := ([] : List Int)) (inner := []) (ok := fun _ => True) (okp := fun _ => True) ?hr ?hp (fun _ hk => hk) trivial (Below.refl _ _) (Nat.le_refl _) (by simp) ?_; (case hd => rfl); (case hg => rfl); (case hr => first | (go_simp; done) | (go_simp; rfl)); (case hp => exact (Reps.none _ _))
                         intro v406 w11 ho12 hb hg_ hnew_
                         clear hg_ hnew_
                         (first | rw [← Ny405.out] at ho12 | (simp only [Int.reduceToNat] at ho12; rw [← Ny405.out] at ho12))
                         have HO407 := am (Kd.R_lower (Kd.R_new' ho12 (Kd.R_lt u10_6)) (below_size Q6))
                         replace HO413 := am (Kd.R_elder' u10_6 (Kd.R_base ho12) hb)
                         replace BK403 := am (bb_ BK403.out u10_1 hb)
                         replace BK404 := am (bb_ BK404.out u10_2 hb)
                         replace HB := am (below_step Q6 hb)
                         clear hb ho12
                         refine hK.out _ _ ⟨(blk_cell BK403.out 0).trans rfl, (blk_cell BK403.out 1).trans rfl, (blk_cell BK403.out 2).trans rfl⟩ (fun hHeld => ?_)
                         clear hK K
                         refine norm_ (a' := ?_) ?_ ?_
                         rotate_left
                         · show Act.put _ (some 3) _ = _
                           simp only [Act.put, la, lb, lc, i64_w, i32_w]
                           rfl
                         exact norm_ u10_3 (hJ0_4 (v406, v412) _ ⟨hHeld, u10_11, u10_9, u10_1, u10_2, Q6⟩)
                       skip
                       refine Kd.R_lit_step (Kd.int .i64) _ 3 ?hg (N := 11) ?hd (xs := ([] : List Int)) (inner := []) (ok := fun _ => True) (okp := fun _ => True) ?hr ?hp (fun _ hk => hk) trivial (Below.refl _ _) (Nat.le_refl _) (by simp) ?_; (case hd => rfl); (case hg => rfl); (case hr => first | (go_simp; done) | (go_simp; rfl)); (case hp => exact (Reps.none _ _))
                       intro v418 w11 ho12 hb hg_ hnew_
                       clear hg_ hnew_
                       (first | rw [← Ny417.out] at ho12 | (simp only [Int.reduceToNat] at ho12; rw [← Ny417.out] at ho12))
                       have HO419 := am (Kd.R_lower (Kd.R_new' ho12 (Kd.R_lt u10_6)) (below_size Q6))
                       replace HO413 := am (Kd.R_elder' u10_6 (Kd.R_base ho12) hb)
                       replace BK403 := am (bb_ BK403.out u10_1 hb)
                       replace BK404 := am (bb_ BK404.out u10_2 hb)
                       replace HB := am (below_step Q6 hb)
                       clear hb ho12
                       refine hK.out _ _ ⟨(blk_cell BK403.out 0).trans rfl, (blk_cell BK403.out 1).trans rfl, (blk_cell BK403.out 2).trans rfl⟩ (fun hHeld => ?_)
                       clear hK K
                       refine norm_ (a' := ?_) ?_ ?_
                       rotate_left
                       · show Act.put _ (some 11) _ = _
                         simp only [Act.put, la, lb, lc, i64_w, i32_w]
                         rfl
                       exact norm_ u10_3 (hJ4_8 (v412, v418) _ ⟨hHeld, u10_9, u10_8, u10_1, u10_2, Q6⟩)
                     skip
                     rintro v406 w10 ⟨hS_, h0_, h1_, h2_, h3_⟩
                     have n0_ : Aside0 (Kd.R (Kd.int .i64) 3 w10 w.heap.size (fun _ => True) v406 y405) := ⟨h0_⟩
                     have n1_ : Aside0 (w10.heap[gb403]? = some (.cells #[.slice A0_0 l0_0.length c0_0, .slice A0_1 l0_1.length c0_1, .slice A0_2 l0_2.length c0_2] 26 (0, 0))) := ⟨h1_⟩
                     have n2_ : Aside0 (w10.heap[gb404]? = some (.cells #[.slice none 0 0, .slice none 0 0, .slice none 0 0] 26 (0, 0))) := ⟨h2_⟩
                     have n3_ : Aside0 (Below w.heap.size w w10) := ⟨h3_⟩
                     clear BK403
                     clear BK404
                     clear HB
                     clear h0_ h1_ h2_ h3_
                     have HO407 := n0_
                     have BK403 := n1_
                     have BK404 := n2_
                     have HB := n3_
                     clear n0_ n1_ n2_ n3_
                     have hHeld : w10.cell? ⟨gb403, 0, none⟩ = some (.slice A0_0 l0_0.length c0_0) ∧ w10.cell? ⟨gb403, 1, none⟩ = some (.slice A0_1 l0_1.length c0_1) ∧ w10.cell? ⟨gb403, 2, none⟩ = some (.slice A0_2 l0_2.length c0_2) := hS_
                     refine norm_ (a' := ?_) ?_ ?_
                     rotate_left
                     · simp only [putAll, Act.put, la, lb, lc]
                       rfl
                     refine three_ (i := 3) (j := 4) (k := 8) (Ni := some 6) (Nj := some 7) (Nk := some 11) #[true, true, true, true, false, true, true, false, false, true, true, false, false, false] bx5 bx6 rfl rfl rfl rfl rfl rfl (three_of HT_.out kr) (by decide) (by decide) (by decide) (fun K hK => ?_) (fun K hK => ?_) (fun K hK => ?_)
                     · skip
                       refine Kd.R_append_rows_step (Kd.int .i64) (w0 := w) w.heap.size (by rfl) (.tmp 3) (.tmp 5) 24 3 (.int .i64 0) 8 rfl Try.underlying24 info3 rfl (by decide) (by omega) v406 y405 l0_0 _ _ _ (fun _ => True) (fun _ => False) rfl rfl ?aO ?aR (fun _ _ h => h) (fun _ h => h.elim) ?aF ?aB ?aS ?aL ?_
                       (case aR => repeat (first | exact (Kd.C_below HR0_0.out HB.out) | (with_reducible refine Kd.C_alloc ?_ _) | (with_reducible refine Kd.C_drewN ?_ _) | (with_reducible refine Kd.C_drew ?_)))
                       (case aB => exact Q6)
                       (case aF => exact (fun _ _ => trivial))
                       (case aO => exact u10_7)
                       (case aS => exact (below_size Q6))
                       (case aL => have := LMc2.out; omega)
                       intro v409 w11 ho hb hg hat
                       rw [← Ny408.out] at ho
                       replace BK403 := am (blk_grown (g := gb403) (o := .cells #[.slice A0_0 l0_0.length c0_0, .slice A0_1 l0_1.length c0_1, .slice A0_2 l0_2.length c0_2] 26 (0, 0)) u10_1 hg (Kd.R_ne HO407.out BK403.out (by decide)))
                       replace BK404 := am (blk_grown (g := gb404) (o := .cells #[.slice none 0 0, .slice none 0 0, .slice none 0 0] 26 (0, 0)) u10_2 hg (Kd.R_ne HO407.out BK404.out (by decide)))
                       replace HB := am (hb)
                       have HO410 := am (ho)
                       clear HO407
                       clear ho hb hg hat
                       refine hK.out _ _ ⟨(blk_cell BK403.out 0).trans rfl, (blk_cell BK403.out 1).trans rfl, (blk_cell BK403.out 2).trans rfl⟩ (fun hHeld => ?_)
                       clear hK K
                       refine norm_ (a' := ?_) ?_ ?_
                       rotate_left
                       · show Act.put _ (some 6) _ = _
                         simp only [Act.put, la, lb, lc, i64_w, i32_w]
                         rfl
                       exact norm_ u10_3 (hJ0_3 (v406, v409) _ ⟨hHeld, u10_4, u10_1, u10_2, Q6⟩)
                     · skip
                       refine Kd.R_lit_step (Kd.int .i64) _ 3 ?hg (N := 7) ?hd (xs := ([] : List Int)) (inner := []) (ok := fun _ => True) (okp := fun _ => True) ?hr ?hp (fun _ hk => hk) trivial (Below.refl _ _) (Nat.le_refl _) (by simp) ?_; (case hd => rfl); (case hg => rfl); (case hr => first | (go_simp; done) | (go_simp; rfl)); (case hp => exact (Reps.none _ _))
                       intro v412 w11 ho12 hb hg_ hnew_
                       clear hg_ hnew_
                       (first | rw [← Ny411.out] at ho12 | (simp only [Int.reduceToNat] at ho12; rw [← Ny411.out] at ho12))
                       have HO413 := am (Kd.R_lower (Kd.R_new' ho12 (Kd.R_lt u10_7)) (below_size Q6))
                       replace HO407 := am (Kd.R_elder' u10_7 (Kd.R_base ho12) hb)
                       replace BK403 := am (bb_ BK403.out u10_1 hb)
                       replace BK404 := am (bb_ BK404.out u10_2 hb)
                       replace HB := am (below_step Q6 hb)
                       clear hb ho12
                       refine hK.out _ _ ⟨(blk_cell BK403.out 0).trans rfl, (blk_cell BK403.out 1).trans rfl, (blk_cell BK403.out 2).trans rfl⟩ (fun hHeld => ?_)
                       clear hK K
                       refine norm_ (a' := ?_) ?_ ?_
                       rotate_left
                       · show Act.put _ (some 7) _ = _
                         simp only [Act.put, la, lb, lc, i64_w, i32_w]
                         rfl
                       exact norm_ u10_3 (hJ0_4 (v406, v412) _ ⟨hHeld, u10_11, u10_9, u10_1, u10_2, Q6⟩)
                     skip
                     refine Kd.R_lit_step (Kd.int .i64) _ 3 ?hg (N := 11) ?hd (xs := ([] : List Int)) (inner := []) (ok := fun _ => True) (okp := fun _ => True) ?hr ?hp (fun _ hk => hk) trivial (Below.refl _ _) (Nat.le_refl _) (by simp) ?_; (case hd => rfl); (case hg => rfl); (case hr => first | (go_simp; done) | (go_simp; rfl)); (case hp => exact (Reps.none _ _))
                     intro v418 w11 ho12 hb hg_ hnew_
                     clear hg_ hnew_
                     (first | rw [← Ny417.out] at ho12 | (simp only [Int.reduceToNat] at ho12; rw [← Ny417.out] at ho12))
                     have HO419 := am (Kd.R_lower (Kd.R_new' ho12 (Kd.R_lt u10_7)) (below_size Q6))
                     replace HO407 := am (Kd.R_elder' u10_7 (Kd.R_base ho12) hb)
                     replace BK403 := am (bb_ BK403.out u10_1 hb)
                     replace BK404 := am (bb_ BK404.out u10_2 hb)
                     replace HB := am (below_step Q6 hb)
                     clear hb ho12
                     refine hK.out _ _ ⟨(blk_cell BK403.out 0).trans rfl, (blk_cell BK403.out 1).trans rfl, (blk_cell BK403.out 2).trans rfl⟩ (fun hHeld => ?_)
                     clear hK K
                     refine norm_ (a' := ?_) ?_ ?_
                     rotate_left
                     · show Act.put _ (some 11) _ = _
                       simp only [Act.put, la, lb, lc, i64_w, i32_w]
                       rfl
                     exact norm_ u10_3 (hJ0_8 (v406, v418) _ ⟨hHeld, u10_11, u10_8, u10_1, u10_2, Q6⟩)
                   skip
                   rintro ⟨v412, v418⟩ w12 ⟨hS_, h0_, h1_, h2_, h3_, h4_⟩
                   have n0_ : Aside0 (Kd.R (Kd.int .i64) 3 w12 w.heap.size (fun k_ => some k_ ≠ (v418 : Value).ownBlock) v412 y411) := ⟨h0_⟩
                   have n1_ : Aside0 (Kd.R (Kd.int .i64) 3 w12 w.heap.size (fun k_ => some k_ ≠ (v412 : Value).ownBlock) v418 y417) := ⟨h1_⟩
                   have n2_ : Aside0 (w12.heap[gb403]? = some (.cells #[.slice A0_0 l0_0.length c0_0, .slice A0_1 l0_1.length c0_1, .slice A0_2 l0_2.length c0_2] 26 (0, 0))) := ⟨h2_⟩
                   have n3_ : Aside0 (w12.heap[gb404]? = some (.cells #[.slice none 0 0, .slice none 0 0, .slice none 0 0] 26 (0, 0))) := ⟨h3_⟩
                   have n4_ : Aside0 (Below w.heap.size w w12) := ⟨h4_⟩
                   clear BK403
                   clear BK404
                   clear HB
                   clear h0_ h1_ h2_ h3_ h4_
                   have HO413 := n0_
                   have HO419 := n1_
                   have BK403 := n2_
                   have BK404 := n3_
                   have HB := n4_
                   clear n0_ n1_ n2_ n3_ n4_
                   have hHeld : w12.cell? ⟨gb403, 0, none⟩ = some (.slice A0_0 l0_0.length c0_0) ∧ w12.cell? ⟨gb403, 1, none⟩ = some (.slice A0_1 l0_1.length c0_1) ∧ w12.cell? ⟨gb403, 2, none⟩ = some (.slice A0_2 l0_2.length c0_2) := hS_
                   refine norm_ (a' := ?_) ?_ ?_
                   rotate_left
                   · simp only [putAll, Act.put, la, lb, lc]
                     rfl
                   refine one_ (i := 0) (N := some 3) bx4 rfl rfl (one_of HT_.out kr) (by decide) (fun K hK => ?_)
                   refine Kd.R_lit_step (Kd.int .i64) _ 3 ?hg (N := 3) ?hd (xs := ([] : List Int)) (inner := []) (ok := fun _ => True) (okp := fun _ => True) ?hr ?hp (fun _ hk => hk) trivial (Below.refl _ _) (Nat.le_refl _) (by simp) ?_; (case hd => rfl); (case hg => rfl); (case hr => first | (go_simp; done) | (go_simp; rfl)); (case hp => exact (Reps.none _ _))
                   intro v406 w13 ho14 hb hg_ hnew_
                   clear hg_ hnew_
                   (first | rw [← Ny405.out] at ho14 | (simp only [Int.reduceToNat] at ho14; rw [← Ny405.out] at ho14))
                   have HO407 := am (Kd.R_lower (Kd.R_new' (Kd.R_new' ho14 (Kd.R_lt u10_6)) (Kd.R_lt u10_5)) (below_size Q6))
                   replace HO413 := am (Kd.R_elder' u10_6 (Kd.R_base ho14) hb)
                   replace HO419 := am (Kd.R_elder' u10_5 (Kd.R_base ho14) hb)
                   replace BK403 := am (bb_ BK403.out u10_1 hb)
                   replace BK404 := am (bb_ BK404.out u10_2 hb)
                   replace HB := am (below_step Q6 hb)
                   clear hb ho14
                   refine hK.out _ _ ⟨(blk_cell BK403.out 0).trans rfl, (blk_cell BK403.out 1).trans rfl, (blk_cell BK403.out 2).trans rfl⟩ (fun hHeld => ?_)
                   clear hK K
                   refine norm_ (a' := ?_) ?_ ?_
                   rotate_left
                   · show Act.put _ (some 3) _ = _
                     simp only [Act.put, la, lb, lc, i64_w, i32_w]
                     rfl
                   exact norm_ u10_3 (hJ0_4_8 (v406, v412, v418) _ ⟨hHeld, (by (with_reducible repeat (first | apply r1_ | apply r2_ | apply r3_)); exact Kd.R_mono HO407.out (fun _ hk => ⟨hk.1.2, hk.2⟩)), u10_14, u10_15, u10_1, u10_2, Q6⟩)
                 skip
                 rintro ⟨v406, v418⟩ w12 ⟨hS_, h0_, h1_, h2_, h3_, h4_⟩
                 have n0_ : Aside0 (Kd.R (Kd.int .i64) 3 w12 w.heap.size (fun k_ => some k_ ≠ (v418 : Value).ownBlock) v406 y405) := ⟨h0_⟩
                 have n1_ : Aside0 (Kd.R (Kd.int .i64) 3 w12 w.heap.size (fun k_ => some k_ ≠ (v406 : Value).ownBlock) v418 y417) := ⟨h1_⟩
                 have n2_ : Aside0 (w12.heap[gb403]? = some (.cells #[.slice A0_0 l0_0.length c0_0, .slice A0_1 l0_1.length c0_1, .slice A0_2 l0_2.length c0_2] 26 (0, 0))) := ⟨h2_⟩
                 have n3_ : Aside0 (w12.heap[gb404]? = some (.cells #[.slice none 0 0, .slice none 0 0, .slice none 0 0] 26 (0, 0))) := ⟨h3_⟩
                 have n4_ : Aside0 (Below w.heap.size w w12) := ⟨h4_⟩
                 clear BK403
                 clear BK404
                 clear HB
                 clear h0_ h1_ h2_ h3_ h4_
                 have HO407 := n0_
                 have HO419 := n1_
                 have BK403 := n2_
                 have BK404 := n3_
                 have HB := n4_
                 clear n0_ n1_ n2_ n3_ n4_
                 have hHeld : w12.cell? ⟨gb403, 0, none⟩ = some (.slice A0_0 l0_0.length c0_0) ∧ w12.cell? ⟨gb403, 1, none⟩ = some (.slice A0_1 l0_1.length c0_1) ∧ w12.cell? ⟨gb403, 2, none⟩ = some (.slice A0_2 l0_2.length c0_2) := hS_
                 refine norm_ (a' := ?_) ?_ ?_
                 rotate_left
                 · simp only [putAll, Act.put, la, lb, lc]
                   rfl
                 refine two_ (i := 3) (j := 4) (Ni := some 6) (Nj := some 7) bx3 bx4 rfl rfl rfl rfl (two_of HT_.out kr) (by decide) (by decide) (fun K hK => ?_) (fun K hK => ?_)
                 · skip
                   refine Kd.R_append_rows_step (Kd.int .i64) (w0 := w) w.heap.size (by rfl) (.tmp 3) (.tmp 5) 24 3 (.int .i64 0) 8 rfl Try.underlying24 info3 rfl (by decide) (by omega) v406 y405 l0_0 _ _ _ (fun k_ => some k_ ≠ (v418 : Value).ownBlock) (fun _ => False) rfl rfl ?aO ?aR (fun _ _ h => h) (fun _ h => h.elim) ?aF ?aB ?aS ?aL ?_
                   (case aR => repeat (first | exact (Kd.C_below HR0_0.out HB.out) | (with_reducible refine Kd.C_alloc ?_ _) | (with_reducible refine Kd.C_drewN ?_ _) | (with_reducible refine Kd.C_drew ?_)))
                   (case aB => exact Q6)
                   (case aF => exact (fun k_ hk => Kd.fresh' (Kd.R_lt u10_5) k_ hk))
                   (case aO => exact u10_7)
                   (case aS => exact (below_size Q6))
                   (case aL => have := LMc2.out; omega)
                   intro v409 w13 ho hb hg hat
                   rw [← Ny408.out] at ho
                   replace BK403 := am (blk_grown (g := gb403) (o := .cells #[.slice A0_0 l0_0.length c0_0, .slice A0_1 l0_1.length c0_1, .slice A0_2 l0_2.length c0_2] 26 (0, 0)) u10_1 hg (Kd.R_ne HO407.out BK403.out (by decide)))
                   replace BK404 := am (blk_grown (g := gb404) (o := .cells #[.slice none 0 0, .slice none 0 0, .slice none 0 0] 26 (0, 0)) u10_2 hg (Kd.R_ne HO407.out BK404.out (by decide)))
                   replace HO419 := am (Kd.R_after (ok := (fun _ => True)) (by (with_reducible repeat (first | apply r1_ | apply r2_ | apply r3_)); exact Kd.R_mono HO419.out (fun _ hk => ⟨trivial, hk⟩)) hg hat)
                   replace HB := am (hb)
                   have HO410 := am (ho)
                   clear HO407
                   clear ho hb hg hat
                   refine hK.out _ _ ⟨(blk_cell BK403.out 0).trans rfl, (blk_cell BK403.out 1).trans rfl, (blk_cell BK403.out 2).trans rfl⟩ (fun hHeld => ?_)
                   clear hK K
                   refine norm_ (a' := ?_) ?_ ?_
                   rotate_left
                   · show Act.put _ (some 6) _ = _
                     simp only [Act.put, la, lb, lc, i64_w, i32_w]
                     rfl
                   exact norm_ u10_3 (hJ0_3_8 (v406, v409, v418) _ ⟨hHeld, u10_4, u10_8, u10_1, u10_2, Q6⟩)
                 skip
                 refine Kd.R_lit_step (Kd.int .i64) _ 3 ?hg (N := 7) ?hd (xs := ([] : List Int)) (inner := []) (ok := fun _ => True) (okp := fun _ => True) ?hr ?hp (fun _ hk => hk) trivial (Below.refl _ _) (Nat.le_refl _) (by simp) ?_; (case hd => rfl); (case hg => rfl); (case hr => first | (go_simp; done) | (go_simp; rfl)); (case hp => exact (Reps.none _ _))
                 intro v412 w13 ho14 hb hg_ hnew_
                 clear hg_ hnew_
                 (first | rw [← Ny411.out] at ho14 | (simp only [Int.reduceToNat] at ho14; rw [← Ny411.out] at ho14))
                 have HO413 := am (Kd.R_lower (Kd.R_new' (Kd.R_new' ho14 (Kd.R_lt u10_7)) (Kd.R_lt u10_5)) (below_size Q6))
                 replace HO407 := am (Kd.R_elder' u10_7 (Kd.R_base ho14) hb)
                 replace HO419 := am (Kd.R_elder' u10_5 (Kd.R_base ho14) hb)
                 replace BK403 := am (bb_ BK403.out u10_1 hb)
                 replace BK404 := am (bb_ BK404.out u10_2 hb)
                 replace HB := am (below_step Q6 hb)
                 clear hb ho14
                 refine hK.out _ _ ⟨(blk_cell BK403.out 0).trans rfl, (blk_cell BK403.out 1).trans rfl, (blk_cell BK403.out 2).trans rfl⟩ (fun hHeld => ?_)
                 clear hK K
                 refine norm_ (a' := ?_) ?_ ?_
                 rotate_left
                 · show Act.put _ (some 7) _ = _
                   simp only [Act.put, la, lb, lc, i64_w, i32_w]
                   rfl
                 exact norm_ u10_3 (hJ0_4_8 (v406, v412, v418) _ ⟨hHeld, (by (with_reducible repeat (first | apply r1_ | apply r2_ | apply r3_)); exact Kd.R_mono HO407.out (fun _ hk => ⟨hk.2, hk.1⟩)), u10_19, u10_5, u10_1, u10_2, Q6⟩)
               skip
               rintro ⟨v406, v412⟩ w12 ⟨hS_, h0_, h1_, h2_, h3_, h4_⟩
               have n0_ : Aside0 (Kd.R (Kd.int .i64) 3 w12 w.heap.size (fun k_ => some k_ ≠ (v412 : Value).ownBlock) v406 y405) := ⟨h0_⟩
               have n1_ : Aside0 (Kd.R (Kd.int .i64) 3 w12 w.heap.size (fun k_ => some k_ ≠ (v406 : Value).ownBlock) v412 y411) := ⟨h1_⟩
               have n2_ : Aside0 (w12.heap[gb403]? = some (.cells #[.slice A0_0 l0_0.length c0_0, .slice A0_1 l0_1.length c0_1, .slice A0_2 l0_2.length c0_2] 26 (0, 0))) := ⟨h2_⟩
               have n3_ : Aside0 (w12.heap[gb404]? = some (.cells #[.slice none 0 0, .slice none 0 0, .slice none 0 0] 26 (0, 0))) := ⟨h3_⟩
               have n4_ : Aside0 (Below w.heap.size w w12) := ⟨h4_⟩
               clear BK403
               clear BK404
               clear HB
               clear h0_ h1_ h2_ h3_ h4_
               have HO407 := n0_
               have HO413 := n1_
               have BK403 := n2_
               have BK404 := n3_
               have HB := n4_
               clear n0_ n1_ n2_ n3_ n4_
               have hHeld : w12.cell? ⟨gb403, 0, none⟩ = some (.slice A0_0 l0_0.length c0_0) ∧ w12.cell? ⟨gb403, 1, none⟩ = some (.slice A0_1 l0_1.length c0_1) ∧ w12.cell? ⟨gb403, 2, none⟩ = some (.slice A0_2 l0_2.length c0_2) := hS_
               refine norm_ (a' := ?_) ?_ ?_
               rotate_left
               · simp only [putAll, Act.put, la, lb, lc]
                 rfl
               refine two_ (i := 3) (j := 8) (Ni := some 6) (Nj := some 11) bx2 bx4 rfl rfl rfl rfl (two_of HT_.out kr) (by decide) (by decide) (fun K hK => ?_) (fun K hK => ?_)
               · skip
                 refine Kd.R_append_rows_step (Kd.int .i64) (w0 := w) w.heap.size (by rfl) (.tmp 3) (.tmp 5) 24 3 (.int .i64 0) 8 rfl Try.underlying24 info3 rfl (by decide) (by omega) v406 y405 l0_0 _ _ _ (fun k_ => some k_ ≠ (v412 : Value).ownBlock) (fun _ => False) rfl rfl ?aO ?aR (fun _ _ h => h) (fun _ h => h.elim) ?aF ?aB ?aS ?aL ?_
                 (case aR => repeat (first | exact (Kd.C_below HR0_0.out HB.out) | (with_reducible refine Kd.C_alloc ?_ _) | (with_reducible refine Kd.C_drewN ?_ _) | (with_reducible refine Kd.C_drew ?_)))
                 (case aB => exact Q6)
                 (case aF => exact (fun k_ hk => Kd.fresh' (Kd.R_lt u10_6) k_ hk))
                 (case aO => exact u10_7)
                 (case aS => exact (below_size Q6))
                 (case aL => have := LMc2.out; omega)
                 intro v409 w13 ho hb hg hat
                 rw [← Ny408.out] at ho
                 replace BK403 := am (blk_grown (g := gb403) (o := .cells #[.slice A0_0 l0_0.length c0_0, .slice A0_1 l0_1.length c0_1, .slice A0_2 l0_2.length c0_2] 26 (0, 0)) u10_1 hg (Kd.R_ne HO407.out BK403.out (by decide)))
                 replace BK404 := am (blk_grown (g := gb404) (o := .cells #[.slice none 0 0, .slice none 0 0, .slice none 0 0] 26 (0, 0)) u10_2 hg (Kd.R_ne HO407.out BK404.out (by decide)))
                 replace HO413 := am (Kd.R_after (ok := (fun _ => True)) (by (with_reducible repeat (first | apply r1_ | apply r2_ | apply r3_)); exact Kd.R_mono HO413.out (fun _ hk => ⟨trivial, hk⟩)) hg hat)
                 replace HB := am (hb)
                 have HO410 := am (ho)
                 clear HO407
                 clear ho hb hg hat
                 refine hK.out _ _ ⟨(blk_cell BK403.out 0).trans rfl, (blk_cell BK403.out 1).trans rfl, (blk_cell BK403.out 2).trans rfl⟩ (fun hHeld => ?_)
                 clear hK K
                 refine norm_ (a' := ?_) ?_ ?_
                 rotate_left
                 · show Act.put _ (some 6) _ = _
                   simp only [Act.put, la, lb, lc, i64_w, i32_w]
                   rfl
                 exact norm_ u10_3 (hJ0_3_4 (v406, v409, v412) _ ⟨hHeld, u10_4, u10_9, u10_1, u10_2, Q6⟩)
               skip
               refine Kd.R_lit_step (Kd.int .i64) _ 3 ?hg (N := 11) ?hd (xs := ([] : List Int)) (inner := []) (ok := fun _ => True) (okp := fun _ => True) ?hr ?hp (fun _ hk => hk) trivial (Below.refl _ _) (Nat.le_refl _) (by simp) ?_; (case hd => rfl); (case hg => rfl); (case hr => first | (go_simp; done) | (go_simp; rfl)); (case hp => exact (Reps.none _ _))
               intro v418 w13 ho14 hb hg_ hnew_
               clear hg_ hnew_
               (first | rw [← Ny417.out] at ho14 | (simp only [Int.reduceToNat] at ho14; rw [← Ny417.out] at ho14))
               have HO419 := am (Kd.R_lower (Kd.R_new' (Kd.R_new' ho14 (Kd.R_lt u10_7)) (Kd.R_lt u10_6)) (below_size Q6))
               replace HO407 := am (Kd.R_elder' u10_7 (Kd.R_base ho14) hb)
               replace HO413 := am (Kd.R_elder' u10_6 (Kd.R_base ho14) hb)
               replace BK403 := am (bb_ BK403.out u10_1 hb)
               replace BK404 := am (bb_ BK404.out u10_2 hb)
               replace HB := am (below_step Q6 hb)
               clear hb ho14
               refine hK.out _ _ ⟨(blk_cell BK403.out 0).trans rfl, (blk_cell BK403.out 1).trans rfl, (blk_cell BK403.out 2).trans rfl⟩ (fun hHeld => ?_)
               clear hK K
               refine norm_ (a' := ?_) ?_ ?_
               rotate_left
               · show Act.put _ (some 11) _ = _
                 simp only [Act.put, la, lb, lc, i64_w, i32_w]
                 rfl
               exact norm_ u10_3 (hJ0_4_8 (v406, v412, v418) _ ⟨hHeld, u10_7, u10_6, u10_13, u10_1, u10_2, Q6⟩)
             skip
             rintro ⟨v406, v409⟩ w11 ⟨hS_, h0_, h1_, h2_, h3_⟩
             have n0_ : Aside0 (Kd.R (Kd.int .i64) 3 w11 w.heap.size (fun _ => True) v409 y408) := ⟨h0_⟩
             have n1_ : Aside0 (w11.heap[gb403]? = some (.cells #[.slice A0_0 l0_0.length c0_0, .slice A0_1 l0_1.length c0_1, .slice A0_2 l0_2.length c0_2] 26 (0, 0))) := ⟨h1_⟩
             have n2_ : Aside0 (w11.heap[gb404]? = some (.cells #[.slice none 0 0, .slice none 0 0, .slice none 0 0] 26 (0, 0))) := ⟨h2_⟩
             have n3_ : Aside0 (Below w.heap.size w w11) := ⟨h3_⟩
             clear BK403
             clear BK404
             clear HB
             clear h0_ h1_ h2_ h3_
             have HO410 := n0_
             have BK403 := n1_
             have BK404 := n2_
             have HB := n3_
             clear n0_ n1_ n2_ n3_
             have hHeld : w11.cell? ⟨gb403, 0, none⟩ = some (.slice A0_0 l0_0.length c0_0) ∧ w11.cell? ⟨gb403, 1, none⟩ = some (.slice A0_1 l0_1.length c0_1) ∧ w11.cell? ⟨gb403, 2, none⟩ = some (.slice A0_2 l0_2.length c0_2) := hS_
             refine norm_ (a' := ?_) ?_ ?_
             rotate_left
             · simp only [putAll, Act.put, la, lb, lc]
               rfl
             refine two_ (i := 4) (j := 8) (Ni := some 7) (Nj := some 11) bx2 bx3 rfl rfl rfl rfl (two_of HT_.out kr) (by decide) (by decide) (fun K hK => ?_) (fun K hK => ?_)
             · skip
               refine Kd.R_lit_step (Kd.int .i64) _ 3 ?hg (N := 7) ?hd (xs := ([] : List Int)) (inner := []) (ok := fun _ => True) (okp := fun _ => True) ?hr ?hp (fun _ hk => hk) trivial (Below.refl _ _) (Nat.le_refl _) (by simp) ?_; (case hd => rfl); (case hg => rfl); (case hr => first | (go_simp; done) | (go_simp; rfl)); (case hp => exact (Reps.none _ _))
               intro v412 w12 ho13 hb hg_ hnew_
               clear hg_ hnew_
               (first | rw [← Ny411.out] at ho13 | (simp only [Int.reduceToNat] at ho13; rw [← Ny411.out] at ho13))
               have HO413 := am (Kd.R_lower (Kd.R_new' ho13 (Kd.R_lt u10_4)) (below_size Q6))
               replace HO410 := am (Kd.R_elder' u10_4 (Kd.R_base ho13) hb)
               replace BK403 := am (bb_ BK403.out u10_1 hb)
               replace BK404 := am (bb_ BK404.out u10_2 hb)
               replace HB := am (below_step Q6 hb)
               clear hb ho13
               refine hK.out _ _ ⟨(blk_cell BK403.out 0).trans rfl, (blk_cell BK403.out 1).trans rfl, (blk_cell BK403.out 2).trans rfl⟩ (fun hHeld => ?_)
               clear hK K
               refine norm_ (a' := ?_) ?_ ?_
               rotate_left
               · show Act.put _ (some 7) _ = _
                 simp only [Act.put, la, lb, lc, i64_w, i32_w]
                 rfl
               exact norm_ u10_3 (hJ0_3_4 (v406, v409, v412) _ ⟨hHeld, u10_17, u10_9, u10_1, u10_2, Q6⟩)
             skip
             refine Kd.R_lit_step (Kd.int .i64) _ 3 ?hg (N := 11) ?hd (xs := ([] : List Int)) (inner := []) (ok := fun _ => True) (okp := fun _ => True) ?hr ?hp (fun _ hk => hk) trivial (Below.refl _ _) (Nat.le_refl _) (by simp) ?_; (case hd => rfl); (case hg => rfl); (case hr => first | (go_simp; done) | (go_simp; rfl)); (case hp => exact (Reps.none _ _))
             intro v418 w12 ho13 hb hg_ hnew_
             clear hg_ hnew_
             (first | rw [← Ny417.out] at ho13 | (simp only [Int.reduceToNat] at ho13; rw [← Ny417.out] at ho13))
             have HO419 := am (Kd.R_lower (Kd.R_new' ho13 (Kd.R_lt u10_4)) (below_size Q6))
             replace HO410 := am (Kd.R_elder' u10_4 (Kd.R_base ho13) hb)
             replace BK403 := am (bb_ BK403.out u10_1 hb)
             replace BK404 := am (bb_ BK404.out u10_2 hb)
             replace HB := am (below_step Q6 hb)
             clear hb ho13
             refine hK.out _ _ ⟨(blk_cell BK403.out 0).trans rfl, (blk_cell BK403.out 1).trans rfl, (blk_cell BK403.out 2).trans rfl⟩ (fun hHeld => ?_)
             clear hK K
             refine norm_ (a' := ?_) ?_ ?_
             rotate_left
             · show Act.put _ (some 11) _ = _
               simp only [Act.put, la, lb, lc, i64_w, i32_w]
               rfl
             exact norm_ u10_3 (hJ0_3_8 (v406, v409, v418) _ ⟨hHeld, u10_17, u10_8, u10_1, u10_2, Q6⟩)
           skip
           rintro ⟨v406, v412, v418⟩ w14 ⟨hS_, h0_, h1_, h2_, h3_, h4_, h5_⟩
           have n0_ : Aside0 (Kd.R (Kd.int .i64) 3 w14 w.heap.size (fun k_ => some k_ ≠ (v412 : Value).ownBlock ∧ some k_ ≠ (v418 : Value).ownBlock) v406 y405) := ⟨h0_⟩
           have n1_ : Aside0 (Kd.R (Kd.int .i64) 3 w14 w.heap.size (fun k_ => some k_ ≠ (v406 : Value).ownBlock ∧ some k_ ≠ (v418 : Value).ownBlock) v412 y411) := ⟨h1_⟩
           have n2_ : Aside0 (Kd.R (Kd.int .i64) 3 w14 w.heap.size (fun k_ => some k_ ≠ (v406 : Value).ownBlock ∧ some k_ ≠ (v412 : Value).ownBlock) v418 y417) := ⟨h2_⟩
           have n3_ : Aside0 (w14.heap[gb403]? = some (.cells #[.slice A0_0 l0_0.length c0_0, .slice A0_1 l0_1.length c0_1, .slice A0_2 l0_2.length c0_2] 26 (0, 0))) := ⟨h3_⟩
           have n4_ : Aside0 (w14.heap[gb404]? = some (.cells #[.slice none 0 0, .slice none 0 0, .slice none 0 0] 26 (0, 0))) := ⟨h4_⟩
           have n5_ : Aside0 (Below w.heap.size w w14) := ⟨h5_⟩
           clear BK403
           clear BK404
           clear HB
           clear h0_ h1_ h2_ h3_ h4_ h5_
           have HO407 := n0_
           have HO413 := n1_
           have HO419 := n2_
           have BK403 := n3_
           have BK404 := n4_
           have HB := n5_
           clear n0_ n1_ n2_ n3_ n4_ n5_
           have hHeld : w14.cell? ⟨gb403, 0, none⟩ = some (.slice A0_0 l0_0.length c0_0) ∧ w14.cell? ⟨gb403, 1, none⟩ = some (.slice A0_1 l0_1.length c0_1) ∧ w14.cell? ⟨gb403, 2, none⟩ = some (.slice A0_2 l0_2.length c0_2) := hS_
           refine norm_ (a' := ?_) ?_ ?_
           rotate_left
           · simp only [putAll, Act.put, la, lb, lc]
             rfl
           refine one_ (i := 3) (N := some 6) bx1 rfl rfl (one_of HT_.out kr) (by decide) (fun K hK => ?_)
           refine Kd.R_append_rows_step (Kd.int .i64) (w0 := w) w.heap.size (by rfl) (.tmp 3) (.tmp 5) 24 3 (.int .i64 0) 8 rfl Try.underlying24 info3 rfl (by decide) (by omega) v406 y405 l0_0 _ _ _ (fun k_ => some k_ ≠ (v412 : Value).ownBlock ∧ some k_ ≠ (v418 : Value).ownBlock) (fun _ => False) rfl rfl ?aO ?aR (fun _ _ h => h) (fun _ h => h.elim) ?aF ?aB ?aS ?aL ?_
           (case aR => repeat (first | exact (Kd.C_below HR0_0.out HB.out) | (with_reducible refine Kd.C_alloc ?_ _) | (with_reducible refine Kd.C_drewN ?_ _) | (with_reducible refine Kd.C_drew ?_)))
           (case aB => exact Q6)
           (case aF => exact (fun k_ hk => ⟨Kd.fresh' (Kd.R_lt u10_6) k_ hk, Kd.fresh' (Kd.R_lt u10_5) k_ hk⟩))
           (case aO => exact u10_7)
           (case aS => exact (below_size Q6))
           (case aL => have := LMc2.out; omega)
           intro v409 w15 ho hb hg hat
           rw [← Ny408.out] at ho
           replace BK403 := am (blk_grown (g := gb403) (o := .cells #[.slice A0_0 l0_0.length c0_0, .slice A0_1 l0_1.length c0_1, .slice A0_2 l0_2.length c0_2] 26 (0, 0)) u10_1 hg (Kd.R_ne HO407.out BK403.out (by decide)))
           replace BK404 := am (blk_grown (g := gb404) (o := .cells #[.slice none 0 0, .slice none 0 0, .slice none 0 0] 26 (0, 0)) u10_2 hg (Kd.R_ne HO407.out BK404.out (by decide)))
           replace HO413 := am (Kd.R_after (ok := (fun k_ => some k_ ≠ (v418 : Value).ownBlock)) u10_14 hg hat)
           replace HO419 := am (Kd.R_after (ok := (fun k_ => some k_ ≠ (v412 : Value).ownBlock)) u10_15 hg hat)
           replace HB := am (hb)
           have HO410 := am (ho)
           clear HO407
           clear ho hb hg hat
           refine hK.out _ _ ⟨(blk_cell BK403.out 0).trans rfl, (blk_cell BK403.out 1).trans rfl, (blk_cell BK403.out 2).trans rfl⟩ (fun hHeld => ?_)
           clear hK K
           refine norm_ (a' := ?_) ?_ ?_
           rotate_left
           · show Act.put _ (some 6) _ = _
             simp only [Act.put, la, lb, lc, i64_w, i32_w]
             rfl
           exact norm_ u10_3 (hJ0_3_4_8 (v406, v409, v412, v418) _ ⟨hHeld, u10_4, u10_14, u10_15, u10_1, u10_2, Q6⟩)
         skip
         rintro ⟨v406, v409, v418⟩ w13 ⟨hS_, h0_, h1_, h2_, h3_, h4_⟩
         have n0_ : Aside0 (Kd.R (Kd.int .i64) 3 w13 w.heap.size (fun k_ => some k_ ≠ (v418 : Value).ownBlock) v409 y408) := ⟨h0_⟩
         have n1_ : Aside0 (Kd.R (Kd.int .i64) 3 w13 w.heap.size (fun k_ => some k_ ≠ (v409 : Value).ownBlock) v418 y417) := ⟨h1_⟩
         have n2_ : Aside0 (w13.heap[gb403]? = some (.cells #[.slice A0_0 l0_0.length c0_0, .slice A0_1 l0_1.length c0_1, .slice A0_2 l0_2.length c0_2] 26 (0, 0))) := ⟨h2_⟩
         have n3_ : Aside0 (w13.heap[gb404]? = some (.cells #[.slice none 0 0, .slice none 0 0, .slice none 0 0] 26 (0, 0))) := ⟨h3_⟩
         have n4_ : Aside0 (Below w.heap.size w w13) := ⟨h4_⟩
         clear BK403
         clear BK404
         clear HB
         clear h0_ h1_ h2_ h3_ h4_
         have HO410 := n0_
         have HO419 := n1_
         have BK403 := n2_
         have BK404 := n3_
         have HB := n4_
         clear n0_ n1_ n2_ n3_ n4_
         have hHeld : w13.cell? ⟨gb403, 0, none⟩ = some (.slice A0_0 l0_0.length c0_0) ∧ w13.cell? ⟨gb403, 1, none⟩ = some (.slice A0_1 l0_1.length c0_1) ∧ w13.cell? ⟨gb403, 2, none⟩ = some (.slice A0_2 l0_2.length c0_2) := hS_
         refine norm_ (a' := ?_) ?_ ?_
         rotate_left
         · simp only [putAll, Act.put, la, lb, lc]
           rfl
         refine one_ (i := 4) (N := some 7) bx1 rfl rfl (one_of HT_.out kr) (by decide) (fun K hK => ?_)
         refine Kd.R_lit_step (Kd.int .i64) _ 3 ?hg (N := 7) ?hd (xs := ([] : List Int)) (inner := []) (ok := fun _ => True) (okp := fun _ => True) ?hr ?hp (fun _ hk => hk) trivial (Below.refl _ _) (Nat.le_refl _) (by simp) ?_; (case hd => rfl); (case hg => rfl); (case hr => first | (go_simp; done) | (go_simp; rfl)); (case hp => exact (Reps.none _ _))
         intro v412 w14 ho15 hb hg_ hnew_
         clear hg_ hnew_
         (first | rw [← Ny411.out] at ho15 | (simp only [Int.reduceToNat] at ho15; rw [← Ny411.out] at ho15))
         have HO413 := am (Kd.R_lower (Kd.R_new' (Kd.R_new' ho15 (Kd.R_lt u10_4)) (Kd.R_lt u10_5)) (below_size Q6))
         replace HO410 := am (Kd.R_elder' u10_4 (Kd.R_base ho15) hb)
         replace HO419 := am (Kd.R_elder' u10_5 (Kd.R_base ho15) hb)
         replace BK403 := am (bb_ BK403.out u10_1 hb)
         replace BK404 := am (bb_ BK404.out u10_2 hb)
         replace HB := am (below_step Q6 hb)
         clear hb ho15
         refine hK.out _ _ ⟨(blk_cell BK403.out 0).trans rfl, (blk_cell BK403.out 1).trans rfl, (blk_cell BK403.out 2).trans rfl⟩ (fun hHeld => ?_)
         clear hK K
         refine norm_ (a' := ?_) ?_ ?_
         rotate_left
         · show Act.put _ (some 7) _ = _
           simp only [Act.put, la, lb, lc, i64_w, i32_w]
           rfl
         exact norm_ u10_3 (hJ0_3_4_8 (v406, v409, v412, v418) _ ⟨hHeld, u10_16, u10_19, u10_5, u10_1, u10_2, Q6⟩)
       skip
       rintro ⟨v406, v409, v412⟩ w13 ⟨hS_, h0_, h1_, h2_, h3_, h4_⟩
       have n0_ : Aside0 (Kd.R (Kd.int .i64) 3 w13 w.heap.size (fun k_ => some k_ ≠ (v412 : Value).ownBlock) v409 y408) := ⟨h0_⟩
       have n1_ : Aside0 (Kd.R (Kd.int .i64) 3 w13 w.heap.size (fun k_ => some k_ ≠ (v409 : Value).ownBlock) v412 y411) := ⟨h1_⟩
       have n2_ : Aside0 (w13.heap[gb403]? = some (.cells #[.slice A0_0 l0_0.length c0_0, .slice A0_1 l0_1.length c0_1, .slice A0_2 l0_2.length c0_2] 26 (0, 0))) := ⟨h2_⟩
       have n3_ : Aside0 (w13.heap[gb404]? = some (.cells #[.slice none 0 0, .slice none 0 0, .slice none 0 0] 26 (0, 0))) := ⟨h3_⟩
       have n4_ : Aside0 (Below w.heap.size w w13) := ⟨h4_⟩
       clear BK403
       clear BK404
       clear HB
       clear h0_ h1_ h2_ h3_ h4_
       have HO410 := n0_
       have HO413 := n1_
       have BK403 := n2_
       have BK404 := n3_
       have HB := n4_
       clear n0_ n1_ n2_ n3_ n4_
       have hHeld : w13.cell? ⟨gb403, 0, none⟩ = some (.slice A0_0 l0_0.length c0_0) ∧ w13.cell? ⟨gb403, 1, none⟩ = some (.slice A0_1 l0_1.length c0_1) ∧ w13.cell? ⟨gb403, 2, none⟩ = some (.slice A0_2 l0_2.length c0_2) := hS_
       refine norm_ (a' := ?_) ?_ ?_
       rotate_left
       · simp only [putAll, Act.put, la, lb, lc]
         rfl
       refine two_ (i := 7) (j := 8) (Ni := some 10) (Nj := some 11) #[true, true, true, true, true, true, true, true, false, true, true, false, false, false] bx1 rfl rfl rfl rfl (two_of HT_.out kr) (by decide) (by decide) (fun K hK => ?_) (fun K hK => ?_)
       · skip
         refine Kd.R_append_rows_step (Kd.int .i64) (w0 := w) w.heap.size (by rfl) (.tmp 7) (.tmp 9) 24 3 (.int .i64 0) 8 rfl Try.underlying24 info3 rfl (by decide) (by omega) v412 y411 l0_1 _ _ _ (fun k_ => some k_ ≠ (v409 : Value).ownBlock) (fun _ => False) rfl rfl ?aO ?aR (fun _ _ h => h) (fun _ h => h.elim) ?aF ?aB ?aS ?aL ?_
         (case aR => repeat (first | exact (Kd.C_below HR0_1.out HB.out) | (with_reducible refine Kd.C_alloc ?_ _) | (with_reducible refine Kd.C_drewN ?_ _) | (with_reducible refine Kd.C_drew ?_)))
         (case aB => exact Q6)
         (case aF => exact (fun k_ hk => Kd.fresh' (Kd.R_lt u10_4) k_ hk))
         (case aO => exact u10_6)
         (case aS => exact (below_size Q6))
         (case aL => have := LMc3.out; omega)
         intro v415 w14 ho hb hg hat
         rw [← Ny414.out] at ho
         replace BK403 := am (blk_grown (g := gb403) (o := .cells #[.slice A0_0 l0_0.length c0_0, .slice A0_1 l0_1.length c0_1, .slice A0_2 l0_2.length c0_2] 26 (0, 0)) u10_1 hg (Kd.R_ne HO413.out BK403.out (by decide)))
         replace BK404 := am (blk_grown (g := gb404) (o := .cells #[.slice none 0 0, .slice none 0 0, .slice none 0 0] 26 (0, 0)) u10_2 hg (Kd.R_ne HO413.out BK404.out (by decide)))
         replace HO410 := am (Kd.R_after (ok := (fun _ => True)) (by (with_reducible repeat (first | apply r1_ | apply r2_ | apply r3_)); exact Kd.R_mono HO410.out (fun _ hk => ⟨trivial, hk⟩)) hg hat)
         replace HB := am (hb)
         have HO416 := am (ho)
         clear HO413
         clear ho hb hg hat
         refine hK.out _ _ ⟨(blk_cell BK403.out 0).trans rfl, (blk_cell BK403.out 1).trans rfl, (blk_cell BK403.out 2).trans rfl⟩ (fun hHeld => ?_)
         clear hK K
         refine norm_ (a' := ?_) ?_ ?_
         rotate_left
         · show Act.put _ (some 10) _ = _
           simp only [Act.put, la, lb, lc, i64_w, i32_w]
           rfl
         exact norm_ u10_3 (hJ0_3_4_7 (v406, v409, v412, v415) _ ⟨hHeld, u10_17, u10_10, u10_1, u10_2, Q6⟩)
       skip
       refine Kd.R_lit_step (Kd.int .i64) _ 3 ?hg (N := 11) ?hd (xs := ([] : List Int)) (inner := []) (ok := fun _ => True) (okp := fun _ => True) ?hr ?hp (fun _ hk => hk) trivial (Below.refl _ _) (Nat.le_refl _) (by simp) ?_; (case hd => rfl); (case hg => rfl); (case hr => first | (go_simp; done) | (go_simp; rfl)); (case hp => exact (Reps.none _ _))
       intro v418 w14 ho15 hb hg_ hnew_
       clear hg_ hnew_
       (first | rw [← Ny417.out] at ho15 | (simp only [Int.reduceToNat] at ho15; rw [← Ny417.out] at ho15))
       have HO419 := am (Kd.R_lower (Kd.R_new' (Kd.R_new' ho15 (Kd.R_lt u10_4)) (Kd.R_lt u10_6)) (below_size Q6))
       replace HO410 := am (Kd.R_elder' u10_4 (Kd.R_base ho15) hb)
       replace HO413 := am (Kd.R_elder' u10_6 (Kd.R_base ho15) hb)
       replace BK403 := am (bb_ BK403.out u10_1 hb)
       replace BK404 := am (bb_ BK404.out u10_2 hb)
       replace HB := am (below_step Q6 hb)
       clear hb ho15
       refine hK.out _ _ ⟨(blk_cell BK403.out 0).trans rfl, (blk_cell BK403.out 1).trans rfl, (blk_cell BK403.out 2).trans rfl⟩ (fun hHeld => ?_)
       clear hK K
       refine norm_ (a' := ?_) ?_ ?_
       rotate_left
       · show Act.put _ (some 11) _ = _
         simp only [Act.put, la, lb, lc, i64_w, i32_w]
         rfl
       exact norm_ u10_3 (hJ0_3_4_8 (v406, v409, v412, v418) _ ⟨hHeld, u10_4, u10_6, u10_13, u10_1, u10_2, Q6⟩)
     skip
     rintro ⟨v406, v409, v412, v418⟩ w15 ⟨hS_, h0_, h1_, h2_, h3_, h4_, h5_⟩
     have n0_ : Aside0 (Kd.R (Kd.int .i64) 3 w15 w.heap.size (fun k_ => some k_ ≠ (v412 : Value).ownBlock ∧ some k_ ≠ (v418 : Value).ownBlock) v409 y408) := ⟨h0_⟩
     have n1_ : Aside0 (Kd.R (Kd.int .i64) 3 w15 w.heap.size (fun k_ => some k_ ≠ (v409 : Value).ownBlock ∧ some k_ ≠ (v418 : Value).ownBlock) v412 y411) := ⟨h1_⟩
     have n2_ : Aside0 (Kd.R (Kd.int .i64) 3 w15 w.heap.size (fun k_ => some k_ ≠ (v409 : Value).ownBlock ∧ some k_ ≠ (v412 : Value).ownBlock) v418 y417) := ⟨h2_⟩
     have n3_ : Aside0 (w15.heap[gb403]? = some (.cells #[.slice A0_0 l0_0.length c0_0, .slice A0_1 l0_1.length c0_1, .slice A0_2 l0_2.length c0_2] 26 (0, 0))) := ⟨h3_⟩
     have n4_ : Aside0 (w15.heap[gb404]? = some (.cells #[.slice none 0 0, .slice none 0 0, .slice none 0 0] 26 (0, 0))) := ⟨h4_⟩
     have n5_ : Aside0 (Below w.heap.size w w15) := ⟨h5_⟩
     clear BK403
     clear BK404
     clear HB
     clear h0_ h1_ h2_ h3_ h4_ h5_
     have HO410 := n0_
     have HO413 := n1_
     have HO419 := n2_
     have BK403 := n3_
     have BK404 := n4_
     have HB := n5_
     clear n0_ n1_ n2_ n3_ n4_ n5_
     have hHeld : w15.cell? ⟨gb403, 0, none⟩ = some (.slice A0_0 l0_0.length c0_0) ∧ w15.cell? ⟨gb403, 1, none⟩ = some (.slice A0_1 l0_1.length c0_1) ∧ w15.cell? ⟨gb403, 2, none⟩ = some (.slice A0_2 l0_2.length c0_2) := hS_
     refine norm_ (a' := ?_) ?_ ?_
     rotate_left
     · simp only [putAll, Act.put, la, lb, lc]
       rfl
     refine one_ (i := 7) (N := some 10) b11_14 rfl rfl (one_of HT_.out kr) (by decide) (fun K hK => ?_)
     refine Kd.R_append_rows_step (Kd.int .i64) (w0 := w) w.heap.size (by rfl) (.tmp 7) (.tmp 9) 24 3 (.int .i64 0) 8 rfl Try.underlying24 info3 rfl (by decide) (by omega) v412 y411 l0_1 _ _ _ (fun k_ => some k_ ≠ (v409 : Value).ownBlock ∧ some k_ ≠ (v418 : Value).ownBlock) (fun _ => False) rfl rfl ?aO ?aR (fun _ _ h => h) (fun _ h => h.elim) ?aF ?aB ?aS ?aL ?_
     (case aR => repeat (first | exact (Kd.C_below HR0_1.out HB.out) | (with_reducible refine Kd.C_alloc ?_ _) | (with_reducible refine Kd.C_drewN ?_ _) | (with_reducible refine Kd.C_drew ?_)))
     (case aB => exact Q6)
     (case aF => exact (fun k_ hk => ⟨Kd.fresh' (Kd.R_lt u10_4) k_ hk, Kd.fresh' (Kd.R_lt u10_5) k_ hk⟩))
     (case aO => exact u10_6)
     (case aS => exact (below_size Q6))
     (case aL => have := LMc3.out; omega)
     intro v415 w16 ho hb hg hat
     rw [← Ny414.out] at ho
     replace BK403 := am (blk_grown (g := gb403) (o := .cells #[.slice A0_0 l0_0.length c0_0, .slice A0_1 l0_1.length c0_1, .slice A0_2 l0_2.length c0_2] 26 (0, 0)) u10_1 hg (Kd.R_ne HO413.out BK403.out (by decide)))
     replace BK404 := am (blk_grown (g := gb404) (o := .cells #[.slice none 0 0, .slice none 0 0, .slice none 0 0] 26 (0, 0)) u10_2 hg (Kd.R_ne HO413.out BK404.out (by decide)))
     replace HO410 := am (Kd.R_after (ok := (fun k_ => some k_ ≠ (v418 : Value).ownBlock)) u10_16 hg hat)
     replace HO419 := am (Kd.R_after (ok := (fun k_ => some k_ ≠ (v409 : Value).ownBlock)) u10_5 hg hat)
     replace HB := am (hb)
     have HO416 := am (ho)
     clear HO413
     clear ho hb hg hat
     refine hK.out _ _ ⟨(blk_cell BK403.out 0).trans rfl, (blk_cell BK403.out 1).trans rfl, (blk_cell BK403.out 2).trans rfl⟩ (fun hHeld => ?_)
     clear hK K
     refine norm_ (a' := ?_) ?_ ?_
     rotate_left
     · show Act.put _ (some 10) _ = _
       simp only [Act.put, la, lb, lc, i64_w, i32_w]
       rfl
     exact norm_ u10_3 (hJ0_3_4_7_8 (v406, v409, v412, v415, v418) _ ⟨hHeld, u10_16, u10_10, u10_5, u10_1, u10_2, Q6⟩)
   skip
   rintro ⟨v406, v409, v412, v415⟩ w14 ⟨hS_, h0_, h1_, h2_, h3_, h4_⟩
   have n0_ : Aside0 (Kd.R (Kd.int .i64) 3 w14 w.heap.size (fun k_ => some k_ ≠ (v415 : Value).ownBlock) v409 y408) := ⟨h0_⟩
   have n1_ : Aside0 (Kd.R (Kd.int .i64) 3 w14 w.heap.size (fun k_ => some k_ ≠ (v409 : Value).ownBlock) v415 y414) := ⟨h1_⟩
   have n2_ : Aside0 (w14.heap[gb403]? = some (.cells #[.slice A0_0 l0_0.length c0_0, .slice A0_1 l0_1.length c0_1, .slice A0_2 l0_2.length c0_2] 26 (0, 0))) := ⟨h2_⟩
   have n3_ : Aside0 (w14.heap[gb404]? = some (.cells #[.slice none 0 0, .slice none 0 0, .slice none 0 0] 26 (0, 0))) := ⟨h3_⟩
   have n4_ : Aside0 (Below w.heap.size w w14) := ⟨h4_⟩
   clear BK403
   clear BK404
   clear HB
   clear h0_ h1_ h2_ h3_ h4_
   have HO410 := n0_
   have HO416 := n1_
   have BK403 := n2_
   have BK404 := n3_
   have HB := n4_
   clear n0_ n1_ n2_ n3_ n4_
   have hHeld : w14.cell? ⟨gb403, 0, none⟩ = some (.slice A0_0 l0_0.length c0_0) ∧ w14.cell? ⟨gb403, 1, none⟩ = some (.slice A0_1 l0_1.length c0_1) ∧ w14.cell? ⟨gb403, 2, none⟩ = some (.slice A0_2 l0_2.length c0_2) := hS_
   refine norm_ (a' := ?_) ?_ ?_
   rotate_left
   · simp only [putAll, Act.put, la, lb, lc]
     rfl
   refine one_ (i := 8) (N := some 11) b11_14 rfl rfl (one_of HT_.out kr) (by decide) (fun K hK => ?_)
   refine Kd.R_lit_step (Kd.int .i64) _ 3 ?hg (N := 11) ?hd (xs := ([] : List Int)) (inner := []) (ok := fun _ => True) (okp := fun _ => True) ?hr ?hp (fun _ hk => hk) trivial (Below.refl _ _) (Nat.le_refl _) (by simp) ?_; (case hd => rfl); (case hg => rfl); (case hr => first | (go_simp; done) | (go_simp; rfl)); (case hp => exact (Reps.none _ _))
   intro v418 w15 ho16 hb hg_ hnew_
   clear hg_ hnew_
   (first | rw [← Ny417.out] at ho16 | (simp only [Int.reduceToNat] at ho16; rw [← Ny417.out] at ho16))
   have HO419 := am (Kd.R_lower (Kd.R_new' (Kd.R_new' ho16 (Kd.R_lt u10_4)) (Kd.R_lt u10_10)) (below_size Q6))
   replace HO410 := am (Kd.R_elder' u10_4 (Kd.R_base ho16) hb)
   replace HO416 := am (Kd.R_elder' u10_10 (Kd.R_base ho16) hb)
   replace BK403 := am (bb_ BK403.out u10_1 hb)
   replace BK404 := am (bb_ BK404.out u10_2 hb)
   replace HB := am (below_step Q6 hb)
   clear hb ho16
   refine hK.out _ _ ⟨(blk_cell BK403.out 0).trans rfl, (blk_cell BK403.out 1).trans rfl, (blk_cell BK403.out 2).trans rfl⟩ (fun hHeld => ?_)
   clear hK K
   refine norm_ (a' := ?_) ?_ ?_
   rotate_left
   · show Act.put _ (some 11) _ = _
     simp only [Act.put, la, lb, lc, i64_w, i32_w]
     rfl
   exact norm_ u10_3 (hJ0_3_4_7_8 (v406, v409, v412, v415, v418) _ ⟨hHeld, u10_4, u10_10, u10_13, u10_1, u10_2, Q6⟩)
 rintro ⟨v406, v409, v412, v415, v418⟩ w16 ⟨hS_, h0_, h1_, h2_, h3_, h4_, h5_⟩
 have n0_ : Aside0 (Kd.R (Kd.int .i64) 3 w16 w.heap.size (fun k_ => some k_ ≠ (v415 : Value).ownBlock ∧ some k_ ≠ (v418 : Value).ownBlock) v409 y408) := ⟨h0_⟩
 have n1_ : Aside0 (Kd.R (Kd.int .i64) 3 w16 w.heap.size (fun k_ => some k_ ≠ (v409 : Value).ownBlock ∧ some k_ ≠ (v418 : Value).ownBlock) v415 y414) := ⟨h1_⟩
 have n2_ : Aside0 (Kd.R (Kd.int .i64) 3 w16 w.heap.size (fun k_ => some k_ ≠ (v409 : Value).ownBlock ∧ some k_ ≠ (v415 : Value).ownBlock) v418 y417) := ⟨h2_⟩
 have n3_ : Aside0 (w16.heap[gb403]? = some (.cells #[.slice A0_0 l0_0.length c0_0, .slice A0_1 l0_1.length c0_1, .slice A0_2 l0_2.length c0_2] 26 (0, 0))) := ⟨h3_⟩
 have n4_ : Aside0 (w16.heap[gb404]? = some (.cells #[.slice none 0 0, .slice none 0 0, .slice none 0 0] 26 (0, 0))) := ⟨h4_⟩
 have n5_ : Aside0 (Below w.heap.size w w16) := ⟨h5_⟩
 clear BK403
 clear BK404
 clear HB
 clear h0_ h1_ h2_ h3_ h4_ h5_
 have HO410 := n0_
 have HO416 := n1_
 have HO419 := n2_
 have BK403 := n3_
 have BK404 := n4_
 have HB := n5_
 clear n0_ n1_ n2_ n3_ n4_ n5_
 have hHeld : w16.cell? ⟨gb403, 0, none⟩ = some (.slice A0_0 l0_0.length c0_0) ∧ w16.cell? ⟨gb403, 1, none⟩ = some (.slice A0_1 l0_1.length c0_1) ∧ w16.cell? ⟨gb403, 2, none⟩ = some (.slice A0_2 l0_2.length c0_2) := hS_
 refine norm_ (a' := ?_) ?_ ?_
 rotate_left
 · simp only [putAll, Act.put, la, lb, lc]
   rfl
 refine one_ (i := 11) (N := some 14) #[true, true, true, true, true, true, true, true, true, true, true, true, false, false] rfl rfl (one_of HT_.out kr) (by decide) (fun K hK => ?_)
 refine Kd.R_append_rows_step (Kd.int .i64) (w0 := w) w.heap.size (by rfl) (.tmp 11) (.tmp 13) 24 3 (.int .i64 0) 8 rfl Try.underlying24 info3 rfl (by decide) (by omega) v418 y417 l0_2 _ _ _ (fun k_ => some k_ ≠ (v409 : Value).ownBlock ∧ some k_ ≠ (v415 : Value).ownBlock) (fun _ => False) rfl rfl ?aO ?aR (fun _ _ h => h) (fun _ h => h.elim) ?aF ?aB ?aS ?aL ?_
 (case aR => repeat (first | exact (Kd.C_below HR0_2.out HB.out) | (with_reducible refine Kd.C_alloc ?_ _) | (with_reducible refine Kd.C_drewN ?_ _) | (with_reducible refine Kd.C_drew ?_)))
 (case aB => exact Q6)
 (case aF => exact (fun k_ hk => ⟨Kd.fresh' (Kd.R_lt u10_4) k_ hk, Kd.fresh' (Kd.R_lt u10_10) k_ hk⟩))
 (case aO => exact u10_5)
 (case aS => exact (below_size Q6))
 (case aL => have := LMc4.out; omega)
 intro v421 w17 ho hb hg hat
 rw [← Ny420.out] at ho
 replace BK403 := am (blk_grown (g := gb403) (o := .cells #[.slice A0_0 l0_0.length c0_0, .slice A0_1 l0_1.length c0_1, .slice A0_2 l0_2.length c0_2] 26 (0, 0)) u10_1 hg (Kd.R_ne HO419.out BK403.out (by decide)))
 replace BK404 := am (blk_grown (g := gb404) (o := .cells #[.slice none 0 0, .slice none 0 0, .slice none 0 0] 26 (0, 0)) u10_2 hg (Kd.R_ne HO419.out BK404.out (by decide)))
 replace HO410 := am (Kd.R_after (ok := (fun k_ => some k_ ≠ (v415 : Value).ownBlock)) u10_4 hg hat)
 replace HO416 := am (Kd.R_after (ok := (fun k_ => some k_ ≠ (v409 : Value).ownBlock)) u10_10 hg hat)
 replace HB := am (hb)
 have HO422 := am (ho)
 clear HO419
 clear ho hb hg hat
 obtain ⟨Ao18, co18, eo18⟩ := Kd.R_slice HO422.out
 (first | subst eo18 | (injection eo18 with f1_ f2_ f3_; have f4_ := f1_.symm; have f5_ := f3_.symm; clear f1_ f2_ f3_; subst f4_; subst f5_))
 obtain ⟨Ao19, co19, eo19⟩ := Kd.R_slice HO416.out
 (first | subst eo19 | (injection eo19 with f1_ f2_ f3_; have f4_ := f1_.symm; have f5_ := f3_.symm; clear f1_ f2_ f3_; subst f4_; subst f5_))
 obtain ⟨Ao20, co20, eo20⟩ := Kd.R_slice HO410.out
 (first | subst eo20 | (injection eo20 with f1_ f2_ f3_; have f4_ := f1_.symm; have f5_ := f3_.symm; clear f1_ f2_ f3_; subst f4_; subst f5_))
 refine hK.out _ _ ⟨(blk_cell BK403.out 0).trans rfl, (blk_cell BK403.out 1).trans rfl, (blk_cell BK403.out 2).trans rfl⟩ (fun hHeld => ?_)
 clear hK K
 refine norm_ (a' := ?_) ?_ ?_
 rotate_left
 · show Act.put _ (some 14) _ = _
   simp only [Act.put, la, lb, lc, i64_w, i32_w]
   rfl
 refine pV 12 15 (bt 13 14) ?_
 refine one_ (i := 13) (N := none) #[true, true, true, true, true, true, true, true, true, true, true, true, true, true] rfl rfl (one_of HT_.out kr) (by decide) (fun K hK => ?_)
 have hs21 : w17.cell? ⟨gb404, 0, none⟩ = some (.slice none 0 0) := (blk_cell BK404.out 0).trans rfl
 have hfs21 := blk_frozen BK404.out 0
 have hns21_0 := NB403_404.out
 have hms21_0 := NB404_403.out
 have hs22 : w17.cell? ⟨gb404, 1, none⟩ = some (.slice none 0 0) := (blk_cell BK404.out 1).trans rfl
 have hfs22 := blk_frozen BK404.out 1
 have hns22_0 := NB403_404.out
 have hms22_0 := NB404_403.out
 have hs23 : w17.cell? ⟨gb404, 2, none⟩ = some (.slice none 0 0) := (blk_cell BK404.out 2).trans rfl
 have hfs23 := blk_frozen BK404.out 2
 have hns23_0 := NB403_404.out
 have hms23_0 := NB404_403.out
 refine skip_ (w1 := ?_) (by rfl) rfl ?_ ?_
 rotate_left
 · go_simp
   rfl
 refine hK.out _ _ ⟨((cell_far (p := ⟨gb404, _, none⟩) NB403_404.out _).trans (((cell_far (p := ⟨gb404, _, none⟩) NB403_404.out _).trans (((cell_far (p := ⟨gb404, _, none⟩) NB403_404.out _).trans (hHeld.1)))))), ((cell_far (p := ⟨gb404, _, none⟩) NB403_404.out _).trans (((cell_far (p := ⟨gb404, _, none⟩) NB403_404.out _).trans (((cell_far (p := ⟨gb404, _, none⟩) NB403_404.out _).trans (hHeld.2.1)))))), ((cell_far (p := ⟨gb404, _, none⟩) NB403_404.out _).trans (((cell_far (p := ⟨gb404, _, none⟩) NB403_404.out _).trans (((cell_far (p := ⟨gb404, _, none⟩) NB403_404.out _).trans (hHeld.2.2))))))⟩ (fun hHeld => ?_)
 clear hK K
 refine done_ (done_of HT_.out kr) ?_
 try go_wp2
 refine bodyPost_ret (results_cell_row rfl _ _ gb404 26 #[.slice Ao20 y408.length co20, .slice Ao19 y414.length co19, .slice Ao18 y420.length co18] (0, 0) _ rfl (by (with_reducible repeat (first | apply b1_ | apply b2_ | apply b3_)); refine blk_put (cs := #[.slice Ao20 y408.length co20, .slice Ao19 y414.length co19, .slice none 0 0]) ?_ 2 _ rfl; (with_reducible repeat (first | apply b1_ | apply b2_ | apply b3_)); refine blk_put (cs := #[.slice Ao20 y408.length co20, .slice none 0 0, .slice none 0 0]) ?_ 1 _ rfl; (with_reducible repeat (first | apply b1_ | apply b2_ | apply b3_)); refine blk_put (cs := #[.slice none 0 0, .slice none 0 0, .slice none 0 0]) ?_ 0 _ rfl; (with_reducible repeat (first | apply b1_ | apply b2_ | apply b3_)); exact BK404.out) Try.underlying26 rfl kr) rfl ?_
 exact ⟨_, _, _, er, (by (with_reducible repeat (first | apply r1_ | apply r2_ | apply r3_)); exact Kd.R_mono (Kd.R_far (p := ⟨gb404, 2, none⟩) (Kd.R_far (p := ⟨gb404, 1, none⟩) (Kd.R_far (p := ⟨gb404, 0, none⟩) (Kd.R_types HO410.out BK404.out (by decide)) (fun _ hk => hk.2) (.slice Ao20 y408.length co20)) (fun _ hk => hk.2) (.slice Ao19 y414.length co19)) (fun _ hk => hk.2) (.slice Ao18 y420.length co18)) (fun _ hk => ⟨hk.1.1, hk.1.2⟩)), (by (with_reducible repeat (first | apply r1_ | apply r2_ | apply r3_)); exact Kd.R_mono (Kd.R_far (p := ⟨gb404, 2, none⟩) (Kd.R_far (p := ⟨gb404, 1, none⟩) (Kd.R_far (p := ⟨gb404, 0, none⟩) (Kd.R_types HO416.out BK404.out (by decide)) (fun _ hk => hk.2) (.slice Ao20 y408.length co20)) (fun _ hk => hk.2) (.slice Ao19 y414.length co19)) (fun _ hk => hk.2) (.slice Ao18 y420.length co18)) (fun _ hk => ⟨hk.1.1, hk.1.2⟩)), (by (with_reducible repeat (first | apply r1_ | apply r2_ | apply r3_)); exact Kd.R_mono (Kd.R_far (p := ⟨gb404, 2, none⟩) (Kd.R_far (p := ⟨gb404, 1, none⟩) (Kd.R_far (p := ⟨gb404, 0, none⟩) (Kd.R_types HO422.out BK404.out (by decide)) (fun _ hk => hk.2) (.slice Ao20 y408.length co20)) (fun _ hk => hk.2) (.slice Ao19 y414.length co19)) (fun _ hk => hk.2) (.slice Ao18 y420.length co18)) (fun _ hk => ⟨hk.1.1, hk.1.2⟩)), Q6⟩
end Go.Proofs.Ytoemdmjdpikfbaa.QFnExactPlayConf
