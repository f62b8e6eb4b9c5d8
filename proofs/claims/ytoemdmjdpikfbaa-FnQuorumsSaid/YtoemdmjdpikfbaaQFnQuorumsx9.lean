-- Printed by the session's own program wip/prx.py.
import Derived.Test.YtoemdmjdpikfbaaSqFnQuorums
import Derived.Test.YtoemdmjdpikfbaaQFnQuorumsx0
namespace Go.Proofs.Ytoemdmjdpikfbaa.QFnQuorums
open Go.RowKit Go.Proofs.YtoemdmjdpikfbaaW.PrintWords Go.Proofs.YtoemdmjdpikfbaaW.PrintLast Go.Proofs.YtoemdmjdpikfbaaW.PrintMore Go.Proofs.Ytoemdmjdpikfbaa.SqFnQuorums
attribute [local go_sem] max2_int min2_int max_two min_two max_three min_three max_four min_four Go.Proofs.Ytoemdmjdpikfbaa.Set.isSome_setCell
set_option linter.unusedVariables false
set_option linter.unusedSimpArgs false

-- squeezed
theorem u9_1 {P : Prop} (h : P := by (with_reducible repeat (first | refine blk_drewN ?_ _ | refine blk_drew ?_ | refine blk_alloc ?_ _)); exact BK448.out) : P := h
theorem u9_2 {P : Prop} (h : P := by (with_reducible repeat (first | refine blk_drewN ?_ _ | refine blk_drew ?_ | refine blk_alloc ?_ _)); exact BK449.out) : P := h
theorem u9_3 {P : Prop} (h : P := by first | (simp only [putAll, Act.put, la, lb, lc]; done) | (simp only [putAll, Act.put, la, lb, lc]; rfl)) : P := h
theorem u9_4 {P : Prop} (h : P := by (with_reducible repeat (first | apply Kd.R_alloc | apply Kd.R_drewN | apply Kd.R_drew)); exact HO455.out) : P := h
theorem u9_5 {P : Prop} (h : P := by (with_reducible repeat (first | apply Kd.R_alloc | apply Kd.R_drewN | apply Kd.R_drew)); exact HO464.out) : P := h
theorem u9_6 {P : Prop} (h : P := by (with_reducible repeat (first | apply Kd.R_alloc | apply Kd.R_drewN | apply Kd.R_drew)); exact HO458.out) : P := h
theorem u9_7 {P : Prop} (h : P := by (with_reducible repeat (first | apply Kd.R_alloc | apply Kd.R_drewN | apply Kd.R_drew)); exact HO452.out) : P := h
theorem u9_8 {P : Prop} (h : P := by (with_reducible repeat (first | apply Kd.R_alloc | apply Kd.R_drewN | apply Kd.R_drew)); exact Kd.R_mono HO464.out (fun _ hk => hk.2)) : P := h
theorem u9_9 {P : Prop} (h : P := by (with_reducible repeat (first | apply Kd.R_alloc | apply Kd.R_drewN | apply Kd.R_drew)); exact Kd.R_mono HO458.out (fun _ hk => hk.2)) : P := h
theorem u9_10 {P : Prop} (h : P := by (with_reducible repeat (first | apply Kd.R_alloc | apply Kd.R_drewN | apply Kd.R_drew)); exact HO461.out) : P := h
theorem u9_11 {P : Prop} (h : P := by (with_reducible repeat (first | apply Kd.R_alloc | apply Kd.R_drewN | apply Kd.R_drew)); exact Kd.R_mono HO452.out (fun _ hk => hk.2)) : P := h
theorem u9_13 {P : Prop} (h : P := by (with_reducible repeat (first | apply Kd.R_alloc | apply Kd.R_drewN | apply Kd.R_drew)); exact Kd.R_mono HO464.out (fun _ hk => ⟨hk.1.2, hk.2⟩)) : P := h
theorem u9_14 {P : Prop} (h : P := by (with_reducible repeat (first | apply Kd.R_alloc | apply Kd.R_drewN | apply Kd.R_drew)); exact Kd.R_mono HO458.out (fun _ hk => ⟨hk.2, hk.1⟩)) : P := h
theorem u9_15 {P : Prop} (h : P := by (with_reducible repeat (first | apply Kd.R_alloc | apply Kd.R_drewN | apply Kd.R_drew)); exact Kd.R_mono HO464.out (fun _ hk => ⟨hk.2, hk.1⟩)) : P := h
theorem u9_16 {P : Prop} (h : P := by (with_reducible repeat (first | apply Kd.R_alloc | apply Kd.R_drewN | apply Kd.R_drew)); exact Kd.R_mono HO455.out (fun _ hk => ⟨hk.2, hk.1⟩)) : P := h
theorem u9_17 {P : Prop} (h : P := by (with_reducible repeat (first | apply Kd.R_alloc | apply Kd.R_drewN | apply Kd.R_drew)); exact Kd.R_mono HO455.out (fun _ hk => hk.2)) : P := h
theorem u9_19 {P : Prop} (h : P := by (with_reducible repeat (first | apply Kd.R_alloc | apply Kd.R_drewN | apply Kd.R_drew)); exact Kd.R_mono HO458.out (fun _ hk => ⟨hk.1.2, hk.2⟩)) : P := h
/-! ### impl_copyConf: function 63 -/
def impl_copyConf.f (l0_0 : List Int) (l0_1 : List Int) (l0_2 : List Int) : Option (List Int × List Int × List Int) := (some (([] : List Int) : List Int)).bind fun y450 => (if y450.length + l0_0.length < 17592186044416 then ((some (([] : List Int) : List Int)).bind fun y456 => (if y456.length + l0_1.length < 17592186044416 then ((some (([] : List Int) : List Int)).bind fun y462 => (if y462.length + l0_2.length < 17592186044416 then (some ((y450 ++ l0_0), (y456 ++ l0_1), (y462 ++ l0_2))) else (none))) else (none))) else (none))
def impl_copyConf.T1 : Bool × List (List Nat × List Nat) := (true, [([], []), ([], []), ([1], [1]), ([0, 2], [0, 2]), ([], []), ([], []), ([5], [5]), ([4, 6, 3], [4, 6]), ([], []), ([], []), ([9], [9]), ([8, 10, 7], [8, 10]), ([3, 7, 11], [3, 7, 11]), ([12, 11, 0, 1, 2, 3, 4, 5, 6, 7, 8, 9, 10, 11, 12], [12])])
def impl_copyConf.B1 : List Nat := [0, 0, 2, 7, 0, 0, 32, 127, 0, 0, 512, 2047, 4095, 8191]
theorem impl_copyConf.tab1 : rtab .any (opsOf Try.f63 1) = impl_copyConf.T1 := by kernel_rfl
theorem impl_copyConf.bits1 : waitsOk impl_copyConf.T1.2 impl_copyConf.B1 = true := by kernel_rfl
set_option maxHeartbeats 8000000 in
set_option maxRecDepth 100000 in
theorem impl_copyConf.calls (A0_0 : Option Addr) (c0_0 : Nat) (l0_0 : List Int) (A0_1 : Option Addr) (c0_1 : Nat) (l0_1 : List Int) (A0_2 : Option Addr) (c0_2 : Nat) (l0_2 : List Int) (r1 : List Int) (r2 : List Int) (r3 : List Int) (w : World) (hr0_0 : Kd.C (Kd.int .i64) w A0_0 l0_0.length l0_0) (hc0_0 : l0_0.length ≤ c0_0) (hr0_1 : Kd.C (Kd.int .i64) w A0_1 l0_1.length l0_1) (hc0_1 : l0_1.length ≤ c0_1) (hr0_2 : Kd.C (Kd.int .i64) w A0_2 l0_2.length l0_2) (hc0_2 : l0_2.length ≤ c0_2) (h : impl_copyConf.f l0_0 l0_1 l0_2 = some (r1, r2, r3)) :
   Calls Try.prog 63 #[.agg #[.slice A0_0 l0_0.length c0_0, .slice A0_1 l0_1.length c0_1, .slice A0_2 l0_2.length c0_2]] w fun e w' => ∃ v0_ v1_ v2_ : Value, e = .returned (.agg #[v0_, v1_, v2_]) ∧ Kd.R (Kd.int .i64) 3 w' w.heap.size (fun k_ => some k_ ≠ (v1_ : Value).ownBlock ∧ some k_ ≠ (v2_ : Value).ownBlock) v0_ r1 ∧ Kd.R (Kd.int .i64) 3 w' w.heap.size (fun k_ => some k_ ≠ (v0_ : Value).ownBlock ∧ some k_ ≠ (v2_ : Value).ownBlock) v1_ r2 ∧ Kd.R (Kd.int .i64) 3 w' w.heap.size (fun k_ => some k_ ≠ (v0_ : Value).ownBlock ∧ some k_ ≠ (v1_ : Value).ownBlock) v2_ r3 ∧ Below w.heap.size w w' := by
 have hu26 := Try.underlying26
 have HR0_0 := am hr0_0
 have HC0_0 := am hc0_0
 clear hr0_0 hc0_0
 have HR0_1 := am hr0_1
 have HC0_1 := am hc0_1
 clear hr0_1 hc0_1
 have HR0_2 := am hr0_2
 have HC0_2 := am hc0_2
 clear hr0_2 hc0_2
 have HB := am (Below.refl w.heap.size w)
 have H : ((some (([] : List Int) : List Int)).bind fun y450 => (if y450.length + l0_0.length < 17592186044416 then ((some (([] : List Int) : List Int)).bind fun y456 => (if y456.length + l0_1.length < 17592186044416 then ((some (([] : List Int) : List Int)).bind fun y462 => (if y462.length + l0_2.length < 17592186044416 then (some ((y450 ++ l0_0), (y456 ++ l0_1), (y462 ++ l0_2))) else (none))) else (none))) else (none))) = some (r1, r2, r3) := h
 clear h
 obtain ⟨y450, hy450⟩ : ∃ y_ : List Int, y_ = (([] : List Int)) := ⟨_, rfl⟩
 replace H : (if y450.length + l0_0.length < 17592186044416 then ((some (([] : List Int) : List Int)).bind fun y456 => (if y456.length + l0_1.length < 17592186044416 then ((some (([] : List Int) : List Int)).bind fun y462 => (if y462.length + l0_2.length < 17592186044416 then (some ((y450 ++ l0_0), (y456 ++ l0_1), (y462 ++ l0_2))) else (none))) else (none))) else (none)) = some (r1, r2, r3) := by first | (rw [hy450]; with_reducible exact H) | (have H2_ := (Option.bind_some _ _).symm.trans H; rw [hy450]; with_reducible exact H2_) | (have H2_ := (Option.bind_some _ _).symm.trans H; with_reducible exact H2_) | with_reducible exact H | (rw [hy450]; exact H) | exact H
 have Ny450 := am hy450
 clear hy450
 by_cases c2 : y450.length + l0_0.length < 17592186044416
 rotate_left
 · rw [if_neg c2] at H
   exact absurd H (by simp)
 rw [if_pos c2] at H
 have LMc2 := am c2
 clear c2
 obtain ⟨y453, hy453⟩ : ∃ y_ : List Int, y_ = (y450 ++ l0_0) := ⟨_, rfl⟩
 replace H : ((some (([] : List Int) : List Int)).bind fun y456 => (if y456.length + l0_1.length < 17592186044416 then ((some (([] : List Int) : List Int)).bind fun y462 => (if y462.length + l0_2.length < 17592186044416 then (some (y453, (y456 ++ l0_1), (y462 ++ l0_2))) else (none))) else (none))) = some (r1, r2, r3) := by first | (rw [hy453]; with_reducible exact H) | (have H2_ := (Option.bind_some _ _).symm.trans H; rw [hy453]; with_reducible exact H2_) | (have H2_ := (Option.bind_some _ _).symm.trans H; with_reducible exact H2_) | with_reducible exact H | (rw [hy453]; exact H) | exact H
 have Ny453 := am hy453
 clear hy453
 obtain ⟨y456, hy456⟩ : ∃ y_ : List Int, y_ = (([] : List Int)) := ⟨_, rfl⟩
 replace H : (if y456.length + l0_1.length < 17592186044416 then ((some (([] : List Int) : List Int)).bind fun y462 => (if y462.length + l0_2.length < 17592186044416 then (some (y453, (y456 ++ l0_1), (y462 ++ l0_2))) else (none))) else (none)) = some (r1, r2, r3) := by first | (rw [hy456]; with_reducible exact H) | (have H2_ := (Option.bind_some _ _).symm.trans H; rw [hy456]; with_reducible exact H2_) | (have H2_ := (Option.bind_some _ _).symm.trans H; with_reducible exact H2_) | with_reducible exact H | (rw [hy456]; exact H) | exact H
 have Ny456 := am hy456
 clear hy456
 by_cases c3 : y456.length + l0_1.length < 17592186044416
 rotate_left
 · rw [if_neg c3] at H
   exact absurd H (by simp)
 rw [if_pos c3] at H
 have LMc3 := am c3
 clear c3
 obtain ⟨y459, hy459⟩ : ∃ y_ : List Int, y_ = (y456 ++ l0_1) := ⟨_, rfl⟩
 replace H : ((some (([] : List Int) : List Int)).bind fun y462 => (if y462.length + l0_2.length < 17592186044416 then (some (y453, y459, (y462 ++ l0_2))) else (none))) = some (r1, r2, r3) := by first | (rw [hy459]; with_reducible exact H) | (have H2_ := (Option.bind_some _ _).symm.trans H; rw [hy459]; with_reducible exact H2_) | (have H2_ := (Option.bind_some _ _).symm.trans H; with_reducible exact H2_) | with_reducible exact H | (rw [hy459]; exact H) | exact H
 have Ny459 := am hy459
 clear hy459
 obtain ⟨y462, hy462⟩ : ∃ y_ : List Int, y_ = (([] : List Int)) := ⟨_, rfl⟩
 replace H : (if y462.length + l0_2.length < 17592186044416 then (some (y453, y459, (y462 ++ l0_2))) else (none)) = some (r1, r2, r3) := by first | (rw [hy462]; with_reducible exact H) | (have H2_ := (Option.bind_some _ _).symm.trans H; rw [hy462]; with_reducible exact H2_) | (have H2_ := (Option.bind_some _ _).symm.trans H; with_reducible exact H2_) | with_reducible exact H | (rw [hy462]; exact H) | exact H
 have Ny462 := am hy462
 clear hy462
 by_cases c4 : y462.length + l0_2.length < 17592186044416
 rotate_left
 · rw [if_neg c4] at H
   exact absurd H (by simp)
 rw [if_pos c4] at H
 have LMc4 := am c4
 clear c4
 obtain ⟨y465, hy465⟩ : ∃ y_ : List Int, y_ = (y462 ++ l0_2) := ⟨_, rfl⟩
 replace H : (some (y453, y459, y465)) = some (r1, r2, r3) := by first | (rw [hy465]; with_reducible exact H) | (have H2_ := (Option.bind_some _ _).symm.trans H; rw [hy465]; with_reducible exact H2_) | (have H2_ := (Option.bind_some _ _).symm.trans H; with_reducible exact H2_) | with_reducible exact H | (rw [hy465]; exact H) | exact H
 have Ny465 := am hy465
 clear hy465
 simp only [Option.some.injEq, Prod.mk.injEq] at H
 obtain ⟨rfl, rfl, rfl⟩ := H
 go_enter Try.func63, Try.ntmps63
 try go_wp2_with (first | ((with_reducible refine gate_dst (N := 1) rfl ?_); refine box_event ?hg (N := 1) ?hd (cs := #[.slice A0_0 l0_0.length c0_0, .slice A0_1 l0_1.length c0_1, .slice A0_2 l0_2.length c0_2]) (t := 26) ?hr ?_; (case hd => rfl); (case hg => rfl); (case hr => first | (go_simp; done) | (go_simp; rfl)); intro gb448 hg w5 hbox hb; have BK448 := am (hbox); have GW448 := am ((by rw [hg]; exact (below_size Q0) : w.heap.size ≤ gb448)); have GE448 := am ((by rw [hg]; exact (below_size Q0) : w.heap.size ≤ gb448)); replace HB := am (below_step Q0 hb); clear hb hbox hg) | ((with_reducible refine gate_dst (N := 2) rfl ?_); refine box_event ?hg (N := 2) ?hd (cs := #[.slice none 0 0, .slice none 0 0, .slice none 0 0]) (t := 26) ?hr ?_; (case hd => rfl); (case hg => rfl); (case hr => first | (go_simp; done) | (go_simp; rfl)); intro gb449 hg w6 hbox hb; have BK449 := am (hbox); have GW449 := am ((by rw [hg]; exact (below_size Q0) : w.heap.size ≤ gb449)); have GE449 := am ((by rw [hg]; exact (below_size Q0) : w.heap.size ≤ gb449)); replace HB := am (below_step Q0 hb); have NB448_449 := am ((by rw [hg]; exact Nat.ne_of_lt (blk_lt (g := gb448) (o := .cells #[.slice A0_0 l0_0.length c0_0, .slice A0_1 l0_1.length c0_1, .slice A0_2 l0_2.length c0_2] 26 (0, 0)) u9_1) : gb448 ≠ gb449)); have NB449_448 := am ((by rw [hg]; exact Nat.ne_of_gt (blk_lt (g := gb448) (o := .cells #[.slice A0_0 l0_0.length c0_0, .slice A0_1 l0_1.length c0_1, .slice A0_2 l0_2.length c0_2] 26 (0, 0)) u9_1) : gb449 ≠ gb448)); replace BK448 := am (blk_below (g := gb448) (o := .cells #[.slice A0_0 l0_0.length c0_0, .slice A0_1 l0_1.length c0_1, .slice A0_2 l0_2.length c0_2] 26 (0, 0)) u9_1 hb); clear hb hbox hg))
 replace BK448 := am (blk_drew BK448.out)
 replace BK449 := am (blk_drew BK449.out)
 replace HB := am (below_drew1 HB.out)
 refine start_ (n := 14) (S := fun w' => w'.cell? ⟨gb448, 0, none⟩ = some (.slice A0_0 l0_0.length c0_0) ∧ w'.cell? ⟨gb448, 1, none⟩ = some (.slice A0_1 l0_1.length c0_1) ∧ w'.cell? ⟨gb448, 2, none⟩ = some (.slice A0_2 l0_2.length c0_2)) (ds := []) #[false, false, false, false, false, false, false, false, false, false, false, false, false, false] kr rfl rfl ⟨(blk_cell BK448.out 0).trans rfl, (blk_cell BK448.out 1).trans rfl, (blk_cell BK448.out 2).trans rfl⟩ (fun hHeld => ?_); refine with_tabW impl_copyConf.tab1 impl_copyConf.bits1 (fun HT_ HW_ => ?_)
 generalize w6.drew = w7 at BK448 BK449 HB hHeld ⊢
 refine pV 1 4 #[false, true, false, false, false, false, false, false, false, false, false, false, false, false] ?_
 refine pV 5 8 #[false, true, false, false, false, true, false, false, false, false, false, false, false, false] ?_
 refine pV 9 12 #[false, true, false, false, false, true, false, false, false, true, false, false, false, false] ?_
 refine tV 2 5 #[false, true, true, false, false, true, false, false, false, true, false, false, false, false] ?_
 refine tV 6 9 #[false, true, true, false, false, true, true, false, false, true, false, false, false, false] ?_
 refine tV 10 13 #[false, true, true, false, false, true, true, false, false, true, true, false, false, false] ?_
 refine join_ (σ := Value × Value × Value × Value × Value) 3 b11_14 (fun s_ => [(3, s_.1), (6, s_.2.1), (7, s_.2.2.1), (10, s_.2.2.2.1), (11, s_.2.2.2.2)]) (fun s_ w' => (w'.cell? ⟨gb448, 0, none⟩ = some (.slice A0_0 l0_0.length c0_0) ∧ w'.cell? ⟨gb448, 1, none⟩ = some (.slice A0_1 l0_1.length c0_1) ∧ w'.cell? ⟨gb448, 2, none⟩ = some (.slice A0_2 l0_2.length c0_2)) ∧ (Kd.R (Kd.int .i64) 3 w' w.heap.size (fun k_ => some k_ ≠ (s_.2.2.2.1 : Value).ownBlock ∧ some k_ ≠ (s_.2.2.2.2 : Value).ownBlock) s_.2.1 y453) ∧ (Kd.R (Kd.int .i64) 3 w' w.heap.size (fun k_ => some k_ ≠ (s_.2.1 : Value).ownBlock ∧ some k_ ≠ (s_.2.2.2.2 : Value).ownBlock) s_.2.2.2.1 y459) ∧ (Kd.R (Kd.int .i64) 3 w' w.heap.size (fun k_ => some k_ ≠ (s_.2.1 : Value).ownBlock ∧ some k_ ≠ (s_.2.2.2.1 : Value).ownBlock) s_.2.2.2.2 y462) ∧ (w'.heap[gb448]? = some (.cells #[.slice A0_0 l0_0.length c0_0, .slice A0_1 l0_1.length c0_1, .slice A0_2 l0_2.length c0_2] 26 (0, 0))) ∧ (w'.heap[gb449]? = some (.cells #[.slice none 0 0, .slice none 0 0, .slice none 0 0] 26 (0, 0))) ∧ (Below w.heap.size w w')) ?_ ?_
 rotate_left
 · intro hJ0_3_4_7_8
   refine join_ (σ := Value × Value × Value × Value) 4 #[true, true, true, true, true, true, true, true, false, true, true, false, false, false] (fun s_ => [(3, s_.1), (6, s_.2.1), (7, s_.2.2.1), (10, s_.2.2.2)]) (fun s_ w' => (w'.cell? ⟨gb448, 0, none⟩ = some (.slice A0_0 l0_0.length c0_0) ∧ w'.cell? ⟨gb448, 1, none⟩ = some (.slice A0_1 l0_1.length c0_1) ∧ w'.cell? ⟨gb448, 2, none⟩ = some (.slice A0_2 l0_2.length c0_2)) ∧ (Kd.R (Kd.int .i64) 3 w' w.heap.size (fun k_ => some k_ ≠ (s_.2.2.2 : Value).ownBlock) s_.2.1 y453) ∧ (Kd.R (Kd.int .i64) 3 w' w.heap.size (fun k_ => some k_ ≠ (s_.2.1 : Value).ownBlock) s_.2.2.2 y459) ∧ (w'.heap[gb448]? = some (.cells #[.slice A0_0 l0_0.length c0_0, .slice A0_1 l0_1.length c0_1, .slice A0_2 l0_2.length c0_2] 26 (0, 0))) ∧ (w'.heap[gb449]? = some (.cells #[.slice none 0 0, .slice none 0 0, .slice none 0 0] 26 (0, 0))) ∧ (Below w.heap.size w w')) ?_ ?_
   rotate_left
   · intro hJ0_3_4_7
     refine join_ (σ := Value × Value × Value × Value) 4 bx14 (fun s_ => [(3, s_.1), (6, s_.2.1), (7, s_.2.2.1), (11, s_.2.2.2)]) (fun s_ w' => (w'.cell? ⟨gb448, 0, none⟩ = some (.slice A0_0 l0_0.length c0_0) ∧ w'.cell? ⟨gb448, 1, none⟩ = some (.slice A0_1 l0_1.length c0_1) ∧ w'.cell? ⟨gb448, 2, none⟩ = some (.slice A0_2 l0_2.length c0_2)) ∧ (Kd.R (Kd.int .i64) 3 w' w.heap.size (fun k_ => some k_ ≠ (s_.2.2.1 : Value).ownBlock ∧ some k_ ≠ (s_.2.2.2 : Value).ownBlock) s_.2.1 y453) ∧ (Kd.R (Kd.int .i64) 3 w' w.heap.size (fun k_ => some k_ ≠ (s_.2.1 : Value).ownBlock ∧ some k_ ≠ (s_.2.2.2 : Value).ownBlock) s_.2.2.1 y456) ∧ (Kd.R (Kd.int .i64) 3 w' w.heap.size (fun k_ => some k_ ≠ (s_.2.1 : Value).ownBlock ∧ some k_ ≠ (s_.2.2.1 : Value).ownBlock) s_.2.2.2 y462) ∧ (w'.heap[gb448]? = some (.cells #[.slice A0_0 l0_0.length c0_0, .slice A0_1 l0_1.length c0_1, .slice A0_2 l0_2.length c0_2] 26 (0, 0))) ∧ (w'.heap[gb449]? = some (.cells #[.slice none 0 0, .slice none 0 0, .slice none 0 0] 26 (0, 0))) ∧ (Below w.heap.size w w')) ?_ ?_
     rotate_left
     · intro hJ0_3_4_8
       refine join_ (σ := Value × Value × Value) 5 bx15 (fun s_ => [(3, s_.1), (6, s_.2.1), (7, s_.2.2)]) (fun s_ w' => (w'.cell? ⟨gb448, 0, none⟩ = some (.slice A0_0 l0_0.length c0_0) ∧ w'.cell? ⟨gb448, 1, none⟩ = some (.slice A0_1 l0_1.length c0_1) ∧ w'.cell? ⟨gb448, 2, none⟩ = some (.slice A0_2 l0_2.length c0_2)) ∧ (Kd.R (Kd.int .i64) 3 w' w.heap.size (fun k_ => some k_ ≠ (s_.2.2 : Value).ownBlock) s_.2.1 y453) ∧ (Kd.R (Kd.int .i64) 3 w' w.heap.size (fun k_ => some k_ ≠ (s_.2.1 : Value).ownBlock) s_.2.2 y456) ∧ (w'.heap[gb448]? = some (.cells #[.slice A0_0 l0_0.length c0_0, .slice A0_1 l0_1.length c0_1, .slice A0_2 l0_2.length c0_2] 26 (0, 0))) ∧ (w'.heap[gb449]? = some (.cells #[.slice none 0 0, .slice none 0 0, .slice none 0 0] 26 (0, 0))) ∧ (Below w.heap.size w w')) ?_ ?_
       rotate_left
       · intro hJ0_3_4
         refine join_ (σ := Value × Value × Value) 5 bx16 (fun s_ => [(3, s_.1), (6, s_.2.1), (11, s_.2.2)]) (fun s_ w' => (w'.cell? ⟨gb448, 0, none⟩ = some (.slice A0_0 l0_0.length c0_0) ∧ w'.cell? ⟨gb448, 1, none⟩ = some (.slice A0_1 l0_1.length c0_1) ∧ w'.cell? ⟨gb448, 2, none⟩ = some (.slice A0_2 l0_2.length c0_2)) ∧ (Kd.R (Kd.int .i64) 3 w' w.heap.size (fun k_ => some k_ ≠ (s_.2.2 : Value).ownBlock) s_.2.1 y453) ∧ (Kd.R (Kd.int .i64) 3 w' w.heap.size (fun k_ => some k_ ≠ (s_.2.1 : Value).ownBlock) s_.2.2 y462) ∧ (w'.heap[gb448]? = some (.cells #[.slice A0_0 l0_0.length c0_0, .slice A0_1 l0_1.length c0_1, .slice A0_2 l0_2.length c0_2] 26 (0, 0))) ∧ (w'.heap[gb449]? = some (.cells #[.slice none 0 0, .slice none 0 0, .slice none 0 0] 26 (0, 0))) ∧ (Below w.heap.size w w')) ?_ ?_
         rotate_left
         · intro hJ0_3_8
           refine join_ (σ := Value × Value × Value) 5 bx17 (fun s_ => [(3, s_.1), (7, s_.2.1), (11, s_.2.2)]) (fun s_ w' => (w'.cell? ⟨gb448, 0, none⟩ = some (.slice A0_0 l0_0.length c0_0) ∧ w'.cell? ⟨gb448, 1, none⟩ = some (.slice A0_1 l0_1.length c0_1) ∧ w'.cell? ⟨gb448, 2, none⟩ = some (.slice A0_2 l0_2.length c0_2)) ∧ (Kd.R (Kd.int .i64) 3 w' w.heap.size (fun k_ => some k_ ≠ (s_.2.1 : Value).ownBlock ∧ some k_ ≠ (s_.2.2 : Value).ownBlock) s_.1 y450) ∧ (Kd.R (Kd.int .i64) 3 w' w.heap.size (fun k_ => some k_ ≠ (s_.1 : Value).ownBlock ∧ some k_ ≠ (s_.2.2 : Value).ownBlock) s_.2.1 y456) ∧ (Kd.R (Kd.int .i64) 3 w' w.heap.size (fun k_ => some k_ ≠ (s_.1 : Value).ownBlock ∧ some k_ ≠ (s_.2.1 : Value).ownBlock) s_.2.2 y462) ∧ (w'.heap[gb448]? = some (.cells #[.slice A0_0 l0_0.length c0_0, .slice A0_1 l0_1.length c0_1, .slice A0_2 l0_2.length c0_2] 26 (0, 0))) ∧ (w'.heap[gb449]? = some (.cells #[.slice none 0 0, .slice none 0 0, .slice none 0 0] 26 (0, 0))) ∧ (Below w.heap.size w w')) ?_ ?_
           rotate_left
           · intro hJ0_4_8
             refine join_ (σ := Value × Value) 6 #[true, true, true, true, false, true, true, false, false, true, true, false, false, false] (fun s_ => [(3, s_.1), (6, s_.2)]) (fun s_ w' => (w'.cell? ⟨gb448, 0, none⟩ = some (.slice A0_0 l0_0.length c0_0) ∧ w'.cell? ⟨gb448, 1, none⟩ = some (.slice A0_1 l0_1.length c0_1) ∧ w'.cell? ⟨gb448, 2, none⟩ = some (.slice A0_2 l0_2.length c0_2)) ∧ (Kd.R (Kd.int .i64) 3 w' w.heap.size (fun _ => True) s_.2 y453) ∧ (w'.heap[gb448]? = some (.cells #[.slice A0_0 l0_0.length c0_0, .slice A0_1 l0_1.length c0_1, .slice A0_2 l0_2.length c0_2] 26 (0, 0))) ∧ (w'.heap[gb449]? = some (.cells #[.slice none 0 0, .slice none 0 0, .slice none 0 0] 26 (0, 0))) ∧ (Below w.heap.size w w')) ?_ ?_
             rotate_left
             · intro hJ0_3
               refine join_ (σ := Value × Value) 6 bx18 (fun s_ => [(3, s_.1), (7, s_.2)]) (fun s_ w' => (w'.cell? ⟨gb448, 0, none⟩ = some (.slice A0_0 l0_0.length c0_0) ∧ w'.cell? ⟨gb448, 1, none⟩ = some (.slice A0_1 l0_1.length c0_1) ∧ w'.cell? ⟨gb448, 2, none⟩ = some (.slice A0_2 l0_2.length c0_2)) ∧ (Kd.R (Kd.int .i64) 3 w' w.heap.size (fun k_ => some k_ ≠ (s_.2 : Value).ownBlock) s_.1 y450) ∧ (Kd.R (Kd.int .i64) 3 w' w.heap.size (fun k_ => some k_ ≠ (s_.1 : Value).ownBlock) s_.2 y456) ∧ (w'.heap[gb448]? = some (.cells #[.slice A0_0 l0_0.length c0_0, .slice A0_1 l0_1.length c0_1, .slice A0_2 l0_2.length c0_2] 26 (0, 0))) ∧ (w'.heap[gb449]? = some (.cells #[.slice none 0 0, .slice none 0 0, .slice none 0 0] 26 (0, 0))) ∧ (Below w.heap.size w w')) ?_ ?_
               rotate_left
               · intro hJ0_4
                 refine join_ (σ := Value × Value) 6 bx19 (fun s_ => [(3, s_.1), (11, s_.2)]) (fun s_ w' => (w'.cell? ⟨gb448, 0, none⟩ = some (.slice A0_0 l0_0.length c0_0) ∧ w'.cell? ⟨gb448, 1, none⟩ = some (.slice A0_1 l0_1.length c0_1) ∧ w'.cell? ⟨gb448, 2, none⟩ = some (.slice A0_2 l0_2.length c0_2)) ∧ (Kd.R (Kd.int .i64) 3 w' w.heap.size (fun k_ => some k_ ≠ (s_.2 : Value).ownBlock) s_.1 y450) ∧ (Kd.R (Kd.int .i64) 3 w' w.heap.size (fun k_ => some k_ ≠ (s_.1 : Value).ownBlock) s_.2 y462) ∧ (w'.heap[gb448]? = some (.cells #[.slice A0_0 l0_0.length c0_0, .slice A0_1 l0_1.length c0_1, .slice A0_2 l0_2.length c0_2] 26 (0, 0))) ∧ (w'.heap[gb449]? = some (.cells #[.slice none 0 0, .slice none 0 0, .slice none 0 0] 26 (0, 0))) ∧ (Below w.heap.size w w')) ?_ ?_
                 rotate_left
                 · intro hJ0_8
                   refine join_ (σ := Value × Value) 6 bx20 (fun s_ => [(7, s_.1), (11, s_.2)]) (fun s_ w' => (w'.cell? ⟨gb448, 0, none⟩ = some (.slice A0_0 l0_0.length c0_0) ∧ w'.cell? ⟨gb448, 1, none⟩ = some (.slice A0_1 l0_1.length c0_1) ∧ w'.cell? ⟨gb448, 2, none⟩ = some (.slice A0_2 l0_2.length c0_2)) ∧ (Kd.R (Kd.int .i64) 3 w' w.heap.size (fun k_ => some k_ ≠ (s_.2 : Value).ownBlock) s_.1 y456) ∧ (Kd.R (Kd.int .i64) 3 w' w.heap.size (fun k_ => some k_ ≠ (s_.1 : Value).ownBlock) s_.2 y462) ∧ (w'.heap[gb448]? = some (.cells #[.slice A0_0 l0_0.length c0_0, .slice A0_1 l0_1.length c0_1, .slice A0_2 l0_2.length c0_2] 26 (0, 0))) ∧ (w'.heap[gb449]? = some (.cells #[.slice none 0 0, .slice none 0 0, .slice none 0 0] 26 (0, 0))) ∧ (Below w.heap.size w w')) ?_ ?_
                   rotate_left
                   · intro hJ4_8
                     refine join_ (σ := Value) 7 #[true, true, true, false, false, true, true, false, false, true, true, false, false, false] (fun s_ => [(3, s_)]) (fun s_ w' => (w'.cell? ⟨gb448, 0, none⟩ = some (.slice A0_0 l0_0.length c0_0) ∧ w'.cell? ⟨gb448, 1, none⟩ = some (.slice A0_1 l0_1.length c0_1) ∧ w'.cell? ⟨gb448, 2, none⟩ = some (.slice A0_2 l0_2.length c0_2)) ∧ (Kd.R (Kd.int .i64) 3 w' w.heap.size (fun _ => True) s_ y450) ∧ (w'.heap[gb448]? = some (.cells #[.slice A0_0 l0_0.length c0_0, .slice A0_1 l0_1.length c0_1, .slice A0_2 l0_2.length c0_2] 26 (0, 0))) ∧ (w'.heap[gb449]? = some (.cells #[.slice none 0 0, .slice none 0 0, .slice none 0 0] 26 (0, 0))) ∧ (Below w.heap.size w w')) ?_ ?_
                     rotate_left
                     · intro hJ0
                       refine join_ (σ := Value) 7 #[false, true, true, false, true, true, true, false, false, true, true, false, false, false] (fun s_ => [(7, s_)]) (fun s_ w' => (w'.cell? ⟨gb448, 0, none⟩ = some (.slice A0_0 l0_0.length c0_0) ∧ w'.cell? ⟨gb448, 1, none⟩ = some (.slice A0_1 l0_1.length c0_1) ∧ w'.cell? ⟨gb448, 2, none⟩ = some (.slice A0_2 l0_2.length c0_2)) ∧ (Kd.R (Kd.int .i64) 3 w' w.heap.size (fun _ => True) s_ y456) ∧ (w'.heap[gb448]? = some (.cells #[.slice A0_0 l0_0.length c0_0, .slice A0_1 l0_1.length c0_1, .slice A0_2 l0_2.length c0_2] 26 (0, 0))) ∧ (w'.heap[gb449]? = some (.cells #[.slice none 0 0, .slice none 0 0, .slice none 0 0] 26 (0, 0))) ∧ (Below w.heap.size w w')) ?_ ?_
                       rotate_left
                       · intro hJ4
                         refine join_ (σ := Value) 7 #[false, true, true, false, false, true, true, false, true, true, true, false, false, false] (fun s_ => [(11, s_)]) (fun s_ w' => (w'.cell? ⟨gb448, 0, none⟩ = some (.slice A0_0 l0_0.length c0_0) ∧ w'.cell? ⟨gb448, 1, none⟩ = some (.slice A0_1 l0_1.length c0_1) ∧ w'.cell? ⟨gb448, 2, none⟩ = some (.slice A0_2 l0_2.length c0_2)) ∧ (Kd.R (Kd.int .i64) 3 w' w.heap.size (fun _ => True) s_ y462) ∧ (w'.heap[gb448]? = some (.cells #[.slice A0_0 l0_0.length c0_0, .slice A0_1 l0_1.length c0_1, .slice A0_2 l0_2.length c0_2] 26 (0, 0))) ∧ (w'.heap[gb449]? = some (.cells #[.slice none 0 0, .slice none 0 0, .slice none 0 0] 26 (0, 0))) ∧ (Below w.heap.size w w')) ?_ ?_
                         rotate_left
                         · intro hJ8
                           refine three_ (i := 0) (j := 4) (k := 8) (Ni := some 3) (Nj := some 7) (Nk := some 11) #[true, true, true, false, false, true, true, false, false, true, true, false, false, false] #[false, true, true, false, true, true, true, false, false, true, true, false, false, false] #[false, true, true, false, false, true, true, false, true, true, true, false, false, false] rfl rfl rfl rfl rfl rfl (three_of HT_.out kr) (by decide) (by decide) (by decide) (fun K hK => ?_) (fun K hK => ?_) (fun K hK => ?_)
                           · skip
                             refine Kd.R_lit_step (Kd.int .i64) _ 3 ?hg (N := 3) ?hd (xs := ([] : List Int)) (inner := []) (ok := fun _ => True) (okp := fun _ => True) ?hr ?hp (fun _ hk => hk) trivial (Below.refl _ _) (Nat.le_refl _) (by simp) ?_; (case hd => rfl); (case hg => rfl); (case hr => first | (go_simp; done) | (go_simp; rfl)); (case hp => exact (Reps.none _ _))
                             intro v451 w8 ho9 hb hg_ hnew_
                             clear hg_ hnew_
                             (first | rw [← Ny450.out] at ho9 | (simp only [Int.reduceToNat] at ho9; rw [← Ny450.out] at ho9))
                             have HO452 := am (Kd.R_lower ho9 (below_size Q0))
                             replace BK448 := am (blk_below (g := gb448) (o := .cells #[.slice A0_0 l0_0.length c0_0, .slice A0_1 l0_1.length c0_1, .slice A0_2 l0_2.length c0_2] 26 (0, 0)) u9_1 hb)
                             replace BK449 := am (blk_below (g := gb449) (o := .cells #[.slice none 0 0, .slice none 0 0, .slice none 0 0] 26 (0, 0)) u9_2 hb)
                             replace HB := am (below_step Q0 hb)
                             clear hb ho9
                             refine hK.out _ _ ⟨(blk_cell BK448.out 0).trans rfl, (blk_cell BK448.out 1).trans rfl, (blk_cell BK448.out 2).trans rfl⟩ (fun hHeld => ?_)
                             clear hK K
                             refine norm_ (a' := ?_) ?_ ?_
                             rotate_left
                             · show Act.put _ (some 3) _ = _
                               simp only [Act.put, la, lb, lc, i64_w, i32_w]
                               rfl
                             exact norm_ u9_3 (hJ0 (v451) _ ⟨hHeld, u9_7, u9_1, u9_2, Q0⟩)
                           · skip
                             refine Kd.R_lit_step (Kd.int .i64) _ 3 ?hg (N := 7) ?hd (xs := ([] : List Int)) (inner := []) (ok := fun _ => True) (okp := fun _ => True) ?hr ?hp (fun _ hk => hk) trivial (Below.refl _ _) (Nat.le_refl _) (by simp) ?_; (case hd => rfl); (case hg => rfl); (case hr => first | (go_simp; done) | (go_simp; rfl)); (case hp => exact (Reps.none _ _))
                             intro v457 w8 ho9 hb hg_ hnew_
                             clear hg_ hnew_
                             (first | rw [← Ny456.out] at ho9 | (simp only [Int.reduceToNat] at ho9; rw [← Ny456.out] at ho9))
                             have HO458 := am (Kd.R_lower ho9 (below_size Q0))
                             replace BK448 := am (blk_below (g := gb448) (o := .cells #[.slice A0_0 l0_0.length c0_0, .slice A0_1 l0_1.length c0_1, .slice A0_2 l0_2.length c0_2] 26 (0, 0)) u9_1 hb)
                             replace BK449 := am (blk_below (g := gb449) (o := .cells #[.slice none 0 0, .slice none 0 0, .slice none 0 0] 26 (0, 0)) u9_2 hb)
                             replace HB := am (below_step Q0 hb)
                             clear hb ho9
                             refine hK.out _ _ ⟨(blk_cell BK448.out 0).trans rfl, (blk_cell BK448.out 1).trans rfl, (blk_cell BK448.out 2).trans rfl⟩ (fun hHeld => ?_)
                             clear hK K
                             refine norm_ (a' := ?_) ?_ ?_
                             rotate_left
                             · show Act.put _ (some 7) _ = _
                               simp only [Act.put, la, lb, lc, i64_w, i32_w]
                               rfl
                             exact norm_ u9_3 (hJ4 (v457) _ ⟨hHeld, u9_6, u9_1, u9_2, Q0⟩)
                           skip
                           refine Kd.R_lit_step (Kd.int .i64) _ 3 ?hg (N := 11) ?hd (xs := ([] : List Int)) (inner := []) (ok := fun _ => True) (okp := fun _ => True) ?hr ?hp (fun _ hk => hk) trivial (Below.refl _ _) (Nat.le_refl _) (by simp) ?_; (case hd => rfl); (case hg => rfl); (case hr => first | (go_simp; done) | (go_simp; rfl)); (case hp => exact (Reps.none _ _))
                           intro v463 w8 ho9 hb hg_ hnew_
                           clear hg_ hnew_
                           (first | rw [← Ny462.out] at ho9 | (simp only [Int.reduceToNat] at ho9; rw [← Ny462.out] at ho9))
                           have HO464 := am (Kd.R_lower ho9 (below_size Q0))
                           replace BK448 := am (blk_below (g := gb448) (o := .cells #[.slice A0_0 l0_0.length c0_0, .slice A0_1 l0_1.length c0_1, .slice A0_2 l0_2.length c0_2] 26 (0, 0)) u9_1 hb)
                           replace BK449 := am (blk_below (g := gb449) (o := .cells #[.slice none 0 0, .slice none 0 0, .slice none 0 0] 26 (0, 0)) u9_2 hb)
                           replace HB := am (below_step Q0 hb)
                           clear hb ho9
                           refine hK.out _ _ ⟨(blk_cell BK448.out 0).trans rfl, (blk_cell BK448.out 1).trans rfl, (blk_cell BK448.out 2).trans rfl⟩ (fun hHeld => ?_)
                           clear hK K
                           refine norm_ (a' := ?_) ?_ ?_
                           rotate_left
                           · show Act.put _ (some 11) _ = _
                             simp only [Act.put, la, lb, lc, i64_w, i32_w]
                             rfl
                           exact norm_ u9_3 (hJ8 (v463) _ ⟨hHeld, u9_5, u9_1, u9_2, Q0⟩)
                         skip
                         rintro v463 w10 ⟨hS_, h0_, h1_, h2_, h3_⟩
                         have n0_ : Aside0 (Kd.R (Kd.int .i64) 3 w10 w.heap.size (fun _ => True) v463 y462) := ⟨h0_⟩
                         have n1_ : Aside0 (w10.heap[gb448]? = some (.cells #[.slice A0_0 l0_0.length c0_0, .slice A0_1 l0_1.length c0_1, .slice A0_2 l0_2.length c0_2] 26 (0, 0))) := ⟨h1_⟩
                         have n2_ : Aside0 (w10.heap[gb449]? = some (.cells #[.slice none 0 0, .slice none 0 0, .slice none 0 0] 26 (0, 0))) := ⟨h2_⟩
                         have n3_ : Aside0 (Below w.heap.size w w10) := ⟨h3_⟩
                         clear BK448
                         clear BK449
                         clear HB
                         clear h0_ h1_ h2_ h3_
                         have HO464 := n0_
                         have BK448 := n1_
                         have BK449 := n2_
                         have HB := n3_
                         clear n0_ n1_ n2_ n3_
                         have hHeld : w10.cell? ⟨gb448, 0, none⟩ = some (.slice A0_0 l0_0.length c0_0) ∧ w10.cell? ⟨gb448, 1, none⟩ = some (.slice A0_1 l0_1.length c0_1) ∧ w10.cell? ⟨gb448, 2, none⟩ = some (.slice A0_2 l0_2.length c0_2) := hS_
                         refine norm_ (a' := ?_) ?_ ?_
                         rotate_left
                         · simp only [putAll, Act.put, la, lb, lc]
                           rfl
                         refine two_ (i := 0) (j := 4) (Ni := some 3) (Nj := some 7) bx19 bx20 rfl rfl rfl rfl (two_of HT_.out kr) (by decide) (by decide) (fun K hK => ?_) (fun K hK => ?_)
                         · skip
                           refine Kd.R_lit_step (Kd.int .i64) _ 3 ?hg (N := 3) ?hd (xs := ([] : List Int)) (inner := []) (ok := fun _ => True) (okp := fun _ => True) ?hr ?hp (fun _ hk => hk) trivial (Below.refl _ _) (Nat.le_refl _) (by simp) ?_; (case hd => rfl); (case hg => rfl); (case hr => first | (go_simp; done) | (go_simp; rfl)); (case hp => exact (Reps.none _ _))
                           intro v451 w11 ho12 hb hg_ hnew_
                           clear hg_ hnew_
                           (first | rw [← Ny450.out] at ho12 | (simp only [Int.reduceToNat] at ho12; rw [← Ny450.out] at ho12))
                           have HO452 := am (Kd.R_lower (Kd.R_new' ho12 (Kd.R_lt u9_5)) (below_size Q0))
                           replace HO464 := am (Kd.R_elder' u9_5 (Kd.R_base ho12) hb)
                           replace BK448 := am (blk_below (g := gb448) (o := .cells #[.slice A0_0 l0_0.length c0_0, .slice A0_1 l0_1.length c0_1, .slice A0_2 l0_2.length c0_2] 26 (0, 0)) u9_1 hb)
                           replace BK449 := am (blk_below (g := gb449) (o := .cells #[.slice none 0 0, .slice none 0 0, .slice none 0 0] 26 (0, 0)) u9_2 hb)
                           replace HB := am (below_step Q0 hb)
                           clear hb ho12
                           refine hK.out _ _ ⟨(blk_cell BK448.out 0).trans rfl, (blk_cell BK448.out 1).trans rfl, (blk_cell BK448.out 2).trans rfl⟩ (fun hHeld => ?_)
                           clear hK K
                           refine norm_ (a' := ?_) ?_ ?_
                           rotate_left
                           · show Act.put _ (some 3) _ = _
                             simp only [Act.put, la, lb, lc, i64_w, i32_w]
                             rfl
                           exact norm_ u9_3 (hJ0_8 (v451, v463) _ ⟨hHeld, u9_11, u9_8, u9_1, u9_2, Q0⟩)
                         skip
                         refine Kd.R_lit_step (Kd.int .i64) _ 3 ?hg (N := 7) ?hd (xs := ([] : List Int)) (inner := []) (ok := fun _ => True) (okp := fun _ => True) ?hr ?hp (fun _ hk => hk) trivial (Below.refl _ _) (Nat.le_refl _) (by simp) ?_; (case hd => rfl); (case hg => rfl); (case hr => first | (go_simp; done) | (go_simp; rfl)); (case hp => exact (Reps.none _ _))
                         intro v457 w11 ho12 hb hg_ hnew_
                         clear hg_ hnew_
                         (first | rw [← Ny456.out] at ho12 | (simp only [Int.reduceToNat] at ho12; rw [← Ny456.out] at ho12))
                         have HO458 := am (Kd.R_lower (Kd.R_new' ho12 (Kd.R_lt u9_5)) (below_size Q0))
                         replace HO464 := am (Kd.R_elder' u9_5 (Kd.R_base ho12) hb)
                         replace BK448 := am (blk_below (g := gb448) (o := .cells #[.slice A0_0 l0_0.length c0_0, .slice A0_1 l0_1.length c0_1, .slice A0_2 l0_2.length c0_2] 26 (0, 0)) u9_1 hb)
                         replace BK449 := am (blk_below (g := gb449) (o := .cells #[.slice none 0 0, .slice none 0 0, .slice none 0 0] 26 (0, 0)) u9_2 hb)
                         replace HB := am (below_step Q0 hb)
                         clear hb ho12
                         refine hK.out _ _ ⟨(blk_cell BK448.out 0).trans rfl, (blk_cell BK448.out 1).trans rfl, (blk_cell BK448.out 2).trans rfl⟩ (fun hHeld => ?_)
                         clear hK K
                         refine norm_ (a' := ?_) ?_ ?_
                         rotate_left
                         · show Act.put _ (some 7) _ = _
                           simp only [Act.put, la, lb, lc, i64_w, i32_w]
                           rfl
                         exact norm_ u9_3 (hJ4_8 (v457, v463) _ ⟨hHeld, u9_9, u9_8, u9_1, u9_2, Q0⟩)
                       skip
                       rintro v457 w10 ⟨hS_, h0_, h1_, h2_, h3_⟩
                       have n0_ : Aside0 (Kd.R (Kd.int .i64) 3 w10 w.heap.size (fun _ => True) v457 y456) := ⟨h0_⟩
                       have n1_ : Aside0 (w10.heap[gb448]? = some (.cells #[.slice A0_0 l0_0.length c0_0, .slice A0_1 l0_1.length c0_1, .slice A0_2 l0_2.length c0_2] 26 (0, 0))) := ⟨h1_⟩
                       have n2_ : Aside0 (w10.heap[gb449]? = some (.cells #[.slice none 0 0, .slice none 0 0, .slice none 0 0] 26 (0, 0))) := ⟨h2_⟩
                       have n3_ : Aside0 (Below w.heap.size w w10) := ⟨h3_⟩
                       clear BK448
                       clear BK449
                       clear HB
                       clear h0_ h1_ h2_ h3_
                       have HO458 := n0_
                       have BK448 := n1_
                       have BK449 := n2_
                       have HB := n3_
                       clear n0_ n1_ n2_ n3_
                       have hHeld : w10.cell? ⟨gb448, 0, none⟩ = some (.slice A0_0 l0_0.length c0_0) ∧ w10.cell? ⟨gb448, 1, none⟩ = some (.slice A0_1 l0_1.length c0_1) ∧ w10.cell? ⟨gb448, 2, none⟩ = some (.slice A0_2 l0_2.length c0_2) := hS_
                       refine norm_ (a' := ?_) ?_ ?_
                       rotate_left
                       · simp only [putAll, Act.put, la, lb, lc]
                         rfl
                       refine two_ (i := 0) (j := 8) (Ni := some 3) (Nj := some 11) bx18 bx20 rfl rfl rfl rfl (two_of HT_.out kr) (by decide) (by decide) (fun K hK => ?_) (fun K hK => ?_)
                       · skip
                         refine Kd.R_lit_step (Kd.int .i64) _ 3 ?hg (N := 3) ?hd (xs := ([] : List Int)) (inner := []) (ok := fun _ => True) (okp := fun _ => True) ?hr ?hp (fun _ hk => hk) trivial (Below.refl _ _) (Nat.le_refl _) (by simp) ?_; (case hd => rfl); (case hg => rfl); (case hr => first | (go_simp; done) | (go_simp; rfl)); (case hp => exact (Reps.none _ _))
                         intro v451 w11 ho12 hb hg_ hnew_
                         clear hg_ hnew_
                         (first | rw [← Ny450.out] at ho12 | (simp only [Int.reduceToNat] at ho12; rw [← Ny450.out] at ho12))
                         have HO452 := am (Kd.R_lower (Kd.R_new' ho12 (Kd.R_lt u9_6)) (below_size Q0))
                         replace HO458 := am (Kd.R_elder' u9_6 (Kd.R_base ho12) hb)
                         replace BK448 := am (blk_below (g := gb448) (o := .cells #[.slice A0_0 l0_0.length c0_0, .slice A0_1 l0_1.length c0_1, .slice A0_2 l0_2.length c0_2] 26 (0, 0)) u9_1 hb)
                         replace BK449 := am (blk_below (g := gb449) (o := .cells #[.slice none 0 0, .slice none 0 0, .slice none 0 0] 26 (0, 0)) u9_2 hb)
                         replace HB := am (below_step Q0 hb)
                         clear hb ho12
                         refine hK.out _ _ ⟨(blk_cell BK448.out 0).trans rfl, (blk_cell BK448.out 1).trans rfl, (blk_cell BK448.out 2).trans rfl⟩ (fun hHeld => ?_)
                         clear hK K
                         refine norm_ (a' := ?_) ?_ ?_
                         rotate_left
                         · show Act.put _ (some 3) _ = _
                           simp only [Act.put, la, lb, lc, i64_w, i32_w]
                           rfl
                         exact norm_ u9_3 (hJ0_4 (v451, v457) _ ⟨hHeld, u9_11, u9_9, u9_1, u9_2, Q0⟩)
                       skip
                       refine Kd.R_lit_step (Kd.int .i64) _ 3 ?hg (N := 11) ?hd (xs := ([] : List Int)) (inner := []) (ok := fun _ => True) (okp := fun _ => True) ?hr ?hp (fun _ hk => hk) trivial (Below.refl _ _) (Nat.le_refl _) (by simp) ?_; (case hd => rfl); (case hg => rfl); (case hr => first | (go_simp; done) | (go_simp; rfl)); (case hp => exact (Reps.none _ _))
                       intro v463 w11 ho12 hb hg_ hnew_
                       clear hg_ hnew_
                       (first | rw [← Ny462.out] at ho12 | (simp only [Int.reduceToNat] at ho12; rw [← Ny462.out] at ho12))
                       have HO464 := am (Kd.R_lower (Kd.R_new' ho12 (Kd.R_lt u9_6)) (below_size Q0))
                       replace HO458 := am (Kd.R_elder' u9_6 (Kd.R_base ho12) hb)
                       replace BK448 := am (blk_below (g := gb448) (o := .cells #[.slice A0_0 l0_0.length c0_0, .slice A0_1 l0_1.length c0_1, .slice A0_2 l0_2.length c0_2] 26 (0, 0)) u9_1 hb)
                       replace BK449 := am (blk_below (g := gb449) (o := .cells #[.slice none 0 0, .slice none 0 0, .slice none 0 0] 26 (0, 0)) u9_2 hb)
                       replace HB := am (below_step Q0 hb)
                       clear hb ho12
                       refine hK.out _ _ ⟨(blk_cell BK448.out 0).trans rfl, (blk_cell BK448.out 1).trans rfl, (blk_cell BK448.out 2).trans rfl⟩ (fun hHeld => ?_)
                       clear hK K
                       refine norm_ (a' := ?_) ?_ ?_
                       rotate_left
                       · show Act.put _ (some 11) _ = _
                         simp only [Act.put, la, lb, lc, i64_w, i32_w]
                         rfl
                       exact norm_ u9_3 (hJ4_8 (v457, v463) _ ⟨hHeld, u9_9, u9_8, u9_1, u9_2, Q0⟩)
                     skip
                     rintro v451 w10 ⟨hS_, h0_, h1_, h2_, h3_⟩
                     have n0_ : Aside0 (Kd.R (Kd.int .i64) 3 w10 w.heap.size (fun _ => True) v451 y450) := ⟨h0_⟩
                     have n1_ : Aside0 (w10.heap[gb448]? = some (.cells #[.slice A0_0 l0_0.length c0_0, .slice A0_1 l0_1.length c0_1, .slice A0_2 l0_2.length c0_2] 26 (0, 0))) := ⟨h1_⟩
                     have n2_ : Aside0 (w10.heap[gb449]? = some (.cells #[.slice none 0 0, .slice none 0 0, .slice none 0 0] 26 (0, 0))) := ⟨h2_⟩
                     have n3_ : Aside0 (Below w.heap.size w w10) := ⟨h3_⟩
                     clear BK448
                     clear BK449
                     clear HB
                     clear h0_ h1_ h2_ h3_
                     have HO452 := n0_
                     have BK448 := n1_
                     have BK449 := n2_
                     have HB := n3_
                     clear n0_ n1_ n2_ n3_
                     have hHeld : w10.cell? ⟨gb448, 0, none⟩ = some (.slice A0_0 l0_0.length c0_0) ∧ w10.cell? ⟨gb448, 1, none⟩ = some (.slice A0_1 l0_1.length c0_1) ∧ w10.cell? ⟨gb448, 2, none⟩ = some (.slice A0_2 l0_2.length c0_2) := hS_
                     refine norm_ (a' := ?_) ?_ ?_
                     rotate_left
                     · simp only [putAll, Act.put, la, lb, lc]
                       rfl
                     refine three_ (i := 3) (j := 4) (k := 8) (Ni := some 6) (Nj := some 7) (Nk := some 11) #[true, true, true, true, false, true, true, false, false, true, true, false, false, false] bx18 bx19 rfl rfl rfl rfl rfl rfl (three_of HT_.out kr) (by decide) (by decide) (by decide) (fun K hK => ?_) (fun K hK => ?_) (fun K hK => ?_)
                     · skip
                       refine Kd.R_append_rows_step (Kd.int .i64) (w0 := w) w.heap.size (by rfl) (.tmp 3) (.tmp 5) 24 3 (.int .i64 0) 8 rfl Try.underlying24 info3 rfl (by decide) (by omega) v451 y450 l0_0 _ _ _ (fun _ => True) (fun _ => False) rfl rfl ?aO ?aR (fun _ _ h => h) (fun _ h => h.elim) ?aF ?aB ?aS ?aL ?_
                       (case aR => repeat (first | exact (Kd.C_below HR0_0.out HB.out) | (with_reducible refine Kd.C_alloc ?_ _) | (with_reducible refine Kd.C_drewN ?_ _) | (with_reducible refine Kd.C_drew ?_)))
                       (case aB => exact Q0)
                       (case aF => exact (fun _ _ => trivial))
                       (case aO => exact u9_7)
                       (case aS => exact (below_size Q0))
                       (case aL => have := LMc2.out; omega)
                       intro v454 w11 ho hb hg hat
                       rw [← Ny453.out] at ho
                       replace BK448 := am (blk_grown (g := gb448) (o := .cells #[.slice A0_0 l0_0.length c0_0, .slice A0_1 l0_1.length c0_1, .slice A0_2 l0_2.length c0_2] 26 (0, 0)) u9_1 hg (Kd.R_ne HO452.out BK448.out (by decide)))
                       replace BK449 := am (blk_grown (g := gb449) (o := .cells #[.slice none 0 0, .slice none 0 0, .slice none 0 0] 26 (0, 0)) u9_2 hg (Kd.R_ne HO452.out BK449.out (by decide)))
                       replace HB := am (hb)
                       have HO455 := am (ho)
                       clear HO452
                       clear ho hb hg hat
                       refine hK.out _ _ ⟨(blk_cell BK448.out 0).trans rfl, (blk_cell BK448.out 1).trans rfl, (blk_cell BK448.out 2).trans rfl⟩ (fun hHeld => ?_)
                       clear hK K
                       refine norm_ (a' := ?_) ?_ ?_
                       rotate_left
                       · show Act.put _ (some 6) _ = _
                         simp only [Act.put, la, lb, lc, i64_w, i32_w]
                         rfl
                       exact norm_ u9_3 (hJ0_3 (v451, v454) _ ⟨hHeld, u9_4, u9_1, u9_2, Q0⟩)
                     · skip
                       refine Kd.R_lit_step (Kd.int .i64) _ 3 ?hg (N := 7) ?hd (xs := ([] : List Int)) (inner := []) (ok := fun _ => True) (okp := fun _ => True) ?hr ?hp (fun _ hk => hk) trivial (Below.refl _ _) (Nat.le_refl _) (by simp) ?_; (case hd => rfl); (case hg => rfl); (case hr => first | (go_simp; done) | (go_simp; rfl)); (case hp => exact (Reps.none _ _))
                       intro v457 w11 ho12 hb hg_ hnew_
                       clear hg_ hnew_
                       (first | rw [← Ny456.out] at ho12 | (simp only [Int.reduceToNat] at ho12; rw [← Ny456.out] at ho12))
                       have HO458 := am (Kd.R_lower (Kd.R_new' ho12 (Kd.R_lt u9_7)) (below_size Q0))
                       replace HO452 := am (Kd.R_elder' u9_7 (Kd.R_base ho12) hb)
                       replace BK448 := am (blk_below (g := gb448) (o := .cells #[.slice A0_0 l0_0.length c0_0, .slice A0_1 l0_1.length c0_1, .slice A0_2 l0_2.length c0_2] 26 (0, 0)) u9_1 hb)
                       replace BK449 := am (blk_below (g := gb449) (o := .cells #[.slice none 0 0, .slice none 0 0, .slice none 0 0] 26 (0, 0)) u9_2 hb)
                       replace HB := am (below_step Q0 hb)
                       clear hb ho12
                       refine hK.out _ _ ⟨(blk_cell BK448.out 0).trans rfl, (blk_cell BK448.out 1).trans rfl, (blk_cell BK448.out 2).trans rfl⟩ (fun hHeld => ?_)
                       clear hK K
                       refine norm_ (a' := ?_) ?_ ?_
                       rotate_left
                       · show Act.put _ (some 7) _ = _
                         simp only [Act.put, la, lb, lc, i64_w, i32_w]
                         rfl
                       exact norm_ u9_3 (hJ0_4 (v451, v457) _ ⟨hHeld, u9_11, u9_9, u9_1, u9_2, Q0⟩)
                     skip
                     refine Kd.R_lit_step (Kd.int .i64) _ 3 ?hg (N := 11) ?hd (xs := ([] : List Int)) (inner := []) (ok := fun _ => True) (okp := fun _ => True) ?hr ?hp (fun _ hk => hk) trivial (Below.refl _ _) (Nat.le_refl _) (by simp) ?_; (case hd => rfl); (case hg => rfl); (case hr => first | (go_simp; done) | (go_simp; rfl)); (case hp => exact (Reps.none _ _))
                     intro v463 w11 ho12 hb hg_ hnew_
                     clear hg_ hnew_
                     (first | rw [← Ny462.out] at ho12 | (simp only [Int.reduceToNat] at ho12; rw [← Ny462.out] at ho12))
                     have HO464 := am (Kd.R_lower (Kd.R_new' ho12 (Kd.R_lt u9_7)) (below_size Q0))
                     replace HO452 := am (Kd.R_elder' u9_7 (Kd.R_base ho12) hb)
                     replace BK448 := am (blk_below (g := gb448) (o := .cells #[.slice A0_0 l0_0.length c0_0, .slice A0_1 l0_1.length c0_1, .slice A0_2 l0_2.length c0_2] 26 (0, 0)) u9_1 hb)
                     replace BK449 := am (blk_below (g := gb449) (o := .cells #[.slice none 0 0, .slice none 0 0, .slice none 0 0] 26 (0, 0)) u9_2 hb)
                     replace HB := am (below_step Q0 hb)
                     clear hb ho12
                     refine hK.out _ _ ⟨(blk_cell BK448.out 0).trans rfl, (blk_cell BK448.out 1).trans rfl, (blk_cell BK448.out 2).trans rfl⟩ (fun hHeld => ?_)
                     clear hK K
                     refine norm_ (a' := ?_) ?_ ?_
                     rotate_left
                     · show Act.put _ (some 11) _ = _
                       simp only [Act.put, la, lb, lc, i64_w, i32_w]
                       rfl
                     exact norm_ u9_3 (hJ0_8 (v451, v463) _ ⟨hHeld, u9_11, u9_8, u9_1, u9_2, Q0⟩)
                   skip
                   rintro ⟨v457, v463⟩ w12 ⟨hS_, h0_, h1_, h2_, h3_, h4_⟩
                   have n0_ : Aside0 (Kd.R (Kd.int .i64) 3 w12 w.heap.size (fun k_ => some k_ ≠ (v463 : Value).ownBlock) v457 y456) := ⟨h0_⟩
                   have n1_ : Aside0 (Kd.R (Kd.int .i64) 3 w12 w.heap.size (fun k_ => some k_ ≠ (v457 : Value).ownBlock) v463 y462) := ⟨h1_⟩
                   have n2_ : Aside0 (w12.heap[gb448]? = some (.cells #[.slice A0_0 l0_0.length c0_0, .slice A0_1 l0_1.length c0_1, .slice A0_2 l0_2.length c0_2] 26 (0, 0))) := ⟨h2_⟩
                   have n3_ : Aside0 (w12.heap[gb449]? = some (.cells #[.slice none 0 0, .slice none 0 0, .slice none 0 0] 26 (0, 0))) := ⟨h3_⟩
                   have n4_ : Aside0 (Below w.heap.size w w12) := ⟨h4_⟩
                   clear BK448
                   clear BK449
                   clear HB
                   clear h0_ h1_ h2_ h3_ h4_
                   have HO458 := n0_
                   have HO464 := n1_
                   have BK448 := n2_
                   have BK449 := n3_
                   have HB := n4_
                   clear n0_ n1_ n2_ n3_ n4_
                   have hHeld : w12.cell? ⟨gb448, 0, none⟩ = some (.slice A0_0 l0_0.length c0_0) ∧ w12.cell? ⟨gb448, 1, none⟩ = some (.slice A0_1 l0_1.length c0_1) ∧ w12.cell? ⟨gb448, 2, none⟩ = some (.slice A0_2 l0_2.length c0_2) := hS_
                   refine norm_ (a' := ?_) ?_ ?_
                   rotate_left
                   · simp only [putAll, Act.put, la, lb, lc]
                     rfl
                   refine one_ (i := 0) (N := some 3) bx17 rfl rfl (one_of HT_.out kr) (by decide) (fun K hK => ?_)
                   refine Kd.R_lit_step (Kd.int .i64) _ 3 ?hg (N := 3) ?hd (xs := ([] : List Int)) (inner := []) (ok := fun _ => True) (okp := fun _ => True) ?hr ?hp (fun _ hk => hk) trivial (Below.refl _ _) (Nat.le_refl _) (by simp) ?_; (case hd => rfl); (case hg => rfl); (case hr => first | (go_simp; done) | (go_simp; rfl)); (case hp => exact (Reps.none _ _))
                   intro v451 w13 ho14 hb hg_ hnew_
                   clear hg_ hnew_
                   (first | rw [← Ny450.out] at ho14 | (simp only [Int.reduceToNat] at ho14; rw [← Ny450.out] at ho14))
                   have HO452 := am (Kd.R_lower (Kd.R_new' (Kd.R_new' ho14 (Kd.R_lt u9_6)) (Kd.R_lt u9_5)) (below_size Q0))
                   replace HO458 := am (Kd.R_elder' u9_6 (Kd.R_base ho14) hb)
                   replace HO464 := am (Kd.R_elder' u9_5 (Kd.R_base ho14) hb)
                   replace BK448 := am (blk_below (g := gb448) (o := .cells #[.slice A0_0 l0_0.length c0_0, .slice A0_1 l0_1.length c0_1, .slice A0_2 l0_2.length c0_2] 26 (0, 0)) u9_1 hb)
                   replace BK449 := am (blk_below (g := gb449) (o := .cells #[.slice none 0 0, .slice none 0 0, .slice none 0 0] 26 (0, 0)) u9_2 hb)
                   replace HB := am (below_step Q0 hb)
                   clear hb ho14
                   refine hK.out _ _ ⟨(blk_cell BK448.out 0).trans rfl, (blk_cell BK448.out 1).trans rfl, (blk_cell BK448.out 2).trans rfl⟩ (fun hHeld => ?_)
                   clear hK K
                   refine norm_ (a' := ?_) ?_ ?_
                   rotate_left
                   · show Act.put _ (some 3) _ = _
                     simp only [Act.put, la, lb, lc, i64_w, i32_w]
                     rfl
                   exact norm_ u9_3 (hJ0_4_8 (v451, v457, v463) _ ⟨hHeld, (by (with_reducible repeat (first | apply Kd.R_alloc | apply Kd.R_drewN | apply Kd.R_drew)); exact Kd.R_mono HO452.out (fun _ hk => ⟨hk.1.2, hk.2⟩)), u9_14, u9_15, u9_1, u9_2, Q0⟩)
                 skip
                 rintro ⟨v451, v463⟩ w12 ⟨hS_, h0_, h1_, h2_, h3_, h4_⟩
                 have n0_ : Aside0 (Kd.R (Kd.int .i64) 3 w12 w.heap.size (fun k_ => some k_ ≠ (v463 : Value).ownBlock) v451 y450) := ⟨h0_⟩
                 have n1_ : Aside0 (Kd.R (Kd.int .i64) 3 w12 w.heap.size (fun k_ => some k_ ≠ (v451 : Value).ownBlock) v463 y462) := ⟨h1_⟩
                 have n2_ : Aside0 (w12.heap[gb448]? = some (.cells #[.slice A0_0 l0_0.length c0_0, .slice A0_1 l0_1.length c0_1, .slice A0_2 l0_2.length c0_2] 26 (0, 0))) := ⟨h2_⟩
                 have n3_ : Aside0 (w12.heap[gb449]? = some (.cells #[.slice none 0 0, .slice none 0 0, .slice none 0 0] 26 (0, 0))) := ⟨h3_⟩
                 have n4_ : Aside0 (Below w.heap.size w w12) := ⟨h4_⟩
                 clear BK448
                 clear BK449
                 clear HB
                 clear h0_ h1_ h2_ h3_ h4_
                 have HO452 := n0_
                 have HO464 := n1_
                 have BK448 := n2_
                 have BK449 := n3_
                 have HB := n4_
                 clear n0_ n1_ n2_ n3_ n4_
                 have hHeld : w12.cell? ⟨gb448, 0, none⟩ = some (.slice A0_0 l0_0.length c0_0) ∧ w12.cell? ⟨gb448, 1, none⟩ = some (.slice A0_1 l0_1.length c0_1) ∧ w12.cell? ⟨gb448, 2, none⟩ = some (.slice A0_2 l0_2.length c0_2) := hS_
                 refine norm_ (a' := ?_) ?_ ?_
                 rotate_left
                 · simp only [putAll, Act.put, la, lb, lc]
                   rfl
                 refine two_ (i := 3) (j := 4) (Ni := some 6) (Nj := some 7) bx16 bx17 rfl rfl rfl rfl (two_of HT_.out kr) (by decide) (by decide) (fun K hK => ?_) (fun K hK => ?_)
                 · skip
                   refine Kd.R_append_rows_step (Kd.int .i64) (w0 := w) w.heap.size (by rfl) (.tmp 3) (.tmp 5) 24 3 (.int .i64 0) 8 rfl Try.underlying24 info3 rfl (by decide) (by omega) v451 y450 l0_0 _ _ _ (fun k_ => some k_ ≠ (v463 : Value).ownBlock) (fun _ => False) rfl rfl ?aO ?aR (fun _ _ h => h) (fun _ h => h.elim) ?aF ?aB ?aS ?aL ?_
                   (case aR => repeat (first | exact (Kd.C_below HR0_0.out HB.out) | (with_reducible refine Kd.C_alloc ?_ _) | (with_reducible refine Kd.C_drewN ?_ _) | (with_reducible refine Kd.C_drew ?_)))
                   (case aB => exact Q0)
                   (case aF => exact (fun k_ hk => Kd.fresh' (Kd.R_lt u9_5) k_ hk))
                   (case aO => exact u9_7)
                   (case aS => exact (below_size Q0))
                   (case aL => have := LMc2.out; omega)
                   intro v454 w13 ho hb hg hat
                   rw [← Ny453.out] at ho
                   replace BK448 := am (blk_grown (g := gb448) (o := .cells #[.slice A0_0 l0_0.length c0_0, .slice A0_1 l0_1.length c0_1, .slice A0_2 l0_2.length c0_2] 26 (0, 0)) u9_1 hg (Kd.R_ne HO452.out BK448.out (by decide)))
                   replace BK449 := am (blk_grown (g := gb449) (o := .cells #[.slice none 0 0, .slice none 0 0, .slice none 0 0] 26 (0, 0)) u9_2 hg (Kd.R_ne HO452.out BK449.out (by decide)))
                   replace HO464 := am (Kd.R_after (ok := (fun _ => True)) (by (with_reducible repeat (first | apply Kd.R_alloc | apply Kd.R_drewN | apply Kd.R_drew)); exact Kd.R_mono HO464.out (fun _ hk => ⟨trivial, hk⟩)) hg hat)
                   replace HB := am (hb)
                   have HO455 := am (ho)
                   clear HO452
                   clear ho hb hg hat
                   refine hK.out _ _ ⟨(blk_cell BK448.out 0).trans rfl, (blk_cell BK448.out 1).trans rfl, (blk_cell BK448.out 2).trans rfl⟩ (fun hHeld => ?_)
                   clear hK K
                   refine norm_ (a' := ?_) ?_ ?_
                   rotate_left
                   · show Act.put _ (some 6) _ = _
                     simp only [Act.put, la, lb, lc, i64_w, i32_w]
                     rfl
                   exact norm_ u9_3 (hJ0_3_8 (v451, v454, v463) _ ⟨hHeld, u9_4, u9_8, u9_1, u9_2, Q0⟩)
                 skip
                 refine Kd.R_lit_step (Kd.int .i64) _ 3 ?hg (N := 7) ?hd (xs := ([] : List Int)) (inner := []) (ok := fun _ => True) (okp := fun _ => True) ?hr ?hp (fun _ hk => hk) trivial (Below.refl _ _) (Nat.le_refl _) (by simp) ?_; (case hd => rfl); (case hg => rfl); (case hr => first | (go_simp; done) | (go_simp; rfl)); (case hp => exact (Reps.none _ _))
                 intro v457 w13 ho14 hb hg_ hnew_
                 clear hg_ hnew_
                 (first | rw [← Ny456.out] at ho14 | (simp only [Int.reduceToNat] at ho14; rw [← Ny456.out] at ho14))
                 have HO458 := am (Kd.R_lower (Kd.R_new' (Kd.R_new' ho14 (Kd.R_lt u9_7)) (Kd.R_lt u9_5)) (below_size Q0))
                 replace HO452 := am (Kd.R_elder' u9_7 (Kd.R_base ho14) hb)
                 replace HO464 := am (Kd.R_elder' u9_5 (Kd.R_base ho14) hb)
                 replace BK448 := am (blk_below (g := gb448) (o := .cells #[.slice A0_0 l0_0.length c0_0, .slice A0_1 l0_1.length c0_1, .slice A0_2 l0_2.length c0_2] 26 (0, 0)) u9_1 hb)
                 replace BK449 := am (blk_below (g := gb449) (o := .cells #[.slice none 0 0, .slice none 0 0, .slice none 0 0] 26 (0, 0)) u9_2 hb)
                 replace HB := am (below_step Q0 hb)
                 clear hb ho14
                 refine hK.out _ _ ⟨(blk_cell BK448.out 0).trans rfl, (blk_cell BK448.out 1).trans rfl, (blk_cell BK448.out 2).trans rfl⟩ (fun hHeld => ?_)
                 clear hK K
                 refine norm_ (a' := ?_) ?_ ?_
                 rotate_left
                 · show Act.put _ (some 7) _ = _
                   simp only [Act.put, la, lb, lc, i64_w, i32_w]
                   rfl
                 exact norm_ u9_3 (hJ0_4_8 (v451, v457, v463) _ ⟨hHeld, (by (with_reducible repeat (first | apply Kd.R_alloc | apply Kd.R_drewN | apply Kd.R_drew)); exact Kd.R_mono HO452.out (fun _ hk => ⟨hk.2, hk.1⟩)), u9_19, u9_5, u9_1, u9_2, Q0⟩)
               skip
               rintro ⟨v451, v457⟩ w12 ⟨hS_, h0_, h1_, h2_, h3_, h4_⟩
               have n0_ : Aside0 (Kd.R (Kd.int .i64) 3 w12 w.heap.size (fun k_ => some k_ ≠ (v457 : Value).ownBlock) v451 y450) := ⟨h0_⟩
               have n1_ : Aside0 (Kd.R (Kd.int .i64) 3 w12 w.heap.size (fun k_ => some k_ ≠ (v451 : Value).ownBlock) v457 y456) := ⟨h1_⟩
               have n2_ : Aside0 (w12.heap[gb448]? = some (.cells #[.slice A0_0 l0_0.length c0_0, .slice A0_1 l0_1.length c0_1, .slice A0_2 l0_2.length c0_2] 26 (0, 0))) := ⟨h2_⟩
               have n3_ : Aside0 (w12.heap[gb449]? = some (.cells #[.slice none 0 0, .slice none 0 0, .slice none 0 0] 26 (0, 0))) := ⟨h3_⟩
               have n4_ : Aside0 (Below w.heap.size w w12) := ⟨h4_⟩
               clear BK448
               clear BK449
               clear HB
               clear h0_ h1_ h2_ h3_ h4_
               have HO452 := n0_
               have HO458 := n1_
               have BK448 := n2_
               have BK449 := n3_
               have HB := n4_
               clear n0_ n1_ n2_ n3_ n4_
               have hHeld : w12.cell? ⟨gb448, 0, none⟩ = some (.slice A0_0 l0_0.length c0_0) ∧ w12.cell? ⟨gb448, 1, none⟩ = some (.slice A0_1 l0_1.length c0_1) ∧ w12.cell? ⟨gb448, 2, none⟩ = some (.slice A0_2 l0_2.length c0_2) := hS_
               refine norm_ (a' := ?_) ?_ ?_
               rotate_left
               · simp only [putAll, Act.put, la, lb, lc]
                 rfl
               refine two_ (i := 3) (j := 8) (Ni := some 6) (Nj := some 11) bx15 bx17 rfl rfl rfl rfl (two_of HT_.out kr) (by decide) (by decide) (fun K hK => ?_) (fun K hK => ?_)
               · skip
                 refine Kd.R_append_rows_step (Kd.int .i64) (w0 := w) w.heap.size (by rfl) (.tmp 3) (.tmp 5) 24 3 (.int .i64 0) 8 rfl Try.underlying24 info3 rfl (by decide) (by omega) v451 y450 l0_0 _ _ _ (fun k_ => some k_ ≠ (v457 : Value).ownBlock) (fun _ => False) rfl rfl ?aO ?aR (fun _ _ h => h) (fun _ h => h.elim) ?aF ?aB ?aS ?aL ?_
                 (case aR => repeat (first | exact (Kd.C_below HR0_0.out HB.out) | (with_reducible refine Kd.C_alloc ?_ _) | (with_reducible refine Kd.C_drewN ?_ _) | (with_reducible refine Kd.C_drew ?_)))
                 (case aB => exact Q0)
                 (case aF => exact (fun k_ hk => Kd.fresh' (Kd.R_lt u9_6) k_ hk))
                 (case aO => exact u9_7)
                 (case aS => exact (below_size Q0))
                 (case aL => have := LMc2.out; omega)
                 intro v454 w13 ho hb hg hat
                 rw [← Ny453.out] at ho
                 replace BK448 := am (blk_grown (g := gb448) (o := .cells #[.slice A0_0 l0_0.length c0_0, .slice A0_1 l0_1.length c0_1, .slice A0_2 l0_2.length c0_2] 26 (0, 0)) u9_1 hg (Kd.R_ne HO452.out BK448.out (by decide)))
                 replace BK449 := am (blk_grown (g := gb449) (o := .cells #[.slice none 0 0, .slice none 0 0, .slice none 0 0] 26 (0, 0)) u9_2 hg (Kd.R_ne HO452.out BK449.out (by decide)))
                 replace HO458 := am (Kd.R_after (ok := (fun _ => True)) (by (with_reducible repeat (first | apply Kd.R_alloc | apply Kd.R_drewN | apply Kd.R_drew)); exact Kd.R_mono HO458.out (fun _ hk => ⟨trivial, hk⟩)) hg hat)
                 replace HB := am (hb)
                 have HO455 := am (ho)
                 clear HO452
                 clear ho hb hg hat
                 refine hK.out _ _ ⟨(blk_cell BK448.out 0).trans rfl, (blk_cell BK448.out 1).trans rfl, (blk_cell BK448.out 2).trans rfl⟩ (fun hHeld => ?_)
                 clear hK K
                 refine norm_ (a' := ?_) ?_ ?_
                 rotate_left
                 · show Act.put _ (some 6) _ = _
                   simp only [Act.put, la, lb, lc, i64_w, i32_w]
                   rfl
                 exact norm_ u9_3 (hJ0_3_4 (v451, v454, v457) _ ⟨hHeld, u9_4, u9_9, u9_1, u9_2, Q0⟩)
               skip
               refine Kd.R_lit_step (Kd.int .i64) _ 3 ?hg (N := 11) ?hd (xs := ([] : List Int)) (inner := []) (ok := fun _ => True) (okp := fun _ => True) ?hr ?hp (fun _ hk => hk) trivial (Below.refl _ _) (Nat.le_refl _) (by simp) ?_; (case hd => rfl); (case hg => rfl); (case hr => first | (go_simp; done) | (go_simp; rfl)); (case hp => exact (Reps.none _ _))
               intro v463 w13 ho14 hb hg_ hnew_
               clear hg_ hnew_
               (first | rw [← Ny462.out] at ho14 | (simp only [Int.reduceToNat] at ho14; rw [← Ny462.out] at ho14))
               have HO464 := am (Kd.R_lower (Kd.R_new' (Kd.R_new' ho14 (Kd.R_lt u9_7)) (Kd.R_lt u9_6)) (below_size Q0))
               replace HO452 := am (Kd.R_elder' u9_7 (Kd.R_base ho14) hb)
               replace HO458 := am (Kd.R_elder' u9_6 (Kd.R_base ho14) hb)
               replace BK448 := am (blk_below (g := gb448) (o := .cells #[.slice A0_0 l0_0.length c0_0, .slice A0_1 l0_1.length c0_1, .slice A0_2 l0_2.length c0_2] 26 (0, 0)) u9_1 hb)
               replace BK449 := am (blk_below (g := gb449) (o := .cells #[.slice none 0 0, .slice none 0 0, .slice none 0 0] 26 (0, 0)) u9_2 hb)
               replace HB := am (below_step Q0 hb)
               clear hb ho14
               refine hK.out _ _ ⟨(blk_cell BK448.out 0).trans rfl, (blk_cell BK448.out 1).trans rfl, (blk_cell BK448.out 2).trans rfl⟩ (fun hHeld => ?_)
               clear hK K
               refine norm_ (a' := ?_) ?_ ?_
               rotate_left
               · show Act.put _ (some 11) _ = _
                 simp only [Act.put, la, lb, lc, i64_w, i32_w]
                 rfl
               exact norm_ u9_3 (hJ0_4_8 (v451, v457, v463) _ ⟨hHeld, u9_7, u9_6, u9_13, u9_1, u9_2, Q0⟩)
             skip
             rintro ⟨v451, v454⟩ w11 ⟨hS_, h0_, h1_, h2_, h3_⟩
             have n0_ : Aside0 (Kd.R (Kd.int .i64) 3 w11 w.heap.size (fun _ => True) v454 y453) := ⟨h0_⟩
             have n1_ : Aside0 (w11.heap[gb448]? = some (.cells #[.slice A0_0 l0_0.length c0_0, .slice A0_1 l0_1.length c0_1, .slice A0_2 l0_2.length c0_2] 26 (0, 0))) := ⟨h1_⟩
             have n2_ : Aside0 (w11.heap[gb449]? = some (.cells #[.slice none 0 0, .slice none 0 0, .slice none 0 0] 26 (0, 0))) := ⟨h2_⟩
             have n3_ : Aside0 (Below w.heap.size w w11) := ⟨h3_⟩
             clear BK448
             clear BK449
             clear HB
             clear h0_ h1_ h2_ h3_
             have HO455 := n0_
             have BK448 := n1_
             have BK449 := n2_
             have HB := n3_
             clear n0_ n1_ n2_ n3_
             have hHeld : w11.cell? ⟨gb448, 0, none⟩ = some (.slice A0_0 l0_0.length c0_0) ∧ w11.cell? ⟨gb448, 1, none⟩ = some (.slice A0_1 l0_1.length c0_1) ∧ w11.cell? ⟨gb448, 2, none⟩ = some (.slice A0_2 l0_2.length c0_2) := hS_
             refine norm_ (a' := ?_) ?_ ?_
             rotate_left
             · simp only [putAll, Act.put, la, lb, lc]
               rfl
             refine two_ (i := 4) (j := 8) (Ni := some 7) (Nj := some 11) bx15 bx16 rfl rfl rfl rfl (two_of HT_.out kr) (by decide) (by decide) (fun K hK => ?_) (fun K hK => ?_)
             · skip
               refine Kd.R_lit_step (Kd.int .i64) _ 3 ?hg (N := 7) ?hd (xs := ([] : List Int)) (inner := []) (ok := fun _ => True) (okp := fun _ => True) ?hr ?hp (fun _ hk => hk) trivial (Below.refl _ _) (Nat.le_refl _) (by simp) ?_; (case hd => rfl); (case hg => rfl); (case hr => first | (go_simp; done) | (go_simp; rfl)); (case hp => exact (Reps.none _ _))
               intro v457 w12 ho13 hb hg_ hnew_
               clear hg_ hnew_
               (first | rw [← Ny456.out] at ho13 | (simp only [Int.reduceToNat] at ho13; rw [← Ny456.out] at ho13))
               have HO458 := am (Kd.R_lower (Kd.R_new' ho13 (Kd.R_lt u9_4)) (below_size Q0))
               replace HO455 := am (Kd.R_elder' u9_4 (Kd.R_base ho13) hb)
               replace BK448 := am (blk_below (g := gb448) (o := .cells #[.slice A0_0 l0_0.length c0_0, .slice A0_1 l0_1.length c0_1, .slice A0_2 l0_2.length c0_2] 26 (0, 0)) u9_1 hb)
               replace BK449 := am (blk_below (g := gb449) (o := .cells #[.slice none 0 0, .slice none 0 0, .slice none 0 0] 26 (0, 0)) u9_2 hb)
               replace HB := am (below_step Q0 hb)
               clear hb ho13
               refine hK.out _ _ ⟨(blk_cell BK448.out 0).trans rfl, (blk_cell BK448.out 1).trans rfl, (blk_cell BK448.out 2).trans rfl⟩ (fun hHeld => ?_)
               clear hK K
               refine norm_ (a' := ?_) ?_ ?_
               rotate_left
               · show Act.put _ (some 7) _ = _
                 simp only [Act.put, la, lb, lc, i64_w, i32_w]
                 rfl
               exact norm_ u9_3 (hJ0_3_4 (v451, v454, v457) _ ⟨hHeld, u9_17, u9_9, u9_1, u9_2, Q0⟩)
             skip
             refine Kd.R_lit_step (Kd.int .i64) _ 3 ?hg (N := 11) ?hd (xs := ([] : List Int)) (inner := []) (ok := fun _ => True) (okp := fun _ => True) ?hr ?hp (fun _ hk => hk) trivial (Below.refl _ _) (Nat.le_refl _) (by simp) ?_; (case hd => rfl); (case hg => rfl); (case hr => first | (go_simp; done) | (go_simp; rfl)); (case hp => exact (Reps.none _ _))
             intro v463 w12 ho13 hb hg_ hnew_
             clear hg_ hnew_
             (first | rw [← Ny462.out] at ho13 | (simp only [Int.reduceToNat] at ho13; rw [← Ny462.out] at ho13))
             have HO464 := am (Kd.R_lower (Kd.R_new' ho13 (Kd.R_lt u9_4)) (below_size Q0))
             replace HO455 := am (Kd.R_elder' u9_4 (Kd.R_base ho13) hb)
             replace BK448 := am (blk_below (g := gb448) (o := .cells #[.slice A0_0 l0_0.length c0_0, .slice A0_1 l0_1.length c0_1, .slice A0_2 l0_2.length c0_2] 26 (0, 0)) u9_1 hb)
             replace BK449 := am (blk_below (g := gb449) (o := .cells #[.slice none 0 0, .slice none 0 0, .slice none 0 0] 26 (0, 0)) u9_2 hb)
             replace HB := am (below_step Q0 hb)
             clear hb ho13
             refine hK.out _ _ ⟨(blk_cell BK448.out 0).trans rfl, (blk_cell BK448.out 1).trans rfl, (blk_cell BK448.out 2).trans rfl⟩ (fun hHeld => ?_)
             clear hK K
             refine norm_ (a' := ?_) ?_ ?_
             rotate_left
             · show Act.put _ (some 11) _ = _
               simp only [Act.put, la, lb, lc, i64_w, i32_w]
               rfl
             exact norm_ u9_3 (hJ0_3_8 (v451, v454, v463) _ ⟨hHeld, u9_17, u9_8, u9_1, u9_2, Q0⟩)
           skip
           rintro ⟨v451, v457, v463⟩ w14 ⟨hS_, h0_, h1_, h2_, h3_, h4_, h5_⟩
           have n0_ : Aside0 (Kd.R (Kd.int .i64) 3 w14 w.heap.size (fun k_ => some k_ ≠ (v457 : Value).ownBlock ∧ some k_ ≠ (v463 : Value).ownBlock) v451 y450) := ⟨h0_⟩
           have n1_ : Aside0 (Kd.R (Kd.int .i64) 3 w14 w.heap.size (fun k_ => some k_ ≠ (v451 : Value).ownBlock ∧ some k_ ≠ (v463 : Value).ownBlock) v457 y456) := ⟨h1_⟩
           have n2_ : Aside0 (Kd.R (Kd.int .i64) 3 w14 w.heap.size (fun k_ => some k_ ≠ (v451 : Value).ownBlock ∧ some k_ ≠ (v457 : Value).ownBlock) v463 y462) := ⟨h2_⟩
           have n3_ : Aside0 (w14.heap[gb448]? = some (.cells #[.slice A0_0 l0_0.length c0_0, .slice A0_1 l0_1.length c0_1, .slice A0_2 l0_2.length c0_2] 26 (0, 0))) := ⟨h3_⟩
           have n4_ : Aside0 (w14.heap[gb449]? = some (.cells #[.slice none 0 0, .slice none 0 0, .slice none 0 0] 26 (0, 0))) := ⟨h4_⟩
           have n5_ : Aside0 (Below w.heap.size w w14) := ⟨h5_⟩
           clear BK448
           clear BK449
           clear HB
           clear h0_ h1_ h2_ h3_ h4_ h5_
           have HO452 := n0_
           have HO458 := n1_
           have HO464 := n2_
           have BK448 := n3_
           have BK449 := n4_
           have HB := n5_
           clear n0_ n1_ n2_ n3_ n4_ n5_
           have hHeld : w14.cell? ⟨gb448, 0, none⟩ = some (.slice A0_0 l0_0.length c0_0) ∧ w14.cell? ⟨gb448, 1, none⟩ = some (.slice A0_1 l0_1.length c0_1) ∧ w14.cell? ⟨gb448, 2, none⟩ = some (.slice A0_2 l0_2.length c0_2) := hS_
           refine norm_ (a' := ?_) ?_ ?_
           rotate_left
           · simp only [putAll, Act.put, la, lb, lc]
             rfl
           refine one_ (i := 3) (N := some 6) bx14 rfl rfl (one_of HT_.out kr) (by decide) (fun K hK => ?_)
           refine Kd.R_append_rows_step (Kd.int .i64) (w0 := w) w.heap.size (by rfl) (.tmp 3) (.tmp 5) 24 3 (.int .i64 0) 8 rfl Try.underlying24 info3 rfl (by decide) (by omega) v451 y450 l0_0 _ _ _ (fun k_ => some k_ ≠ (v457 : Value).ownBlock ∧ some k_ ≠ (v463 : Value).ownBlock) (fun _ => False) rfl rfl ?aO ?aR (fun _ _ h => h) (fun _ h => h.elim) ?aF ?aB ?aS ?aL ?_
           (case aR => repeat (first | exact (Kd.C_below HR0_0.out HB.out) | (with_reducible refine Kd.C_alloc ?_ _) | (with_reducible refine Kd.C_drewN ?_ _) | (with_reducible refine Kd.C_drew ?_)))
           (case aB => exact Q0)
           (case aF => exact (fun k_ hk => ⟨Kd.fresh' (Kd.R_lt u9_6) k_ hk, Kd.fresh' (Kd.R_lt u9_5) k_ hk⟩))
           (case aO => exact u9_7)
           (case aS => exact (below_size Q0))
           (case aL => have := LMc2.out; omega)
           intro v454 w15 ho hb hg hat
           rw [← Ny453.out] at ho
           replace BK448 := am (blk_grown (g := gb448) (o := .cells #[.slice A0_0 l0_0.length c0_0, .slice A0_1 l0_1.length c0_1, .slice A0_2 l0_2.length c0_2] 26 (0, 0)) u9_1 hg (Kd.R_ne HO452.out BK448.out (by decide)))
           replace BK449 := am (blk_grown (g := gb449) (o := .cells #[.slice none 0 0, .slice none 0 0, .slice none 0 0] 26 (0, 0)) u9_2 hg (Kd.R_ne HO452.out BK449.out (by decide)))
           replace HO458 := am (Kd.R_after (ok := (fun k_ => some k_ ≠ (v463 : Value).ownBlock)) u9_14 hg hat)
           replace HO464 := am (Kd.R_after (ok := (fun k_ => some k_ ≠ (v457 : Value).ownBlock)) u9_15 hg hat)
           replace HB := am (hb)
           have HO455 := am (ho)
           clear HO452
           clear ho hb hg hat
           refine hK.out _ _ ⟨(blk_cell BK448.out 0).trans rfl, (blk_cell BK448.out 1).trans rfl, (blk_cell BK448.out 2).trans rfl⟩ (fun hHeld => ?_)
           clear hK K
           refine norm_ (a' := ?_) ?_ ?_
           rotate_left
           · show Act.put _ (some 6) _ = _
             simp only [Act.put, la, lb, lc, i64_w, i32_w]
             rfl
           exact norm_ u9_3 (hJ0_3_4_8 (v451, v454, v457, v463) _ ⟨hHeld, u9_4, u9_14, u9_15, u9_1, u9_2, Q0⟩)
         skip
         rintro ⟨v451, v454, v463⟩ w13 ⟨hS_, h0_, h1_, h2_, h3_, h4_⟩
         have n0_ : Aside0 (Kd.R (Kd.int .i64) 3 w13 w.heap.size (fun k_ => some k_ ≠ (v463 : Value).ownBlock) v454 y453) := ⟨h0_⟩
         have n1_ : Aside0 (Kd.R (Kd.int .i64) 3 w13 w.heap.size (fun k_ => some k_ ≠ (v454 : Value).ownBlock) v463 y462) := ⟨h1_⟩
         have n2_ : Aside0 (w13.heap[gb448]? = some (.cells #[.slice A0_0 l0_0.length c0_0, .slice A0_1 l0_1.length c0_1, .slice A0_2 l0_2.length c0_2] 26 (0, 0))) := ⟨h2_⟩
         have n3_ : Aside0 (w13.heap[gb449]? = some (.cells #[.slice none 0 0, .slice none 0 0, .slice none 0 0] 26 (0, 0))) := ⟨h3_⟩
         have n4_ : Aside0 (Below w.heap.size w w13) := ⟨h4_⟩
         clear BK448
         clear BK449
         clear HB
         clear h0_ h1_ h2_ h3_ h4_
         have HO455 := n0_
         have HO464 := n1_
         have BK448 := n2_
         have BK449 := n3_
         have HB := n4_
         clear n0_ n1_ n2_ n3_ n4_
         have hHeld : w13.cell? ⟨gb448, 0, none⟩ = some (.slice A0_0 l0_0.length c0_0) ∧ w13.cell? ⟨gb448, 1, none⟩ = some (.slice A0_1 l0_1.length c0_1) ∧ w13.cell? ⟨gb448, 2, none⟩ = some (.slice A0_2 l0_2.length c0_2) := hS_
         refine norm_ (a' := ?_) ?_ ?_
         rotate_left
         · simp only [putAll, Act.put, la, lb, lc]
           rfl
         refine one_ (i := 4) (N := some 7) bx14 rfl rfl (one_of HT_.out kr) (by decide) (fun K hK => ?_)
         refine Kd.R_lit_step (Kd.int .i64) _ 3 ?hg (N := 7) ?hd (xs := ([] : List Int)) (inner := []) (ok := fun _ => True) (okp := fun _ => True) ?hr ?hp (fun _ hk => hk) trivial (Below.refl _ _) (Nat.le_refl _) (by simp) ?_; (case hd => rfl); (case hg => rfl); (case hr => first | (go_simp; done) | (go_simp; rfl)); (case hp => exact (Reps.none _ _))
         intro v457 w14 ho15 hb hg_ hnew_
         clear hg_ hnew_
         (first | rw [← Ny456.out] at ho15 | (simp only [Int.reduceToNat] at ho15; rw [← Ny456.out] at ho15))
         have HO458 := am (Kd.R_lower (Kd.R_new' (Kd.R_new' ho15 (Kd.R_lt u9_4)) (Kd.R_lt u9_5)) (below_size Q0))
         replace HO455 := am (Kd.R_elder' u9_4 (Kd.R_base ho15) hb)
         replace HO464 := am (Kd.R_elder' u9_5 (Kd.R_base ho15) hb)
         replace BK448 := am (blk_below (g := gb448) (o := .cells #[.slice A0_0 l0_0.length c0_0, .slice A0_1 l0_1.length c0_1, .slice A0_2 l0_2.length c0_2] 26 (0, 0)) u9_1 hb)
         replace BK449 := am (blk_below (g := gb449) (o := .cells #[.slice none 0 0, .slice none 0 0, .slice none 0 0] 26 (0, 0)) u9_2 hb)
         replace HB := am (below_step Q0 hb)
         clear hb ho15
         refine hK.out _ _ ⟨(blk_cell BK448.out 0).trans rfl, (blk_cell BK448.out 1).trans rfl, (blk_cell BK448.out 2).trans rfl⟩ (fun hHeld => ?_)
         clear hK K
         refine norm_ (a' := ?_) ?_ ?_
         rotate_left
         · show Act.put _ (some 7) _ = _
           simp only [Act.put, la, lb, lc, i64_w, i32_w]
           rfl
         exact norm_ u9_3 (hJ0_3_4_8 (v451, v454, v457, v463) _ ⟨hHeld, u9_16, u9_19, u9_5, u9_1, u9_2, Q0⟩)
       skip
       rintro ⟨v451, v454, v457⟩ w13 ⟨hS_, h0_, h1_, h2_, h3_, h4_⟩
       have n0_ : Aside0 (Kd.R (Kd.int .i64) 3 w13 w.heap.size (fun k_ => some k_ ≠ (v457 : Value).ownBlock) v454 y453) := ⟨h0_⟩
       have n1_ : Aside0 (Kd.R (Kd.int .i64) 3 w13 w.heap.size (fun k_ => some k_ ≠ (v454 : Value).ownBlock) v457 y456) := ⟨h1_⟩
       have n2_ : Aside0 (w13.heap[gb448]? = some (.cells #[.slice A0_0 l0_0.length c0_0, .slice A0_1 l0_1.length c0_1, .slice A0_2 l0_2.length c0_2] 26 (0, 0))) := ⟨h2_⟩
       have n3_ : Aside0 (w13.heap[gb449]? = some (.cells #[.slice none 0 0, .slice none 0 0, .slice none 0 0] 26 (0, 0))) := ⟨h3_⟩
       have n4_ : Aside0 (Below w.heap.size w w13) := ⟨h4_⟩
       clear BK448
       clear BK449
       clear HB
       clear h0_ h1_ h2_ h3_ h4_
       have HO455 := n0_
       have HO458 := n1_
       have BK448 := n2_
       have BK449 := n3_
       have HB := n4_
       clear n0_ n1_ n2_ n3_ n4_
       have hHeld : w13.cell? ⟨gb448, 0, none⟩ = some (.slice A0_0 l0_0.length c0_0) ∧ w13.cell? ⟨gb448, 1, none⟩ = some (.slice A0_1 l0_1.length c0_1) ∧ w13.cell? ⟨gb448, 2, none⟩ = some (.slice A0_2 l0_2.length c0_2) := hS_
       refine norm_ (a' := ?_) ?_ ?_
       rotate_left
       · simp only [putAll, Act.put, la, lb, lc]
         rfl
       refine two_ (i := 7) (j := 8) (Ni := some 10) (Nj := some 11) #[true, true, true, true, true, true, true, true, false, true, true, false, false, false] bx14 rfl rfl rfl rfl (two_of HT_.out kr) (by decide) (by decide) (fun K hK => ?_) (fun K hK => ?_)
       · skip
         refine Kd.R_append_rows_step (Kd.int .i64) (w0 := w) w.heap.size (by rfl) (.tmp 7) (.tmp 9) 24 3 (.int .i64 0) 8 rfl Try.underlying24 info3 rfl (by decide) (by omega) v457 y456 l0_1 _ _ _ (fun k_ => some k_ ≠ (v454 : Value).ownBlock) (fun _ => False) rfl rfl ?aO ?aR (fun _ _ h => h) (fun _ h => h.elim) ?aF ?aB ?aS ?aL ?_
         (case aR => repeat (first | exact (Kd.C_below HR0_1.out HB.out) | (with_reducible refine Kd.C_alloc ?_ _) | (with_reducible refine Kd.C_drewN ?_ _) | (with_reducible refine Kd.C_drew ?_)))
         (case aB => exact Q0)
         (case aF => exact (fun k_ hk => Kd.fresh' (Kd.R_lt u9_4) k_ hk))
         (case aO => exact u9_6)
         (case aS => exact (below_size Q0))
         (case aL => have := LMc3.out; omega)
         intro v460 w14 ho hb hg hat
         rw [← Ny459.out] at ho
         replace BK448 := am (blk_grown (g := gb448) (o := .cells #[.slice A0_0 l0_0.length c0_0, .slice A0_1 l0_1.length c0_1, .slice A0_2 l0_2.length c0_2] 26 (0, 0)) u9_1 hg (Kd.R_ne HO458.out BK448.out (by decide)))
         replace BK449 := am (blk_grown (g := gb449) (o := .cells #[.slice none 0 0, .slice none 0 0, .slice none 0 0] 26 (0, 0)) u9_2 hg (Kd.R_ne HO458.out BK449.out (by decide)))
         replace HO455 := am (Kd.R_after (ok := (fun _ => True)) (by (with_reducible repeat (first | apply Kd.R_alloc | apply Kd.R_drewN | apply Kd.R_drew)); exact Kd.R_mono HO455.out (fun _ hk => ⟨trivial, hk⟩)) hg hat)
         replace HB := am (hb)
         have HO461 := am (ho)
         clear HO458
         clear ho hb hg hat
         refine hK.out _ _ ⟨(blk_cell BK448.out 0).trans rfl, (blk_cell BK448.out 1).trans rfl, (blk_cell BK448.out 2).trans rfl⟩ (fun hHeld => ?_)
         clear hK K
         refine norm_ (a' := ?_) ?_ ?_
         rotate_left
         · show Act.put _ (some 10) _ = _
           simp only [Act.put, la, lb, lc, i64_w, i32_w]
           rfl
         exact norm_ u9_3 (hJ0_3_4_7 (v451, v454, v457, v460) _ ⟨hHeld, u9_17, u9_10, u9_1, u9_2, Q0⟩)
       skip
       refine Kd.R_lit_step (Kd.int .i64) _ 3 ?hg (N := 11) ?hd (xs := ([] : List Int)) (inner := []) (ok := fun _ => True) (okp := fun _ => True) ?hr ?hp (fun _ hk => hk) trivial (Below.refl _ _) (Nat.le_refl _) (by simp) ?_; (case hd => rfl); (case hg => rfl); (case hr => first | (go_simp; done) | (go_simp; rfl)); (case hp => exact (Reps.none _ _))
       intro v463 w14 ho15 hb hg_ hnew_
       clear hg_ hnew_
       (first | rw [← Ny462.out] at ho15 | (simp only [Int.reduceToNat] at ho15; rw [← Ny462.out] at ho15))
       have HO464 := am (Kd.R_lower (Kd.R_new' (Kd.R_new' ho15 (Kd.R_lt u9_4)) (Kd.R_lt u9_6)) (below_size Q0))
       replace HO455 := am (Kd.R_elder' u9_4 (Kd.R_base ho15) hb)
       replace HO458 := am (Kd.R_elder' u9_6 (Kd.R_base ho15) hb)
       replace BK448 := am (blk_below (g := gb448) (o := .cells #[.slice A0_0 l0_0.length c0_0, .slice A0_1 l0_1.length c0_1, .slice A0_2 l0_2.length c0_2] 26 (0, 0)) u9_1 hb)
       replace BK449 := am (blk_below (g := gb449) (o := .cells #[.slice none 0 0, .slice none 0 0, .slice none 0 0] 26 (0, 0)) u9_2 hb)
       replace HB := am (below_step Q0 hb)
       clear hb ho15
       refine hK.out _ _ ⟨(blk_cell BK448.out 0).trans rfl, (blk_cell BK448.out 1).trans rfl, (blk_cell BK448.out 2).trans rfl⟩ (fun hHeld => ?_)
       clear hK K
       refine norm_ (a' := ?_) ?_ ?_
       rotate_left
       · show Act.put _ (some 11) _ = _
         simp only [Act.put, la, lb, lc, i64_w, i32_w]
         rfl
       exact norm_ u9_3 (hJ0_3_4_8 (v451, v454, v457, v463) _ ⟨hHeld, u9_4, u9_6, u9_13, u9_1, u9_2, Q0⟩)
     skip
     rintro ⟨v451, v454, v457, v463⟩ w15 ⟨hS_, h0_, h1_, h2_, h3_, h4_, h5_⟩
     have n0_ : Aside0 (Kd.R (Kd.int .i64) 3 w15 w.heap.size (fun k_ => some k_ ≠ (v457 : Value).ownBlock ∧ some k_ ≠ (v463 : Value).ownBlock) v454 y453) := ⟨h0_⟩
     have n1_ : Aside0 (Kd.R (Kd.int .i64) 3 w15 w.heap.size (fun k_ => some k_ ≠ (v454 : Value).ownBlock ∧ some k_ ≠ (v463 : Value).ownBlock) v457 y456) := ⟨h1_⟩
     have n2_ : Aside0 (Kd.R (Kd.int .i64) 3 w15 w.heap.size (fun k_ => some k_ ≠ (v454 : Value).ownBlock ∧ some k_ ≠ (v457 : Value).ownBlock) v463 y462) := ⟨h2_⟩
     have n3_ : Aside0 (w15.heap[gb448]? = some (.cells #[.slice A0_0 l0_0.length c0_0, .slice A0_1 l0_1.length c0_1, .slice A0_2 l0_2.length c0_2] 26 (0, 0))) := ⟨h3_⟩
     have n4_ : Aside0 (w15.heap[gb449]? = some (.cells #[.slice none 0 0, .slice none 0 0, .slice none 0 0] 26 (0, 0))) := ⟨h4_⟩
     have n5_ : Aside0 (Below w.heap.size w w15) := ⟨h5_⟩
     clear BK448
     clear BK449
     clear HB
     clear h0_ h1_ h2_ h3_ h4_ h5_
     have HO455 := n0_
     have HO458 := n1_
     have HO464 := n2_
     have BK448 := n3_
     have BK449 := n4_
     have HB := n5_
     clear n0_ n1_ n2_ n3_ n4_ n5_
     have hHeld : w15.cell? ⟨gb448, 0, none⟩ = some (.slice A0_0 l0_0.length c0_0) ∧ w15.cell? ⟨gb448, 1, none⟩ = some (.slice A0_1 l0_1.length c0_1) ∧ w15.cell? ⟨gb448, 2, none⟩ = some (.slice A0_2 l0_2.length c0_2) := hS_
     refine norm_ (a' := ?_) ?_ ?_
     rotate_left
     · simp only [putAll, Act.put, la, lb, lc]
       rfl
     refine one_ (i := 7) (N := some 10) b11_14 rfl rfl (one_of HT_.out kr) (by decide) (fun K hK => ?_)
     refine Kd.R_append_rows_step (Kd.int .i64) (w0 := w) w.heap.size (by rfl) (.tmp 7) (.tmp 9) 24 3 (.int .i64 0) 8 rfl Try.underlying24 info3 rfl (by decide) (by omega) v457 y456 l0_1 _ _ _ (fun k_ => some k_ ≠ (v454 : Value).ownBlock ∧ some k_ ≠ (v463 : Value).ownBlock) (fun _ => False) rfl rfl ?aO ?aR (fun _ _ h => h) (fun _ h => h.elim) ?aF ?aB ?aS ?aL ?_
     (case aR => repeat (first | exact (Kd.C_below HR0_1.out HB.out) | (with_reducible refine Kd.C_alloc ?_ _) | (with_reducible refine Kd.C_drewN ?_ _) | (with_reducible refine Kd.C_drew ?_)))
     (case aB => exact Q0)
     (case aF => exact (fun k_ hk => ⟨Kd.fresh' (Kd.R_lt u9_4) k_ hk, Kd.fresh' (Kd.R_lt u9_5) k_ hk⟩))
     (case aO => exact u9_6)
     (case aS => exact (below_size Q0))
     (case aL => have := LMc3.out; omega)
     intro v460 w16 ho hb hg hat
     rw [← Ny459.out] at ho
     replace BK448 := am (blk_grown (g := gb448) (o := .cells #[.slice A0_0 l0_0.length c0_0, .slice A0_1 l0_1.length c0_1, .slice A0_2 l0_2.length c0_2] 26 (0, 0)) u9_1 hg (Kd.R_ne HO458.out BK448.out (by decide)))
     replace BK449 := am (blk_grown (g := gb449) (o := .cells #[.slice none 0 0, .slice none 0 0, .slice none 0 0] 26 (0, 0)) u9_2 hg (Kd.R_ne HO458.out BK449.out (by decide)))
     replace HO455 := am (Kd.R_after (ok := (fun k_ => some k_ ≠ (v463 : Value).ownBlock)) u9_16 hg hat)
     replace HO464 := am (Kd.R_after (ok := (fun k_ => some k_ ≠ (v454 : Value).ownBlock)) u9_5 hg hat)
     replace HB := am (hb)
     have HO461 := am (ho)
     clear HO458
     clear ho hb hg hat
     refine hK.out _ _ ⟨(blk_cell BK448.out 0).trans rfl, (blk_cell BK448.out 1).trans rfl, (blk_cell BK448.out 2).trans rfl⟩ (fun hHeld => ?_)
     clear hK K
     refine norm_ (a' := ?_) ?_ ?_
     rotate_left
     · show Act.put _ (some 10) _ = _
       simp only [Act.put, la, lb, lc, i64_w, i32_w]
       rfl
     exact norm_ u9_3 (hJ0_3_4_7_8 (v451, v454, v457, v460, v463) _ ⟨hHeld, u9_16, u9_10, u9_5, u9_1, u9_2, Q0⟩)
   skip
   rintro ⟨v451, v454, v457, v460⟩ w14 ⟨hS_, h0_, h1_, h2_, h3_, h4_⟩
   have n0_ : Aside0 (Kd.R (Kd.int .i64) 3 w14 w.heap.size (fun k_ => some k_ ≠ (v460 : Value).ownBlock) v454 y453) := ⟨h0_⟩
   have n1_ : Aside0 (Kd.R (Kd.int .i64) 3 w14 w.heap.size (fun k_ => some k_ ≠ (v454 : Value).ownBlock) v460 y459) := ⟨h1_⟩
   have n2_ : Aside0 (w14.heap[gb448]? = some (.cells #[.slice A0_0 l0_0.length c0_0, .slice A0_1 l0_1.length c0_1, .slice A0_2 l0_2.length c0_2] 26 (0, 0))) := ⟨h2_⟩
   have n3_ : Aside0 (w14.heap[gb449]? = some (.cells #[.slice none 0 0, .slice none 0 0, .slice none 0 0] 26 (0, 0))) := ⟨h3_⟩
   have n4_ : Aside0 (Below w.heap.size w w14) := ⟨h4_⟩
   clear BK448
   clear BK449
   clear HB
   clear h0_ h1_ h2_ h3_ h4_
   have HO455 := n0_
   have HO461 := n1_
   have BK448 := n2_
   have BK449 := n3_
   have HB := n4_
   clear n0_ n1_ n2_ n3_ n4_
   have hHeld : w14.cell? ⟨gb448, 0, none⟩ = some (.slice A0_0 l0_0.length c0_0) ∧ w14.cell? ⟨gb448, 1, none⟩ = some (.slice A0_1 l0_1.length c0_1) ∧ w14.cell? ⟨gb448, 2, none⟩ = some (.slice A0_2 l0_2.length c0_2) := hS_
   refine norm_ (a' := ?_) ?_ ?_
   rotate_left
   · simp only [putAll, Act.put, la, lb, lc]
     rfl
   refine one_ (i := 8) (N := some 11) b11_14 rfl rfl (one_of HT_.out kr) (by decide) (fun K hK => ?_)
   refine Kd.R_lit_step (Kd.int .i64) _ 3 ?hg (N := 11) ?hd (xs := ([] : List Int)) (inner := []) (ok := fun _ => True) (okp := fun _ => True) ?hr ?hp (fun _ hk => hk) trivial (Below.refl _ _) (Nat.le_refl _) (by simp) ?_; (case hd => rfl); (case hg => rfl); (case hr => first | (go_simp; done) | (go_simp; rfl)); (case hp => exact (Reps.none _ _))
   intro v463 w15 ho16 hb hg_ hnew_
   clear hg_ hnew_
   (first | rw [← Ny462.out] at ho16 | (simp only [Int.reduceToNat] at ho16; rw [← Ny462.out] at ho16))
   have HO464 := am (Kd.R_lower (Kd.R_new' (Kd.R_new' ho16 (Kd.R_lt u9_4)) (Kd.R_lt u9_10)) (below_size Q0))
   replace HO455 := am (Kd.R_elder' u9_4 (Kd.R_base ho16) hb)
   replace HO461 := am (Kd.R_elder' u9_10 (Kd.R_base ho16) hb)
   replace BK448 := am (blk_below (g := gb448) (o := .cells #[.slice A0_0 l0_0.length c0_0, .slice A0_1 l0_1.length c0_1, .slice A0_2 l0_2.length c0_2] 26 (0, 0)) u9_1 hb)
   replace BK449 := am (blk_below (g := gb449) (o := .cells #[.slice none 0 0, .slice none 0 0, .slice none 0 0] 26 (0, 0)) u9_2 hb)
   replace HB := am (below_step Q0 hb)
   clear hb ho16
   refine hK.out _ _ ⟨(blk_cell BK448.out 0).trans rfl, (blk_cell BK448.out 1).trans rfl, (blk_cell BK448.out 2).trans rfl⟩ (fun hHeld => ?_)
   clear hK K
   refine norm_ (a' := ?_) ?_ ?_
   rotate_left
   · show Act.put _ (some 11) _ = _
     simp only [Act.put, la, lb, lc, i64_w, i32_w]
     rfl
   exact norm_ u9_3 (hJ0_3_4_7_8 (v451, v454, v457, v460, v463) _ ⟨hHeld, u9_4, u9_10, u9_13, u9_1, u9_2, Q0⟩)
 rintro ⟨v451, v454, v457, v460, v463⟩ w16 ⟨hS_, h0_, h1_, h2_, h3_, h4_, h5_⟩
 have n0_ : Aside0 (Kd.R (Kd.int .i64) 3 w16 w.heap.size (fun k_ => some k_ ≠ (v460 : Value).ownBlock ∧ some k_ ≠ (v463 : Value).ownBlock) v454 y453) := ⟨h0_⟩
 have n1_ : Aside0 (Kd.R (Kd.int .i64) 3 w16 w.heap.size (fun k_ => some k_ ≠ (v454 : Value).ownBlock ∧ some k_ ≠ (v463 : Value).ownBlock) v460 y459) := ⟨h1_⟩
 have n2_ : Aside0 (Kd.R (Kd.int .i64) 3 w16 w.heap.size (fun k_ => some k_ ≠ (v454 : Value).ownBlock ∧ some k_ ≠ (v460 : Value).ownBlock) v463 y462) := ⟨h2_⟩
 have n3_ : Aside0 (w16.heap[gb448]? = some (.cells #[.slice A0_0 l0_0.length c0_0, .slice A0_1 l0_1.length c0_1, .slice A0_2 l0_2.length c0_2] 26 (0, 0))) := ⟨h3_⟩
 have n4_ : Aside0 (w16.heap[gb449]? = some (.cells #[.slice none 0 0, .slice none 0 0, .slice none 0 0] 26 (0, 0))) := ⟨h4_⟩
 have n5_ : Aside0 (Below w.heap.size w w16) := ⟨h5_⟩
 clear BK448
 clear BK449
 clear HB
 clear h0_ h1_ h2_ h3_ h4_ h5_
 have HO455 := n0_
 have HO461 := n1_
 have HO464 := n2_
 have BK448 := n3_
 have BK449 := n4_
 have HB := n5_
 clear n0_ n1_ n2_ n3_ n4_ n5_
 have hHeld : w16.cell? ⟨gb448, 0, none⟩ = some (.slice A0_0 l0_0.length c0_0) ∧ w16.cell? ⟨gb448, 1, none⟩ = some (.slice A0_1 l0_1.length c0_1) ∧ w16.cell? ⟨gb448, 2, none⟩ = some (.slice A0_2 l0_2.length c0_2) := hS_
 refine norm_ (a' := ?_) ?_ ?_
 rotate_left
 · simp only [putAll, Act.put, la, lb, lc]
   rfl
 refine one_ (i := 11) (N := some 14) #[true, true, true, true, true, true, true, true, true, true, true, true, false, false] rfl rfl (one_of HT_.out kr) (by decide) (fun K hK => ?_)
 refine Kd.R_append_rows_step (Kd.int .i64) (w0 := w) w.heap.size (by rfl) (.tmp 11) (.tmp 13) 24 3 (.int .i64 0) 8 rfl Try.underlying24 info3 rfl (by decide) (by omega) v463 y462 l0_2 _ _ _ (fun k_ => some k_ ≠ (v454 : Value).ownBlock ∧ some k_ ≠ (v460 : Value).ownBlock) (fun _ => False) rfl rfl ?aO ?aR (fun _ _ h => h) (fun _ h => h.elim) ?aF ?aB ?aS ?aL ?_
 (case aR => repeat (first | exact (Kd.C_below HR0_2.out HB.out) | (with_reducible refine Kd.C_alloc ?_ _) | (with_reducible refine Kd.C_drewN ?_ _) | (with_reducible refine Kd.C_drew ?_)))
 (case aB => exact Q0)
 (case aF => exact (fun k_ hk => ⟨Kd.fresh' (Kd.R_lt u9_4) k_ hk, Kd.fresh' (Kd.R_lt u9_10) k_ hk⟩))
 (case aO => exact u9_5)
 (case aS => exact (below_size Q0))
 (case aL => have := LMc4.out; omega)
 intro v466 w17 ho hb hg hat
 rw [← Ny465.out] at ho
 replace BK448 := am (blk_grown (g := gb448) (o := .cells #[.slice A0_0 l0_0.length c0_0, .slice A0_1 l0_1.length c0_1, .slice A0_2 l0_2.length c0_2] 26 (0, 0)) u9_1 hg (Kd.R_ne HO464.out BK448.out (by decide)))
 replace BK449 := am (blk_grown (g := gb449) (o := .cells #[.slice none 0 0, .slice none 0 0, .slice none 0 0] 26 (0, 0)) u9_2 hg (Kd.R_ne HO464.out BK449.out (by decide)))
 replace HO455 := am (Kd.R_after (ok := (fun k_ => some k_ ≠ (v460 : Value).ownBlock)) u9_4 hg hat)
 replace HO461 := am (Kd.R_after (ok := (fun k_ => some k_ ≠ (v454 : Value).ownBlock)) u9_10 hg hat)
 replace HB := am (hb)
 have HO467 := am (ho)
 clear HO464
 clear ho hb hg hat
 obtain ⟨Ao18, co18, eo18⟩ := Kd.R_slice HO467.out
 (first | subst eo18 | (injection eo18 with f1_ f2_ f3_; have f4_ := f1_.symm; have f5_ := f3_.symm; clear f1_ f2_ f3_; subst f4_; subst f5_))
 obtain ⟨Ao19, co19, eo19⟩ := Kd.R_slice HO461.out
 (first | subst eo19 | (injection eo19 with f1_ f2_ f3_; have f4_ := f1_.symm; have f5_ := f3_.symm; clear f1_ f2_ f3_; subst f4_; subst f5_))
 obtain ⟨Ao20, co20, eo20⟩ := Kd.R_slice HO455.out
 (first | subst eo20 | (injection eo20 with f1_ f2_ f3_; have f4_ := f1_.symm; have f5_ := f3_.symm; clear f1_ f2_ f3_; subst f4_; subst f5_))
 refine hK.out _ _ ⟨(blk_cell BK448.out 0).trans rfl, (blk_cell BK448.out 1).trans rfl, (blk_cell BK448.out 2).trans rfl⟩ (fun hHeld => ?_)
 clear hK K
 refine norm_ (a' := ?_) ?_ ?_
 rotate_left
 · show Act.put _ (some 14) _ = _
   simp only [Act.put, la, lb, lc, i64_w, i32_w]
   rfl
 refine pV 12 15 (bt 13 14) ?_
 refine one_ (i := 13) (N := none) #[true, true, true, true, true, true, true, true, true, true, true, true, true, true] rfl rfl (one_of HT_.out kr) (by decide) (fun K hK => ?_)
 have hs21 : w17.cell? ⟨gb449, 0, none⟩ = some (.slice none 0 0) := (blk_cell BK449.out 0).trans rfl
 have hfs21 := blk_frozen BK449.out 0
 have hns21_0 := NB448_449.out
 have hms21_0 := NB449_448.out
 have hs22 : w17.cell? ⟨gb449, 1, none⟩ = some (.slice none 0 0) := (blk_cell BK449.out 1).trans rfl
 have hfs22 := blk_frozen BK449.out 1
 have hns22_0 := NB448_449.out
 have hms22_0 := NB449_448.out
 have hs23 : w17.cell? ⟨gb449, 2, none⟩ = some (.slice none 0 0) := (blk_cell BK449.out 2).trans rfl
 have hfs23 := blk_frozen BK449.out 2
 have hns23_0 := NB448_449.out
 have hms23_0 := NB449_448.out
 refine skip_ (w1 := ?_) (by rfl) rfl ?_ ?_
 rotate_left
 · go_simp
   rfl
 refine hK.out _ _ ⟨((cell_far (p := ⟨gb449, _, none⟩) NB448_449.out _).trans (((cell_far (p := ⟨gb449, _, none⟩) NB448_449.out _).trans (((cell_far (p := ⟨gb449, _, none⟩) NB448_449.out _).trans (hHeld.1)))))), ((cell_far (p := ⟨gb449, _, none⟩) NB448_449.out _).trans (((cell_far (p := ⟨gb449, _, none⟩) NB448_449.out _).trans (((cell_far (p := ⟨gb449, _, none⟩) NB448_449.out _).trans (hHeld.2.1)))))), ((cell_far (p := ⟨gb449, _, none⟩) NB448_449.out _).trans (((cell_far (p := ⟨gb449, _, none⟩) NB448_449.out _).trans (((cell_far (p := ⟨gb449, _, none⟩) NB448_449.out _).trans (hHeld.2.2))))))⟩ (fun hHeld => ?_)
 clear hK K
 refine done_ (done_of HT_.out kr) ?_
 try go_wp2
 refine bodyPost_ret (results_cell_row rfl _ _ gb449 26 #[.slice Ao20 y453.length co20, .slice Ao19 y459.length co19, .slice Ao18 y465.length co18] (0, 0) _ rfl (by (with_reducible repeat (first | refine blk_drewN ?_ _ | refine blk_drew ?_ | refine blk_alloc ?_ _)); refine blk_put (cs := #[.slice Ao20 y453.length co20, .slice Ao19 y459.length co19, .slice none 0 0]) ?_ 2 _ rfl; (with_reducible repeat (first | refine blk_drewN ?_ _ | refine blk_drew ?_ | refine blk_alloc ?_ _)); refine blk_put (cs := #[.slice Ao20 y453.length co20, .slice none 0 0, .slice none 0 0]) ?_ 1 _ rfl; (with_reducible repeat (first | refine blk_drewN ?_ _ | refine blk_drew ?_ | refine blk_alloc ?_ _)); refine blk_put (cs := #[.slice none 0 0, .slice none 0 0, .slice none 0 0]) ?_ 0 _ rfl; (with_reducible repeat (first | refine blk_drewN ?_ _ | refine blk_drew ?_ | refine blk_alloc ?_ _)); exact BK449.out) Try.underlying26 rfl kr) rfl ?_
 exact ⟨_, _, _, er, (by (with_reducible repeat (first | apply Kd.R_alloc | apply Kd.R_drewN | apply Kd.R_drew)); exact Kd.R_mono (Kd.R_far (p := ⟨gb449, 2, none⟩) (Kd.R_far (p := ⟨gb449, 1, none⟩) (Kd.R_far (p := ⟨gb449, 0, none⟩) (Kd.R_types HO455.out BK449.out (by decide)) (fun _ hk => hk.2) (.slice Ao20 y453.length co20)) (fun _ hk => hk.2) (.slice Ao19 y459.length co19)) (fun _ hk => hk.2) (.slice Ao18 y465.length co18)) (fun _ hk => ⟨hk.1.1, hk.1.2⟩)), (by (with_reducible repeat (first | apply Kd.R_alloc | apply Kd.R_drewN | apply Kd.R_drew)); exact Kd.R_mono (Kd.R_far (p := ⟨gb449, 2, none⟩) (Kd.R_far (p := ⟨gb449, 1, none⟩) (Kd.R_far (p := ⟨gb449, 0, none⟩) (Kd.R_types HO461.out BK449.out (by decide)) (fun _ hk => hk.2) (.slice Ao20 y453.length co20)) (fun _ hk => hk.2) (.slice Ao19 y459.length co19)) (fun _ hk => hk.2) (.slice Ao18 y465.length co18)) (fun _ hk => ⟨hk.1.1, hk.1.2⟩)), (by (with_reducible repeat (first | apply Kd.R_alloc | apply Kd.R_drewN | apply Kd.R_drew)); exact Kd.R_mono (Kd.R_far (p := ⟨gb449, 2, none⟩) (Kd.R_far (p := ⟨gb449, 1, none⟩) (Kd.R_far (p := ⟨gb449, 0, none⟩) (Kd.R_types HO467.out BK449.out (by decide)) (fun _ hk => hk.2) (.slice Ao20 y453.length co20)) (fun _ hk => hk.2) (.slice Ao19 y459.length co19)) (fun _ hk => hk.2) (.slice Ao18 y465.length co18)) (fun _ hk => ⟨hk.1.1, hk.1.2⟩)), Q0⟩

end Go.Proofs.Ytoemdmjdpikfbaa.QFnQuorums
