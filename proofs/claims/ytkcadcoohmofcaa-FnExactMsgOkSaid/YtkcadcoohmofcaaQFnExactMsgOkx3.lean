-- Printed by the session's own program wip/prx.py.
import Derived.Test.YtkcadcoohmofcaaQFnExactMsgOkx0
namespace Go.Proofs.Ytkcadcoohmofcaa.QFnExactMsgOk
open Go.RowKit Go.Proofs.YtkcadcoohmofcaaW.PrintWords Go.Proofs.YtkcadcoohmofcaaW.PrintLast Go.Proofs.YtkcadcoohmofcaaW.PrintMore
attribute [local go_sem] max2_int min2_int max_two min_two max_three min_three max_four min_four Go.Proofs.Ytkcadcoohmofcaa.Set.isSome_setCell   -- for this text's walks alone
set_option linter.unusedVariables false
set_option linter.unusedSimpArgs false

-- squeezed
theorem u3_0 {P : Prop} (h : P := by repeat (first | (with_reducible first | exact HB.out | apply below_alloc | apply pw_below_drewN | apply below_drew1) | exact HB.out)) : P := h
theorem u3_1 {P : Prop} (h : P := by repeat (first | (with_reducible first | exact HB.out | apply below_alloc | apply pw_below_drewN | apply below_drew1 | refine below_set ?_ GE131.out | refine below_set ?_ GE132.out | refine below_set ?_ GE133.out) | exact HB.out)) : P := h
theorem u3_2 {P : Prop} (h : P := by (with_reducible repeat (first | refine blk_drewN ?_ _ | refine blk_drew ?_ | refine blk_alloc ?_ _)); exact BK121.out) : P := h
theorem u3_3 {P : Prop} (h : P := by (with_reducible repeat (first | refine blk_drewN ?_ _ | refine blk_drew ?_ | refine blk_alloc ?_ _)); exact BK131.out) : P := h
theorem u3_4 {P : Prop} (h : P := by first | (with_reducible assumption) | assumption) : P := h
theorem u3_5 {P : Prop} (h : P := by repeat (first | (with_reducible first | exact HB.out | apply below_alloc | apply pw_below_drewN | apply below_drew1 | refine below_set ?_ GE121.out | refine below_set ?_ GE122.out) | exact HB.out)) : P := h
theorem u3_6 {P : Prop} (h : P := by repeat (first | (with_reducible first | exact HB.out | apply below_alloc | apply pw_below_drewN | apply below_drew1 | refine below_set ?_ GE131.out | refine below_set ?_ GE132.out) | exact HB.out)) : P := h
theorem u3_7 {P : Prop} (h : P := by repeat (first | (with_reducible first | exact HB.out | apply below_alloc | apply pw_below_drewN | apply below_drew1 | refine below_set ?_ GE121.out) | exact HB.out)) : P := h
theorem u3_8 {P : Prop} (h : P := by repeat (first | (with_reducible first | exact HB.out | apply below_alloc | apply pw_below_drewN | apply below_drew1 | refine below_set ?_ GE131.out) | exact HB.out)) : P := h
theorem u3_9 {P : Prop} (h : P := by repeat (first | (with_reducible first | exact HB.out | apply below_alloc | apply pw_below_drewN | apply below_drew1 | refine below_set ?_ GE137.out) | exact HB.out)) : P := h
theorem u3_10 {P : Prop} (h : P := by (with_reducible repeat (first | apply Kd.R_alloc | apply Kd.R_drewN | apply Kd.R_drew)); exact HO_3.out) : P := h
theorem u3_11 {P : Prop} (h : P := by (with_reducible repeat (first | refine blk_drewN ?_ _ | refine blk_drew ?_ | refine blk_alloc ?_ _)); exact BK122.out) : P := h
theorem u3_12 {P : Prop} (h : P := by (with_reducible repeat (first | refine blk_drewN ?_ _ | refine blk_drew ?_ | refine blk_alloc ?_ _)); exact BK132.out) : P := h
theorem u3_13 {P : Prop} (h : P := by (try simp only [List.map_toArray, List.map_cons, List.map_nil]); first | done | rfl | (simp only [List.length_drop, List.length_take]; rfl)) : P := h
/-! ### laws_toEntry: function 108 -/
def laws_toEntry.f (a0_0 : Int) (a0_1 : ByteArray) : Option (Int × ByteArray) := some (a0_0, a0_1)
set_option maxHeartbeats 8000000 in
set_option maxRecDepth 100000 in
theorem laws_toEntry.calls (a0_0 : Int) (a0_1 : ByteArray) (r1 : Int) (r2 : ByteArray) (w : World) (h : laws_toEntry.f a0_0 a0_1 = some (r1, r2)) :
    Calls Try.prog 108 #[.agg #[.int .i64 a0_0, .string a0_1]] w fun e w' => e = .returned (.agg #[.int .i64 r1, .string r2]) ∧ Below w.heap.size w w' := by
  have hu112 := Try.underlying112
  have hu85 := Try.underlying85
  have HB := Aside0.mk (Below.refl w.heap.size w)
  have H : (some (a0_0, a0_1)) = some (r1, r2) := h
  clear h
  simp only [Option.some.injEq, Prod.mk.injEq] at H
  obtain ⟨rfl, rfl⟩ := H
  go_enter Try.func108, Try.ntmps108
  go_wp2_with (first | ((with_reducible refine gate_dst (N := 1) rfl ?_); refine box_event ?hg (N := 1) ?hd (cs := #[.int .i64 a0_0, .string a0_1]) (t := 112) ?hr ?_; (case hd => rfl); (case hg => rfl); (case hr => first | (go_simp; done) | (go_simp; rfl)); intro gb121 hg w2 hbox hb; have n0_ := Aside0.mk (below_step u3_0 hb); have n1_ := Aside0.mk (hbox); have n2_ := Aside0.mk ((by rw [hg]; exact (below_size u3_0) : w.heap.size ≤ gb121)); have n3_ := Aside0.mk ((by rw [hg]; exact (below_size u3_0) : w.heap.size ≤ gb121)); clear HB; have HB := n0_; have BK121 := n1_; have GW121 := n2_; have GE121 := n3_; clear n0_ n1_ n2_ n3_; clear hb hbox hg) | ((with_reducible refine gate_dst (N := 2) rfl ?_); refine box_event ?hg (N := 2) ?hd (cs := #[.int .i64 0, .string (⟨#[]⟩ : ByteArray)]) (t := 85) ?hr ?_; (case hd => rfl); (case hg => rfl); (case hr => first | (go_simp; done) | (go_simp; rfl)); intro gb122 hg w3 hbox hb; have n0_ := Aside0.mk (blk_below (g := gb121) (o := .cells #[.int .i64 a0_0, .string a0_1] 112 (0, 0)) u3_2 hb); have n1_ := Aside0.mk (below_step u3_7 hb); have n2_ := Aside0.mk (hbox); have n3_ := Aside0.mk ((by rw [hg]; exact (below_size u3_7) : w.heap.size ≤ gb122)); have n4_ := Aside0.mk ((by rw [hg]; exact (below_size u3_7) : w.heap.size ≤ gb122)); have n5_ := Aside0.mk ((by rw [hg]; exact Nat.ne_of_lt (blk_lt (g := gb121) (o := .cells #[.int .i64 a0_0, .string a0_1] 112 (0, 0)) u3_2) : gb121 ≠ gb122)); have n6_ := Aside0.mk ((by rw [hg]; exact Nat.ne_of_gt (blk_lt (g := gb121) (o := .cells #[.int .i64 a0_0, .string a0_1] 112 (0, 0)) u3_2) : gb122 ≠ gb121)); clear BK121; clear HB; have BK121 := n0_; have HB := n1_; have BK122 := n2_; have GW122 := n3_; have GE122 := n4_; have NB121_122 := n5_; have NB122_121 := n6_; clear n0_ n1_ n2_ n3_ n4_ n5_ n6_; clear hb hbox hg) | ((with_reducible refine gate_dst (N := 3) rfl ?_); refine box_event ?hg (N := 3) ?hd (cs := #[.int .i64 0, .string (⟨#[]⟩ : ByteArray)]) (t := 85) ?hr ?_; (case hd => rfl); (case hg => rfl); (case hr => first | (go_simp; done) | (go_simp; rfl)); intro gb123 hg w4 hbox hb; have n0_ := Aside0.mk (blk_below (g := gb121) (o := .cells #[.int .i64 a0_0, .string a0_1] 112 (0, 0)) u3_2 hb); have n1_ := Aside0.mk (blk_below (g := gb122) (o := .cells #[.int .i64 0, .string (⟨#[]⟩ : ByteArray)] 85 (0, 0)) u3_11 hb); have n2_ := Aside0.mk (below_step u3_5 hb); have n3_ := Aside0.mk (hbox); have n4_ := Aside0.mk ((by rw [hg]; exact (below_size u3_5) : w.heap.size ≤ gb123)); have n5_ := Aside0.mk ((by rw [hg]; exact (below_size u3_5) : w.heap.size ≤ gb123)); have n6_ := Aside0.mk ((by rw [hg]; exact Nat.ne_of_lt (blk_lt (g := gb121) (o := .cells #[.int .i64 a0_0, .string a0_1] 112 (0, 0)) u3_2) : gb121 ≠ gb123)); have n7_ := Aside0.mk ((by rw [hg]; exact Nat.ne_of_gt (blk_lt (g := gb121) (o := .cells #[.int .i64 a0_0, .string a0_1] 112 (0, 0)) u3_2) : gb123 ≠ gb121)); have n8_ := Aside0.mk ((by rw [hg]; exact Nat.ne_of_lt (blk_lt (g := gb122) (o := .cells #[.int .i64 0, .string (⟨#[]⟩ : ByteArray)] 85 (0, 0)) u3_11) : gb122 ≠ gb123)); have n9_ := Aside0.mk ((by rw [hg]; exact Nat.ne_of_gt (blk_lt (g := gb122) (o := .cells #[.int .i64 0, .string (⟨#[]⟩ : ByteArray)] 85 (0, 0)) u3_11) : gb123 ≠ gb122)); clear BK121; clear BK122; clear HB; have BK121 := n0_; have BK122 := n1_; have HB := n2_; have BK123 := n3_; have GW123 := n4_; have GE123 := n5_; have NB121_123 := n6_; have NB123_121 := n7_; have NB122_123 := n8_; have NB123_122 := n9_; clear n0_ n1_ n2_ n3_ n4_ n5_ n6_ n7_ n8_ n9_; clear hb hbox hg; have hnb5 := NB121_122.out; have hnc5 := NB122_121.out; have hnb6 := NB121_123.out; have hnc6 := NB123_121.out; have hcz7_0 : w4.cell? ⟨gb121, 0, none⟩ = some (.int .i64 a0_0) := (blk_cell BK121.out 0).trans rfl; have hcz7_1 : w4.cell? ⟨gb121, 1, none⟩ = some (.string a0_1) := (blk_cell BK121.out 1).trans rfl; have hfz7_0 := blk_frozen BK121.out 0; have hfz7_1 := blk_frozen BK121.out 1; have hnb8 := NB123_122.out; have hnc8 := NB122_123.out; have hcz9_0 : w4.cell? ⟨gb123, 0, none⟩ = some (.int .i64 0) := (blk_cell BK123.out 0).trans rfl; have hcz9_1 : w4.cell? ⟨gb123, 1, none⟩ = some (.string (⟨#[]⟩ : ByteArray)) := (blk_cell BK123.out 1).trans rfl; have hfz9_0 := blk_frozen BK123.out 0; have hfz9_1 := blk_frozen BK123.out 1; have hcz10_0 : w4.cell? ⟨gb122, 0, none⟩ = some (.int .i64 0) := (blk_cell BK122.out 0).trans rfl; have hcz10_1 : w4.cell? ⟨gb122, 1, none⟩ = some (.string (⟨#[]⟩ : ByteArray)) := (blk_cell BK122.out 1).trans rfl; have hfz10_0 := blk_frozen BK122.out 0; have hfz10_1 := blk_frozen BK122.out 1))
  refine bodyPost_ret (results_cell_row rfl _ _ gb122 85 #[.int .i64 a0_0, .string a0_1] (0, 0) _ rfl (by (with_reducible repeat (first | refine blk_drewN ?_ _ | refine blk_drew ?_ | refine blk_alloc ?_ _)); refine blk_put (cs := #[.int .i64 a0_0, .string (⟨#[]⟩ : ByteArray)]) ?_ 1 _ rfl; (with_reducible repeat (first | refine blk_drewN ?_ _ | refine blk_drew ?_ | refine blk_alloc ?_ _)); refine blk_put (cs := #[.int .i64 0, .string (⟨#[]⟩ : ByteArray)]) ?_ 0 _ rfl; (with_reducible repeat (first | refine blk_drewN ?_ _ | refine blk_drew ?_ | refine blk_alloc ?_ _)); refine blk_far ?_ NB122_123.out _; (with_reducible repeat (first | refine blk_drewN ?_ _ | refine blk_drew ?_ | refine blk_alloc ?_ _)); refine blk_far ?_ NB122_123.out _; (with_reducible repeat (first | refine blk_drewN ?_ _ | refine blk_drew ?_ | refine blk_alloc ?_ _)); exact BK122.out) Try.underlying85 rfl (by kernel_rfl)) rfl ?_
  exact ⟨by first | rfl | (simp [errW_none, errW_some] <;> rfl) | (simp [*, errW_none, errW_some] <;> rfl), (by repeat (first | (with_reducible first | exact HB.out | apply below_alloc | apply pw_below_drewN | apply below_drew1 | refine below_set ?_ GE121.out | refine below_set ?_ GE122.out | refine below_set ?_ GE123.out) | exact HB.out))⟩

/-! ### laws_toEntryS: function 65 -/
def laws_toEntryS.l0 : Nat → List (S112) → List (S85) → Int → Option ((List (S85)))
  | 0, _, _, _ => none
  | k + 1, x0, x3, x4 => if x4 < (x0.length : Int) then (if 0 ≤ x4 then ((laws_toEntry.f ((rd_T112 x0 x4).f0) ((rd_T112 x0 x4).f1)).bind fun bt128 => (if x4 < (x3.length : Int) then (laws_toEntryS.l0 k x0 (x3.set (x4 : Int).toNat (⟨bt128.1, bt128.2⟩ : S85)) (wrap64 (x4 + 1))) else (none))) else (none)) else (some x3)
def laws_toEntryS.f (k : Nat) (l0 : List (S112)) : Option ((List (S85))) := if 0 ≤ (l0.length : Int) then (if ((l0.length : Int) : Int).toNat ≤ 11728124029610 then (laws_toEntryS.l0 k l0 (List.replicate ((l0.length : Int) : Int).toNat z85) 0) else (none)) else (none)
theorem laws_toEntryS.mono_l : ∀ k, (∀ y0 y1 y2, LeO (laws_toEntryS.l0 k y0 y1 y2) (laws_toEntryS.l0 (k + 1) y0 y1 y2))
  | 0 => fun _ _ _ r h => by simp [laws_toEntryS.l0] at h
  | k + 1 => by
    have ih0 := laws_toEntryS.mono_l k
    · intro y0 y1 y2
      unfold laws_toEntryS.l0
      repeat' first
      | (with_reducible exact ih0 _ _ _)
      | (with_reducible exact LeO.refl _)
      | (with_reducible exact LeO.none _)
      | (with_reducible refine LeO.ite ?_ ?_)
      | (with_reducible refine LeO.bind ?_ (fun _ => ?_))
      | exact ih0 _ _ _
      | exact LeO.none _
      | refine LeO.ite ?_ ?_
      | refine LeO.bind ?_ (fun _ => ?_)
theorem laws_toEntryS.mono : ∀ a0 k, LeO (laws_toEntryS.f k a0) (laws_toEntryS.f (k + 1) a0) := by
  intro a0 k
  have ih0 := laws_toEntryS.mono_l k
  unfold laws_toEntryS.f
  repeat' first
      | (with_reducible exact ih0 _ _ _)
      | (with_reducible exact LeO.refl _)
      | (with_reducible exact LeO.none _)
      | (with_reducible refine LeO.ite ?_ ?_)
      | (with_reducible refine LeO.bind ?_ (fun _ => ?_))
      | exact ih0 _ _ _
      | exact LeO.none _
      | refine LeO.ite ?_ ?_
      | refine LeO.bind ?_ (fun _ => ?_)
set_option maxHeartbeats 8000000 in
set_option maxRecDepth 100000 in
theorem laws_toEntryS.calls (k : Nat) (A0 : Option Addr) (c0 : Nat) (l0 : List (S112)) (r : List (S85)) (w : World) (hr0 : Kd.C k112 w A0 l0.length l0) (hc0 : l0.length ≤ c0) (h : laws_toEntryS.f k l0 = some r) :
    Calls Try.prog 65 #[.slice A0 l0.length c0] w fun e w' => ∃ v0_ : Value, e = .returned (v0_) ∧ Kd.R k85 85 w' w.heap.size (fun _ => True) v0_ r ∧ Below w.heap.size w w' := by
  have hu112 := Try.underlying112
  have hu85 := Try.underlying85
  have HR0 := Aside0.mk hr0
  have HC0 := Aside0.mk hc0
  clear hr0 hc0
  have HB := Aside0.mk (Below.refl w.heap.size w)
  have H : (if 0 ≤ (l0.length : Int) then (if ((l0.length : Int) : Int).toNat ≤ 11728124029610 then (laws_toEntryS.l0 k l0 (List.replicate ((l0.length : Int) : Int).toNat z85) 0) else (none)) else (none)) = some r := h
  clear h
  by_cases c2 : 0 ≤ (l0.length : Int)
  rotate_left
  · rw [if_neg c2] at H
    exact absurd H (by simp)
  rw [if_pos c2] at H
  have c2b0 := eq_true c2
  have c2b1 : decide (0 ≤ (l0.length : Int)) = true := decide_eq_true c2
  clear c2
  by_cases c3 : ((l0.length : Int) : Int).toNat ≤ 11728124029610
  rotate_left
  · rw [if_neg c3] at H
    exact absurd H (by simp)
  rw [if_pos c3] at H
  have c3b0 := eq_true c3
  have c3b1 : decide (((l0.length : Int) : Int).toNat ≤ 11728124029610) = true := decide_eq_true c3
  clear c3
  obtain ⟨y124, hy124⟩ : ∃ y_ : List (S85), y_ = (List.replicate ((l0.length : Int) : Int).toNat z85) := ⟨_, rfl⟩
  replace H : (laws_toEntryS.l0 k l0 y124 0) = some r := by first | (rw [hy124]; with_reducible exact H) | (have H2_ := (Option.bind_some _ _).symm.trans H; rw [hy124]; with_reducible exact H2_) | (have H2_ := (Option.bind_some _ _).symm.trans H; with_reducible exact H2_) | with_reducible exact H | (rw [hy124]; exact H) | exact H
  have Ny124 := Aside0.mk hy124
  clear hy124
  have H' := Aside0.mk H
  clear H
  go_enter Try.func65, Try.ntmps65
  go_wp2_with (first | ((with_reducible refine gate_dst (N := 7) rfl ?_); refine Kd.R_make k85 _ 85 rfl (N := 7) rfl 27 _ _ rfl (l0.length : Int) rfl rfl Try.underlying27 (.agg #[(.int .i64 0), (.string ⟨#[]⟩)]) 24 info85 rfl (by decide) (by omega) z85 (ok := fun _ => True) (okp := fun _ => True) (k85_mkM _ _ _ z85 ) (fun _ hk => hk) trivial (of_decide_eq_true u3_4) (Nat.le_trans (Nat.mul_le_mul_right _ (of_decide_eq_true u3_4 : (l0.length : Int).toNat ≤ 11728124029610)) (by omega)) (Below.refl _ _) (Nat.le_refl _) ?_; intro v125 w4 ho5 hb hg_ hnew_; clear hg_ hnew_; (first | rw [← Ny124.out] at ho5 | (simp only [Int.reduceToNat] at ho5; rw [← Ny124.out] at ho5)); have n0_ := Aside0.mk (Kd.R_lower ho5 (below_size u3_0)); have n1_ := Aside0.mk (below_step u3_0 hb); clear HB; have HO126 := n0_; have HB := n1_; clear n0_ n1_; clear hb ho5))
  go_loopg [4] k (fun kq v4 w' => ∃ (x3_1 : List (S85)) (x4_1 : Int), v4 = .int .i64 x4_1 ∧ Aside0 (laws_toEntryS.l0 kq l0 x3_1 x4_1 = some r) ∧ Aside0 (kq ≤ k) ∧ Aside0 (Kd.R k85 85 w' w.heap.size (fun _ => True) v125 x3_1) ∧ Aside0 (Below w.heap.size w w'))
  case atStart => exact ⟨(y124), (0), (by first | rfl | (simp; done) | (simp [*]; done)), H', ⟨Nat.le_refl _⟩, ⟨(by (with_reducible repeat (first | apply Kd.R_alloc | apply Kd.R_drewN | apply Kd.R_drew)); exact HO126.out)⟩, ⟨u3_0⟩⟩
  clear H'
  try clear c2
  try clear c2b0
  try clear c2b1
  try clear p2
  try clear c3
  try clear c3b0
  try clear c3b1
  obtain ⟨x3_1, x4_1, rfl, HA, HK1, HO_3, HB⟩ := hrel
  cases gk with
  | zero => exact absurd HA.out (by simp [laws_toEntryS.l0])
  | succ k1 =>
    have H := HA.out
    clear HA
    simp only [laws_toEntryS.l0] at H
    by_cases c6 : x4_1 < (l0.length : Int)
    rotate_left
    · rw [if_neg c6] at H
      have c6b0 : decide (x4_1 < (l0.length : Int)) = false := decide_eq_false c6
      clear c6
      obtain rfl := Option.some.inj H
      go_wp2
      go_ret
      exact ⟨_, by first | rfl | (simp [errW_none, errW_some] <;> rfl) | (simp [*, errW_none, errW_some] <;> rfl), u3_10, u3_0⟩
    rw [if_pos c6] at H
    have c6b0 : decide (x4_1 < (l0.length : Int)) = true := decide_eq_true c6
    clear c6
    by_cases c7 : 0 ≤ x4_1
    rotate_left
    · rw [if_neg c7] at H
      exact absurd H (by simp)
    rw [if_pos c7] at H
    have c7b0 : decide (0 ≤ x4_1) = true := decide_eq_true c7
    clear c7
    replace H := Option.bind_eq_some_iff.mp H
    obtain ⟨⟨t128, t129⟩, A80, H⟩ := H
    (try dsimp only at H)
    have A8 := Aside0.mk A80
    clear A80
    by_cases c9 : x4_1 < (x3_1.length : Int)
    rotate_left
    · rw [if_neg c9] at H
      exact absurd H (by simp)
    rw [if_pos c9] at H
    have c9b0 : decide (x4_1 < (x3_1.length : Int)) = true := decide_eq_true c9
    clear c9
    obtain ⟨y130, hy130⟩ : ∃ y_ : List (S85), y_ = (x3_1.set (x4_1 : Int).toNat (⟨t128, t129⟩ : S85)) := ⟨_, rfl⟩
    replace H : (laws_toEntryS.l0 k1 l0 y130 (wrap64 (x4_1 + 1))) = some r := by first | (rw [hy130]; with_reducible exact H) | (have H2_ := (Option.bind_some _ _).symm.trans H; rw [hy130]; with_reducible exact H2_) | (have H2_ := (Option.bind_some _ _).symm.trans H; with_reducible exact H2_) | with_reducible exact H | (rw [hy130]; exact H) | exact H
    have Ny130 := Aside0.mk hy130
    clear hy130
    have H' := Aside0.mk H
    clear H
    have p127 : 0 ≤ (x4_1 : Int) := of_decide_eq_true u3_4
    have q127 : x4_1 < (l0.length : Int) := of_decide_eq_true u3_4
    obtain ⟨ad127, e127, hx127_0, hx127_1⟩ := at_T112 HR0.out x4_1 p127 q127
    cases e127
    replace hx127_0 := (HB.out.cell (World.block_lt_of_cell? w _ hx127_0)).trans hx127_0
    replace hx127_1 := (HB.out.cell (World.block_lt_of_cell? w _ hx127_1)).trans hx127_1
    replace p127 := eq_true p127
    replace q127 := eq_true q127
    go_wp2_with (first | ((with_reducible refine gate_callee (f := 108) rfl ?_); refine goesL_ (some 20) rfl rfl Try.func108 (by kernel_rfl) rfl #[.agg #[.int .i64 ((rd_T112 l0 x4_1).f0), .string ((rd_T112 l0 x4_1).f1)]] rfl u3_13 ?_; (with_reducible refine (laws_toEntry.calls ((rd_T112 l0 x4_1).f0) ((rd_T112 l0 x4_1).f1) t128 t129 _ A8.out).mono ?_); rintro e w11 ⟨rfl, hb⟩; refine ⟨_, rfl, ?_⟩; have n0_ := Aside0.mk (Kd.R_below u3_10 hb); have n1_ := Aside0.mk (below_step u3_0 hb); clear HO_3; clear HB; have HO_3 := n0_; have HB := n1_; clear n0_ n1_; (try clear hb); (try clear hb2); (try clear hk); (try clear hi); have p10 : 0 ≤ (x4_1 : Int) := of_decide_eq_true u3_4; have q10 : (x4_1 : Int) < ((x3_1.length : Int) : Int) := of_decide_eq_true u3_4; obtain ⟨go10, co10, eo10, gb10, gl10, cl10, HG10⟩ := Kd.R_form HO_3.out (by omega); (first | cases eo10 | (injection eo10 with ea_ en_ ec_; (first | subst ea_ | (injection ea_ with ea_; subst ea_)); subst ec_; clear en_)); have GB10 := Aside0.mk gb10; have GG10 := Aside0.mk HG10; clear gb10 gl10 HG10; obtain ⟨ce10, hcl10, hM10, hcc10, hfr10⟩ := Kd.R_elem HO_3.out z85 (x4_1 : Int) p10 q10; obtain rfl := k85_openM hM10; have hx10_0 : w11.cell? ⟨go10, (x4_1 : Int).toNat * 2, none⟩ = some (.int .i64 ((rd_T85 x3_1 x4_1).f0)) := hcc10 0 _ rfl; have hx10_1 : w11.cell? ⟨go10, (x4_1 : Int).toNat * 2 + 1, none⟩ = some (.string ((rd_T85 x3_1 x4_1).f1)) := hcc10 1 _ rfl; have hf10_0 : w11.frozen? ⟨go10, (x4_1 : Int).toNat * 2, none⟩ = false := hfr10 0; have hf10_1 : w11.frozen? ⟨go10, (x4_1 : Int).toNat * 2 + 1, none⟩ = false := hfr10 1; clear hcl10 hcc10 hfr10 hM10; replace p10 := eq_true p10; replace q10 := eq_true q10; have HX12 := Aside0.mk (show Kd.R k85 85 w11 w.heap.size (fun _ => True) (.slice (some ⟨go10, 0, none⟩) x3_1.length co10) x3_1 from u3_10); obtain ⟨ce12, hcl12, hM12, hcc12, hfr12⟩ := Kd.R_elem HX12.out z85 (x4_1 : Int) (of_decide_eq_true u3_4) (by have h_ : (x4_1 : Int) < ((x3_1.length : Int) : Int) := of_decide_eq_true u3_4; first | exact h_ | (have e_ := (Kd.R_reads' HO_3.out).1; omega) | simpa using h_); obtain rfl := k85_openM hM12; have HP12 := Kd.R_seg HX12.out (x4_1 : Int) (of_decide_eq_true u3_4) (by have h_ : (x4_1 : Int) < ((x3_1.length : Int) : Int) := of_decide_eq_true u3_4; first | exact h_ | (have e_ := (Kd.R_reads' HO_3.out).1; omega) | simpa using h_) (seg := [.int .i64 t128, .string t129]) (j := 0) hcl12 hcc12 (show 2 ≤ 2 from by decide) (x' := (⟨t128, t129⟩ : S85)) (k85_mkM _ _ _ (⟨t128, t129⟩ : S85) ) (fun _ hk => hk); have hx12_0 := hcc12 0 _ rfl; (try simp only [show (k85).sz = 2 from rfl, Nat.mul_one, Nat.add_zero] at hx12_0); have hf12_0 := hfr12 0; (try simp only [show (k85).sz = 2 from rfl, Nat.mul_one, Nat.add_zero] at hf12_0); have hx12_1 := hcc12 1 _ rfl; (try simp only [show (k85).sz = 2 from rfl, Nat.mul_one, Nat.add_zero] at hx12_1); have hf12_1 := hfr12 1; (try simp only [show (k85).sz = 2 from rfl, Nat.mul_one, Nat.add_zero] at hf12_1); clear hcl12 hcc12 hfr12 hM12) | ((with_reducible refine gate_store (t := 85) (p := 21) rfl ?_); refine store_event (t := 85) (p := 21) (v := ?vo_w13) (w1 := ((w11.setCell ⟨go10, (x4_1 : Int).toNat * 2, none⟩ (.int .i64 t128)).setCell ⟨go10, (x4_1 : Int).toNat * 2 + 1, none⟩ (.string t129))) ?hg ?ho ?hn ?hr ?_; (case ho => rfl); (case hg => rfl); (case hn => rfl); (case hr => first | (go_simp; done) | (go_simp; rfl)); intro w13 hw; have hg : w11.grownBy w13 (some go10) := (by rw [hw]; exact HP12.2); have hp_ : Kd.R k85 85 w13 w.heap.size (fun _ => True) (.slice (some ⟨go10, 0, none⟩) x3_1.length co10) y130 := (by rw [hw, Ny130.out]; exact HP12.1); clear HP12; have n0_ := Aside0.mk (hp_); have n1_ := Aside0.mk ((by rw [hw]; exact below_set (below_set (HB.out) GB10.out) GB10.out : Below w.heap.size w w13)); clear HO_3; clear HB; have HO_3 := n0_; have HB := n1_; clear n0_ n1_; clear hg hw hp_))
    go_roundg k1
    case measure => have := HK1.out; omega
    case rel => exact ⟨(y130), (wrap64 (x4_1 + 1)), (by first | rfl | (simp; done) | (simp [*]; done)), H', ⟨by have := HK1.out; omega⟩, ⟨u3_10⟩, ⟨u3_0⟩⟩

/-! ### laws_toMsg: function 17 -/
def laws_toMsg.f (k : Nat) (a0_0 : Int) (a0_1 : Int) (a0_2 : Int) (a0_3 : Int) (a0_4 : Int) (a0_5 : Int) (a0_6 : Int) (a0_7 : Bool) (l0_8 : List (S112)) : Option (Int × Int × Int × Int × Int × Int × Int × Bool × (List (S85))) := (laws_toEntryS.f k l0_8).bind fun t134 => (some (a0_0, a0_1, a0_2, a0_3, a0_4, a0_5, a0_6, a0_7, t134))
theorem laws_toMsg.mono : ∀ a0 a1 a2 a3 a4 a5 a6 a7 a8 k, LeO (laws_toMsg.f k a0 a1 a2 a3 a4 a5 a6 a7 a8) (laws_toMsg.f (k + 1) a0 a1 a2 a3 a4 a5 a6 a7 a8) := by
  intro a0 a1 a2 a3 a4 a5 a6 a7 a8 k
  unfold laws_toMsg.f
  repeat' first
      | (with_reducible exact laws_toEntryS.mono _ _)
      | (with_reducible exact LeO.refl _)
      | (with_reducible exact LeO.none _)
      | (with_reducible refine LeO.ite ?_ ?_)
      | (with_reducible refine LeO.bind ?_ (fun _ => ?_))
      | exact laws_toEntryS.mono _ _
      | exact LeO.none _
      | refine LeO.ite ?_ ?_
      | refine LeO.bind ?_ (fun _ => ?_)
set_option maxHeartbeats 8000000 in
set_option maxRecDepth 100000 in
theorem laws_toMsg.calls (k : Nat) (a0_0 : Int) (a0_1 : Int) (a0_2 : Int) (a0_3 : Int) (a0_4 : Int) (a0_5 : Int) (a0_6 : Int) (a0_7 : Bool) (A0_8 : Option Addr) (c0_8 : Nat) (l0_8 : List (S112)) (r1 : Int) (r2 : Int) (r3 : Int) (r4 : Int) (r5 : Int) (r6 : Int) (r7 : Int) (r8 : Bool) (r9 : List (S85)) (w : World) (hr0_8 : Kd.C k112 w A0_8 l0_8.length l0_8) (hc0_8 : l0_8.length ≤ c0_8) (h : laws_toMsg.f k a0_0 a0_1 a0_2 a0_3 a0_4 a0_5 a0_6 a0_7 l0_8 = some (r1, r2, r3, r4, r5, r6, r7, r8, r9)) :
    Calls Try.prog 17 #[.agg #[.int .i64 a0_0, .int .i64 a0_1, .int .i64 a0_2, .int .i64 a0_3, .int .i64 a0_4, .int .i64 a0_5, .int .i64 a0_6, .bool a0_7, .slice A0_8 l0_8.length c0_8]] w fun e w' => ∃ v8_ : Value, e = .returned (.agg #[.int .i64 r1, .int .i64 r2, .int .i64 r3, .int .i64 r4, .int .i64 r5, .int .i64 r6, .int .i64 r7, .bool r8, v8_]) ∧ Kd.R k85 85 w' w.heap.size (fun _ => True) v8_ r9 ∧ Below w.heap.size w w' := by
  have hu24 := Try.underlying24
  have hu29 := Try.underlying29
  have HR0_8 := Aside0.mk hr0_8
  have HC0_8 := Aside0.mk hc0_8
  clear hr0_8 hc0_8
  have HB := Aside0.mk (Below.refl w.heap.size w)
  have H : ((laws_toEntryS.f k l0_8).bind fun t134 => (some (a0_0, a0_1, a0_2, a0_3, a0_4, a0_5, a0_6, a0_7, t134))) = some (r1, r2, r3, r4, r5, r6, r7, r8, r9) := h
  clear h
  replace H := Option.bind_eq_some_iff.mp H
  obtain ⟨t134, A20, H⟩ := H
  have A2 := Aside0.mk A20
  clear A20
  simp only [Option.some.injEq, Prod.mk.injEq] at H
  obtain ⟨rfl, rfl, rfl, rfl, rfl, rfl, rfl, rfl, rfl⟩ := H
  go_enter Try.func17, Try.ntmps17
  go_wp2_with (first | ((with_reducible refine gate_dst (N := 1) rfl ?_); refine box_event ?hg (N := 1) ?hd (cs := #[.int .i64 a0_0, .int .i64 a0_1, .int .i64 a0_2, .int .i64 a0_3, .int .i64 a0_4, .int .i64 a0_5, .int .i64 a0_6, .bool a0_7, .slice A0_8 l0_8.length c0_8]) (t := 24) ?hr ?_; (case hd => rfl); (case hg => rfl); (case hr => first | (go_simp; done) | (go_simp; rfl)); intro gb131 hg w3 hbox hb; have n0_ := Aside0.mk (below_step u3_0 hb); have n1_ := Aside0.mk (hbox); have n2_ := Aside0.mk ((by rw [hg]; exact (below_size u3_0) : w.heap.size ≤ gb131)); have n3_ := Aside0.mk ((by rw [hg]; exact (below_size u3_0) : w.heap.size ≤ gb131)); clear HB; have HB := n0_; have BK131 := n1_; have GW131 := n2_; have GE131 := n3_; clear n0_ n1_ n2_ n3_; clear hb hbox hg) | ((with_reducible refine gate_dst (N := 2) rfl ?_); refine box_event ?hg (N := 2) ?hd (cs := #[.int .i64 0, .int .i64 0, .int .i64 0, .int .i64 0, .int .i64 0, .int .i64 0, .int .i64 0, .bool false, .slice none 0 0]) (t := 29) ?hr ?_; (case hd => rfl); (case hg => rfl); (case hr => first | (go_simp; done) | (go_simp; rfl)); intro gb132 hg w4 hbox hb; have n0_ := Aside0.mk (blk_below (g := gb131) (o := .cells #[.int .i64 a0_0, .int .i64 a0_1, .int .i64 a0_2, .int .i64 a0_3, .int .i64 a0_4, .int .i64 a0_5, .int .i64 a0_6, .bool a0_7, .slice A0_8 l0_8.length c0_8] 24 (0, 0)) u3_3 hb); have n1_ := Aside0.mk (below_step u3_8 hb); have n2_ := Aside0.mk (hbox); have n3_ := Aside0.mk ((by rw [hg]; exact (below_size u3_8) : w.heap.size ≤ gb132)); have n4_ := Aside0.mk ((by rw [hg]; exact (below_size u3_8) : w.heap.size ≤ gb132)); have n5_ := Aside0.mk ((by rw [hg]; exact Nat.ne_of_lt (blk_lt (g := gb131) (o := .cells #[.int .i64 a0_0, .int .i64 a0_1, .int .i64 a0_2, .int .i64 a0_3, .int .i64 a0_4, .int .i64 a0_5, .int .i64 a0_6, .bool a0_7, .slice A0_8 l0_8.length c0_8] 24 (0, 0)) u3_3) : gb131 ≠ gb132)); have n6_ := Aside0.mk ((by rw [hg]; exact Nat.ne_of_gt (blk_lt (g := gb131) (o := .cells #[.int .i64 a0_0, .int .i64 a0_1, .int .i64 a0_2, .int .i64 a0_3, .int .i64 a0_4, .int .i64 a0_5, .int .i64 a0_6, .bool a0_7, .slice A0_8 l0_8.length c0_8] 24 (0, 0)) u3_3) : gb132 ≠ gb131)); clear BK131; clear HB; have BK131 := n0_; have HB := n1_; have BK132 := n2_; have GW132 := n3_; have GE132 := n4_; have NB131_132 := n5_; have NB132_131 := n6_; clear n0_ n1_ n2_ n3_ n4_ n5_ n6_; clear hb hbox hg) | ((with_reducible refine gate_dst (N := 3) rfl ?_); refine box_event ?hg (N := 3) ?hd (cs := #[.int .i64 0, .int .i64 0, .int .i64 0, .int .i64 0, .int .i64 0, .int .i64 0, .int .i64 0, .bool false, .slice none 0 0]) (t := 29) ?hr ?_; (case hd => rfl); (case hg => rfl); (case hr => first | (go_simp; done) | (go_simp; rfl)); intro gb133 hg w5 hbox hb; have n0_ := Aside0.mk (blk_below (g := gb131) (o := .cells #[.int .i64 a0_0, .int .i64 a0_1, .int .i64 a0_2, .int .i64 a0_3, .int .i64 a0_4, .int .i64 a0_5, .int .i64 a0_6, .bool a0_7, .slice A0_8 l0_8.length c0_8] 24 (0, 0)) u3_3 hb); have n1_ := Aside0.mk (blk_below (g := gb132) (o := .cells #[.int .i64 0, .int .i64 0, .int .i64 0, .int .i64 0, .int .i64 0, .int .i64 0, .int .i64 0, .bool false, .slice none 0 0] 29 (0, 0)) u3_12 hb); have n2_ := Aside0.mk (below_step u3_6 hb); have n3_ := Aside0.mk (hbox); have n4_ := Aside0.mk ((by rw [hg]; exact (below_size u3_6) : w.heap.size ≤ gb133)); have n5_ := Aside0.mk ((by rw [hg]; exact (below_size u3_6) : w.heap.size ≤ gb133)); have n6_ := Aside0.mk ((by rw [hg]; exact Nat.ne_of_lt (blk_lt (g := gb131) (o := .cells #[.int .i64 a0_0, .int .i64 a0_1, .int .i64 a0_2, .int .i64 a0_3, .int .i64 a0_4, .int .i64 a0_5, .int .i64 a0_6, .bool a0_7, .slice A0_8 l0_8.length c0_8] 24 (0, 0)) u3_3) : gb131 ≠ gb133)); have n7_ := Aside0.mk ((by rw [hg]; exact Nat.ne_of_gt (blk_lt (g := gb131) (o := .cells #[.int .i64 a0_0, .int .i64 a0_1, .int .i64 a0_2, .int .i64 a0_3, .int .i64 a0_4, .int .i64 a0_5, .int .i64 a0_6, .bool a0_7, .slice A0_8 l0_8.length c0_8] 24 (0, 0)) u3_3) : gb133 ≠ gb131)); have n8_ := Aside0.mk ((by rw [hg]; exact Nat.ne_of_lt (blk_lt (g := gb132) (o := .cells #[.int .i64 0, .int .i64 0, .int .i64 0, .int .i64 0, .int .i64 0, .int .i64 0, .int .i64 0, .bool false, .slice none 0 0] 29 (0, 0)) u3_12) : gb132 ≠ gb133)); have n9_ := Aside0.mk ((by rw [hg]; exact Nat.ne_of_gt (blk_lt (g := gb132) (o := .cells #[.int .i64 0, .int .i64 0, .int .i64 0, .int .i64 0, .int .i64 0, .int .i64 0, .int .i64 0, .bool false, .slice none 0 0] 29 (0, 0)) u3_12) : gb133 ≠ gb132)); clear BK131; clear BK132; clear HB; have BK131 := n0_; have BK132 := n1_; have HB := n2_; have BK133 := n3_; have GW133 := n4_; have GE133 := n5_; have NB131_133 := n6_; have NB133_131 := n7_; have NB132_133 := n8_; have NB133_132 := n9_; clear n0_ n1_ n2_ n3_ n4_ n5_ n6_ n7_ n8_ n9_; clear hb hbox hg; have hnb6 := NB131_132.out; have hnc6 := NB132_131.out; have hnb7 := NB131_133.out; have hnc7 := NB133_131.out; have hcz8_0 : w5.cell? ⟨gb131, 0, none⟩ = some (.int .i64 a0_0) := (blk_cell BK131.out 0).trans rfl; have hcz8_1 : w5.cell? ⟨gb131, 1, none⟩ = some (.int .i64 a0_1) := (blk_cell BK131.out 1).trans rfl; have hcz8_2 : w5.cell? ⟨gb131, 2, none⟩ = some (.int .i64 a0_2) := (blk_cell BK131.out 2).trans rfl; have hcz8_3 : w5.cell? ⟨gb131, 3, none⟩ = some (.int .i64 a0_3) := (blk_cell BK131.out 3).trans rfl; have hcz8_4 : w5.cell? ⟨gb131, 4, none⟩ = some (.int .i64 a0_4) := (blk_cell BK131.out 4).trans rfl; have hcz8_5 : w5.cell? ⟨gb131, 5, none⟩ = some (.int .i64 a0_5) := (blk_cell BK131.out 5).trans rfl; have hcz8_6 : w5.cell? ⟨gb131, 6, none⟩ = some (.int .i64 a0_6) := (blk_cell BK131.out 6).trans rfl; have hcz8_7 : w5.cell? ⟨gb131, 7, none⟩ = some (.bool a0_7) := (blk_cell BK131.out 7).trans rfl; have hcz8_8 : w5.cell? ⟨gb131, 8, none⟩ = some (.slice A0_8 l0_8.length c0_8) := (blk_cell BK131.out 8).trans rfl; have hfz8_0 := blk_frozen BK131.out 0; have hfz8_1 := blk_frozen BK131.out 1; have hfz8_2 := blk_frozen BK131.out 2; have hfz8_3 := blk_frozen BK131.out 3; have hfz8_4 := blk_frozen BK131.out 4; have hfz8_5 := blk_frozen BK131.out 5; have hfz8_6 := blk_frozen BK131.out 6; have hfz8_7 := blk_frozen BK131.out 7; have hfz8_8 := blk_frozen BK131.out 8; have hnb9 := NB133_132.out; have hnc9 := NB132_133.out; have hcz10_0 : w5.cell? ⟨gb133, 0, none⟩ = some (.int .i64 0) := (blk_cell BK133.out 0).trans rfl; have hcz10_1 : w5.cell? ⟨gb133, 1, none⟩ = some (.int .i64 0) := (blk_cell BK133.out 1).trans rfl; have hcz10_2 : w5.cell? ⟨gb133, 2, none⟩ = some (.int .i64 0) := (blk_cell BK133.out 2).trans rfl; have hcz10_3 : w5.cell? ⟨gb133, 3, none⟩ = some (.int .i64 0) := (blk_cell BK133.out 3).trans rfl; have hcz10_4 : w5.cell? ⟨gb133, 4, none⟩ = some (.int .i64 0) := (blk_cell BK133.out 4).trans rfl; have hcz10_5 : w5.cell? ⟨gb133, 5, none⟩ = some (.int .i64 0) := (blk_cell BK133.out 5).trans rfl; have hcz10_6 : w5.cell? ⟨gb133, 6, none⟩ = some (.int .i64 0) := (blk_cell BK133.out 6).trans rfl; have hcz10_7 : w5.cell? ⟨gb133, 7, none⟩ = some (.bool false) := (blk_cell BK133.out 7).trans rfl; have hcz10_8 : w5.cell? ⟨gb133, 8, none⟩ = some (.slice none 0 0) := (blk_cell BK133.out 8).trans rfl; have hfz10_0 := blk_frozen BK133.out 0; have hfz10_1 := blk_frozen BK133.out 1; have hfz10_2 := blk_frozen BK133.out 2; have hfz10_3 := blk_frozen BK133.out 3; have hfz10_4 := blk_frozen BK133.out 4; have hfz10_5 := blk_frozen BK133.out 5; have hfz10_6 := blk_frozen BK133.out 6; have hfz10_7 := blk_frozen BK133.out 7; have hfz10_8 := blk_frozen BK133.out 8) | ((with_reducible refine gate_callee (f := 65) rfl ?_); refine goesL_ (some 30) rfl rfl Try.func65 (by kernel_rfl) rfl #[.slice A0_8 l0_8.length c0_8] rfl u3_13 ?_; (with_reducible refine (laws_toEntryS.calls k _ _ l0_8 t134 _ ?side1 ?side2 A2.out).mono ?_); (case side1 => exact (by exact Kd.C_below HR0_8.out u3_1)); (case side2 => exact HC0_8.out); rintro e w11 ⟨v135, rfl, ho0, hb⟩; refine ⟨_, rfl, ?_⟩; have n0_ := Aside0.mk (Kd.R_lower ho0 (below_size u3_1)); have n1_ := Aside0.mk (blk_below (g := gb131) (o := .cells #[.int .i64 a0_0, .int .i64 a0_1, .int .i64 a0_2, .int .i64 a0_3, .int .i64 a0_4, .int .i64 a0_5, .int .i64 a0_6, .bool a0_7, .slice A0_8 l0_8.length c0_8] 24 (0, 0)) (by (with_reducible repeat (first | refine blk_drewN ?_ _ | refine blk_drew ?_ | refine blk_alloc ?_ _)); refine blk_far ?_ NB131_133.out _; (with_reducible repeat (first | refine blk_drewN ?_ _ | refine blk_drew ?_ | refine blk_alloc ?_ _)); refine blk_far ?_ NB131_133.out _; (with_reducible repeat (first | refine blk_drewN ?_ _ | refine blk_drew ?_ | refine blk_alloc ?_ _)); refine blk_far ?_ NB131_133.out _; (with_reducible repeat (first | refine blk_drewN ?_ _ | refine blk_drew ?_ | refine blk_alloc ?_ _)); refine blk_far ?_ NB131_133.out _; (with_reducible repeat (first | refine blk_drewN ?_ _ | refine blk_drew ?_ | refine blk_alloc ?_ _)); refine blk_far ?_ NB131_133.out _; (with_reducible repeat (first | refine blk_drewN ?_ _ | refine blk_drew ?_ | refine blk_alloc ?_ _)); refine blk_far ?_ NB131_133.out _; (with_reducible repeat (first | refine blk_drewN ?_ _ | refine blk_drew ?_ | refine blk_alloc ?_ _)); refine blk_far ?_ NB131_133.out _; (with_reducible repeat (first | refine blk_drewN ?_ _ | refine blk_drew ?_ | refine blk_alloc ?_ _)); refine blk_far ?_ NB131_133.out _; (with_reducible repeat (first | refine blk_drewN ?_ _ | refine blk_drew ?_ | refine blk_alloc ?_ _)); exact BK131.out) hb); have n2_ := Aside0.mk (blk_below (g := gb132) (o := .cells #[.int .i64 0, .int .i64 0, .int .i64 0, .int .i64 0, .int .i64 0, .int .i64 0, .int .i64 0, .bool false, .slice none 0 0] 29 (0, 0)) (by (with_reducible repeat (first | refine blk_drewN ?_ _ | refine blk_drew ?_ | refine blk_alloc ?_ _)); refine blk_far ?_ NB132_133.out _; (with_reducible repeat (first | refine blk_drewN ?_ _ | refine blk_drew ?_ | refine blk_alloc ?_ _)); refine blk_far ?_ NB132_133.out _; (with_reducible repeat (first | refine blk_drewN ?_ _ | refine blk_drew ?_ | refine blk_alloc ?_ _)); refine blk_far ?_ NB132_133.out _; (with_reducible repeat (first | refine blk_drewN ?_ _ | refine blk_drew ?_ | refine blk_alloc ?_ _)); refine blk_far ?_ NB132_133.out _; (with_reducible repeat (first | refine blk_drewN ?_ _ | refine blk_drew ?_ | refine blk_alloc ?_ _)); refine blk_far ?_ NB132_133.out _; (with_reducible repeat (first | refine blk_drewN ?_ _ | refine blk_drew ?_ | refine blk_alloc ?_ _)); refine blk_far ?_ NB132_133.out _; (with_reducible repeat (first | refine blk_drewN ?_ _ | refine blk_drew ?_ | refine blk_alloc ?_ _)); refine blk_far ?_ NB132_133.out _; (with_reducible repeat (first | refine blk_drewN ?_ _ | refine blk_drew ?_ | refine blk_alloc ?_ _)); refine blk_far ?_ NB132_133.out _; (with_reducible repeat (first | refine blk_drewN ?_ _ | refine blk_drew ?_ | refine blk_alloc ?_ _)); exact BK132.out) hb); have n3_ := Aside0.mk (blk_below (g := gb133) (o := .cells #[.int .i64 a0_0, .int .i64 a0_1, .int .i64 a0_2, .int .i64 a0_3, .int .i64 a0_4, .int .i64 a0_5, .int .i64 a0_6, .bool a0_7, .slice none 0 0] 29 (0, 0)) (by (with_reducible repeat (first | refine blk_drewN ?_ _ | refine blk_drew ?_ | refine blk_alloc ?_ _)); refine blk_put (cs := #[.int .i64 a0_0, .int .i64 a0_1, .int .i64 a0_2, .int .i64 a0_3, .int .i64 a0_4, .int .i64 a0_5, .int .i64 a0_6, .bool false, .slice none 0 0]) ?_ 7 _ rfl; (with_reducible repeat (first | refine blk_drewN ?_ _ | refine blk_drew ?_ | refine blk_alloc ?_ _)); refine blk_put (cs := #[.int .i64 a0_0, .int .i64 a0_1, .int .i64 a0_2, .int .i64 a0_3, .int .i64 a0_4, .int .i64 a0_5, .int .i64 0, .bool false, .slice none 0 0]) ?_ 6 _ rfl; (with_reducible repeat (first | refine blk_drewN ?_ _ | refine blk_drew ?_ | refine blk_alloc ?_ _)); refine blk_put (cs := #[.int .i64 a0_0, .int .i64 a0_1, .int .i64 a0_2, .int .i64 a0_3, .int .i64 a0_4, .int .i64 0, .int .i64 0, .bool false, .slice none 0 0]) ?_ 5 _ rfl; (with_reducible repeat (first | refine blk_drewN ?_ _ | refine blk_drew ?_ | refine blk_alloc ?_ _)); refine blk_put (cs := #[.int .i64 a0_0, .int .i64 a0_1, .int .i64 a0_2, .int .i64 a0_3, .int .i64 0, .int .i64 0, .int .i64 0, .bool false, .slice none 0 0]) ?_ 4 _ rfl; (with_reducible repeat (first | refine blk_drewN ?_ _ | refine blk_drew ?_ | refine blk_alloc ?_ _)); refine blk_put (cs := #[.int .i64 a0_0, .int .i64 a0_1, .int .i64 a0_2, .int .i64 0, .int .i64 0, .int .i64 0, .int .i64 0, .bool false, .slice none 0 0]) ?_ 3 _ rfl; (with_reducible repeat (first | refine blk_drewN ?_ _ | refine blk_drew ?_ | refine blk_alloc ?_ _)); refine blk_put (cs := #[.int .i64 a0_0, .int .i64 a0_1, .int .i64 0, .int .i64 0, .int .i64 0, .int .i64 0, .int .i64 0, .bool false, .slice none 0 0]) ?_ 2 _ rfl; (with_reducible repeat (first | refine blk_drewN ?_ _ | refine blk_drew ?_ | refine blk_alloc ?_ _)); refine blk_put (cs := #[.int .i64 a0_0, .int .i64 0, .int .i64 0, .int .i64 0, .int .i64 0, .int .i64 0, .int .i64 0, .bool false, .slice none 0 0]) ?_ 1 _ rfl; (with_reducible repeat (first | refine blk_drewN ?_ _ | refine blk_drew ?_ | refine blk_alloc ?_ _)); refine blk_put (cs := #[.int .i64 0, .int .i64 0, .int .i64 0, .int .i64 0, .int .i64 0, .int .i64 0, .int .i64 0, .bool false, .slice none 0 0]) ?_ 0 _ rfl; (with_reducible repeat (first | refine blk_drewN ?_ _ | refine blk_drew ?_ | refine blk_alloc ?_ _)); exact BK133.out) hb); have n4_ := Aside0.mk (below_step u3_1 hb); clear BK131; clear BK132; clear BK133; clear HB; have HO136 := n0_; have BK131 := n1_; have BK132 := n2_; have BK133 := n3_; have HB := n4_; clear n0_ n1_ n2_ n3_ n4_; (try clear hb); (try clear hb2); (try clear hk); (try clear hi); (try clear ho0); obtain ⟨Ao12, co12, eo12⟩ := Kd.R_slice HO136.out; subst eo12; have hcz13_0 : w11.cell? ⟨gb133, 0, none⟩ = some (.int .i64 a0_0) := (blk_cell BK133.out 0).trans rfl; have hcz13_1 : w11.cell? ⟨gb133, 1, none⟩ = some (.int .i64 a0_1) := (blk_cell BK133.out 1).trans rfl; have hcz13_2 : w11.cell? ⟨gb133, 2, none⟩ = some (.int .i64 a0_2) := (blk_cell BK133.out 2).trans rfl; have hcz13_3 : w11.cell? ⟨gb133, 3, none⟩ = some (.int .i64 a0_3) := (blk_cell BK133.out 3).trans rfl; have hcz13_4 : w11.cell? ⟨gb133, 4, none⟩ = some (.int .i64 a0_4) := (blk_cell BK133.out 4).trans rfl; have hcz13_5 : w11.cell? ⟨gb133, 5, none⟩ = some (.int .i64 a0_5) := (blk_cell BK133.out 5).trans rfl; have hcz13_6 : w11.cell? ⟨gb133, 6, none⟩ = some (.int .i64 a0_6) := (blk_cell BK133.out 6).trans rfl; have hcz13_7 : w11.cell? ⟨gb133, 7, none⟩ = some (.bool a0_7) := (blk_cell BK133.out 7).trans rfl; have hcz13_8 : w11.cell? ⟨gb133, 8, none⟩ = some (.slice none 0 0) := (blk_cell BK133.out 8).trans rfl; have hfz13_0 := blk_frozen BK133.out 0; have hfz13_1 := blk_frozen BK133.out 1; have hfz13_2 := blk_frozen BK133.out 2; have hfz13_3 := blk_frozen BK133.out 3; have hfz13_4 := blk_frozen BK133.out 4; have hfz13_5 := blk_frozen BK133.out 5; have hfz13_6 := blk_frozen BK133.out 6; have hfz13_7 := blk_frozen BK133.out 7; have hfz13_8 := blk_frozen BK133.out 8; have hcz14_0 : w11.cell? ⟨gb132, 0, none⟩ = some (.int .i64 0) := (blk_cell BK132.out 0).trans rfl; have hcz14_1 : w11.cell? ⟨gb132, 1, none⟩ = some (.int .i64 0) := (blk_cell BK132.out 1).trans rfl; have hcz14_2 : w11.cell? ⟨gb132, 2, none⟩ = some (.int .i64 0) := (blk_cell BK132.out 2).trans rfl; have hcz14_3 : w11.cell? ⟨gb132, 3, none⟩ = some (.int .i64 0) := (blk_cell BK132.out 3).trans rfl; have hcz14_4 : w11.cell? ⟨gb132, 4, none⟩ = some (.int .i64 0) := (blk_cell BK132.out 4).trans rfl; have hcz14_5 : w11.cell? ⟨gb132, 5, none⟩ = some (.int .i64 0) := (blk_cell BK132.out 5).trans rfl; have hcz14_6 : w11.cell? ⟨gb132, 6, none⟩ = some (.int .i64 0) := (blk_cell BK132.out 6).trans rfl; have hcz14_7 : w11.cell? ⟨gb132, 7, none⟩ = some (.bool false) := (blk_cell BK132.out 7).trans rfl; have hcz14_8 : w11.cell? ⟨gb132, 8, none⟩ = some (.slice none 0 0) := (blk_cell BK132.out 8).trans rfl; have hfz14_0 := blk_frozen BK132.out 0; have hfz14_1 := blk_frozen BK132.out 1; have hfz14_2 := blk_frozen BK132.out 2; have hfz14_3 := blk_frozen BK132.out 3; have hfz14_4 := blk_frozen BK132.out 4; have hfz14_5 := blk_frozen BK132.out 5; have hfz14_6 := blk_frozen BK132.out 6; have hfz14_7 := blk_frozen BK132.out 7; have hfz14_8 := blk_frozen BK132.out 8))
  refine bodyPost_ret (results_cell_row rfl _ _ gb132 29 #[.int .i64 a0_0, .int .i64 a0_1, .int .i64 a0_2, .int .i64 a0_3, .int .i64 a0_4, .int .i64 a0_5, .int .i64 a0_6, .bool a0_7, .slice Ao12 t134.length co12] (0, 0) _ rfl (by (with_reducible repeat (first | refine blk_drewN ?_ _ | refine blk_drew ?_ | refine blk_alloc ?_ _)); refine blk_put (cs := #[.int .i64 a0_0, .int .i64 a0_1, .int .i64 a0_2, .int .i64 a0_3, .int .i64 a0_4, .int .i64 a0_5, .int .i64 a0_6, .bool a0_7, .slice none 0 0]) ?_ 8 _ rfl; (with_reducible repeat (first | refine blk_drewN ?_ _ | refine blk_drew ?_ | refine blk_alloc ?_ _)); refine blk_put (cs := #[.int .i64 a0_0, .int .i64 a0_1, .int .i64 a0_2, .int .i64 a0_3, .int .i64 a0_4, .int .i64 a0_5, .int .i64 a0_6, .bool false, .slice none 0 0]) ?_ 7 _ rfl; (with_reducible repeat (first | refine blk_drewN ?_ _ | refine blk_drew ?_ | refine blk_alloc ?_ _)); refine blk_put (cs := #[.int .i64 a0_0, .int .i64 a0_1, .int .i64 a0_2, .int .i64 a0_3, .int .i64 a0_4, .int .i64 a0_5, .int .i64 0, .bool false, .slice none 0 0]) ?_ 6 _ rfl; (with_reducible repeat (first | refine blk_drewN ?_ _ | refine blk_drew ?_ | refine blk_alloc ?_ _)); refine blk_put (cs := #[.int .i64 a0_0, .int .i64 a0_1, .int .i64 a0_2, .int .i64 a0_3, .int .i64 a0_4, .int .i64 0, .int .i64 0, .bool false, .slice none 0 0]) ?_ 5 _ rfl; (with_reducible repeat (first | refine blk_drewN ?_ _ | refine blk_drew ?_ | refine blk_alloc ?_ _)); refine blk_put (cs := #[.int .i64 a0_0, .int .i64 a0_1, .int .i64 a0_2, .int .i64 a0_3, .int .i64 0, .int .i64 0, .int .i64 0, .bool false, .slice none 0 0]) ?_ 4 _ rfl; (with_reducible repeat (first | refine blk_drewN ?_ _ | refine blk_drew ?_ | refine blk_alloc ?_ _)); refine blk_put (cs := #[.int .i64 a0_0, .int .i64 a0_1, .int .i64 a0_2, .int .i64 0, .int .i64 0, .int .i64 0, .int .i64 0, .bool false, .slice none 0 0]) ?_ 3 _ rfl; (with_reducible repeat (first | refine blk_drewN ?_ _ | refine blk_drew ?_ | refine blk_alloc ?_ _)); refine blk_put (cs := #[.int .i64 a0_0, .int .i64 a0_1, .int .i64 0, .int .i64 0, .int .i64 0, .int .i64 0, .int .i64 0, .bool false, .slice none 0 0]) ?_ 2 _ rfl; (with_reducible repeat (first | refine blk_drewN ?_ _ | refine blk_drew ?_ | refine blk_alloc ?_ _)); refine blk_put (cs := #[.int .i64 a0_0, .int .i64 0, .int .i64 0, .int .i64 0, .int .i64 0, .int .i64 0, .int .i64 0, .bool false, .slice none 0 0]) ?_ 1 _ rfl; (with_reducible repeat (first | refine blk_drewN ?_ _ | refine blk_drew ?_ | refine blk_alloc ?_ _)); refine blk_put (cs := #[.int .i64 0, .int .i64 0, .int .i64 0, .int .i64 0, .int .i64 0, .int .i64 0, .int .i64 0, .bool false, .slice none 0 0]) ?_ 0 _ rfl; (with_reducible repeat (first | refine blk_drewN ?_ _ | refine blk_drew ?_ | refine blk_alloc ?_ _)); refine blk_far ?_ NB132_133.out _; (with_reducible repeat (first | refine blk_drewN ?_ _ | refine blk_drew ?_ | refine blk_alloc ?_ _)); exact BK132.out) Try.underlying29 rfl (by kernel_rfl)) rfl ?_
  exact ⟨_, by first | rfl | (simp [errW_none, errW_some] <;> rfl) | (simp [*, errW_none, errW_some] <;> rfl), (by (with_reducible repeat (first | apply Kd.R_alloc | apply Kd.R_drewN | apply Kd.R_drew)); exact Kd.R_mono (Kd.R_far (p := ⟨gb132, 8, none⟩) (Kd.R_far (p := ⟨gb132, 7, none⟩) (Kd.R_far (p := ⟨gb132, 6, none⟩) (Kd.R_far (p := ⟨gb132, 5, none⟩) (Kd.R_far (p := ⟨gb132, 4, none⟩) (Kd.R_far (p := ⟨gb132, 3, none⟩) (Kd.R_far (p := ⟨gb132, 2, none⟩) (Kd.R_far (p := ⟨gb132, 1, none⟩) (Kd.R_far (p := ⟨gb132, 0, none⟩) (Kd.R_far (p := ⟨gb133, 8, none⟩) (Kd.R_types (Kd.R_types HO136.out BK133.out (by decide)) BK132.out (by decide)) (fun _ hk => hk.1.2) (.slice Ao12 t134.length co12)) (fun _ hk => hk.2) (.int .i64 a0_0)) (fun _ hk => hk.2) (.int .i64 a0_1)) (fun _ hk => hk.2) (.int .i64 a0_2)) (fun _ hk => hk.2) (.int .i64 a0_3)) (fun _ hk => hk.2) (.int .i64 a0_4)) (fun _ hk => hk.2) (.int .i64 a0_5)) (fun _ hk => hk.2) (.int .i64 a0_6)) (fun _ hk => hk.2) (.bool a0_7)) (fun _ hk => hk.2) (.slice Ao12 t134.length co12)) (fun _ hk => trivial)), u3_1⟩

/-! ### impl_isEntry: function 111 -/
def impl_isEntry.f (a0_0 : Int) (a0_1 : ByteArray) : Option (Bool) := if a0_0 > 0 then (if a0_0 ≤ 1000000 then (some (decide ((a0_1.size : Int) ≤ 40))) else (some false)) else (some false)
set_option maxHeartbeats 8000000 in
set_option maxRecDepth 100000 in
theorem impl_isEntry.calls (a0_0 : Int) (a0_1 : ByteArray) (r : Bool) (w : World) (h : impl_isEntry.f a0_0 a0_1 = some r) :
    Calls Try.prog 111 #[.agg #[.int .i64 a0_0, .string a0_1]] w fun e w' => e = .returned (.bool r) ∧ Below w.heap.size w w' := by
  have hu85 := Try.underlying85
  have HB := Aside0.mk (Below.refl w.heap.size w)
  have H : (if a0_0 > 0 then (if a0_0 ≤ 1000000 then (some (decide ((a0_1.size : Int) ≤ 40))) else (some false)) else (some false)) = some r := h
  clear h
  by_cases c2 : a0_0 > 0
  rotate_left
  · rw [if_neg c2] at H
    have c2b0 : decide (0 < a0_0) = false := decide_eq_false c2
    clear c2
    obtain rfl := Option.some.inj H
    go_enter Try.func111, Try.ntmps111
    go_wp2_with (first | ((with_reducible refine gate_dst (N := 1) rfl ?_); (try (refine gate_guard (by rfl) ?_; dsimp only)); refine box_event ?hg (N := 1) ?hd (cs := #[.int .i64 a0_0, .string a0_1]) (t := 85) ?hr ?_; (case hd => rfl); (case hg => rfl); (case hr => first | (go_simp; done) | (go_simp; rfl)); intro gb137 hg w8 hbox hb; have n0_ := Aside0.mk (below_step u3_0 hb); have n1_ := Aside0.mk (hbox); have n2_ := Aside0.mk ((by rw [hg]; exact (below_size u3_0) : w.heap.size ≤ gb137)); have n3_ := Aside0.mk ((by rw [hg]; exact (below_size u3_0) : w.heap.size ≤ gb137)); clear HB; have HB := n0_; have BK137 := n1_; have GW137 := n2_; have GE137 := n3_; clear n0_ n1_ n2_ n3_; clear hb hbox hg; have hcz9_0 : w8.cell? ⟨gb137, 0, none⟩ = some (.int .i64 a0_0) := (blk_cell BK137.out 0).trans rfl; have hcz9_1 : w8.cell? ⟨gb137, 1, none⟩ = some (.string a0_1) := (blk_cell BK137.out 1).trans rfl; have hfz9_0 := blk_frozen BK137.out 0; have hfz9_1 := blk_frozen BK137.out 1))
    go_ret
    exact ⟨by first | rfl | (simp [errW_none, errW_some] <;> rfl) | (simp [*, errW_none, errW_some] <;> rfl), u3_9⟩
  rw [if_pos c2] at H
  have c2b0 : decide (0 < a0_0) = true := decide_eq_true c2
  clear c2
  by_cases c3 : a0_0 ≤ 1000000
  · rw [if_pos c3] at H
    have c3b0 : decide (a0_0 ≤ 1000000) = true := decide_eq_true c3
    clear c3
    obtain rfl := Option.some.inj H
    go_enter Try.func111, Try.ntmps111
    go_wp2_with (first | ((with_reducible refine gate_dst (N := 1) rfl ?_); (try (refine gate_guard (by rfl) ?_; dsimp only)); refine box_event ?hg (N := 1) ?hd (cs := #[.int .i64 a0_0, .string a0_1]) (t := 85) ?hr ?_; (case hd => rfl); (case hg => rfl); (case hr => first | (go_simp; done) | (go_simp; rfl)); intro gb137 hg w4 hbox hb; have n0_ := Aside0.mk (below_step u3_0 hb); have n1_ := Aside0.mk (hbox); have n2_ := Aside0.mk ((by rw [hg]; exact (below_size u3_0) : w.heap.size ≤ gb137)); have n3_ := Aside0.mk ((by rw [hg]; exact (below_size u3_0) : w.heap.size ≤ gb137)); clear HB; have HB := n0_; have BK137 := n1_; have GW137 := n2_; have GE137 := n3_; clear n0_ n1_ n2_ n3_; clear hb hbox hg; have hcz5_0 : w4.cell? ⟨gb137, 0, none⟩ = some (.int .i64 a0_0) := (blk_cell BK137.out 0).trans rfl; have hcz5_1 : w4.cell? ⟨gb137, 1, none⟩ = some (.string a0_1) := (blk_cell BK137.out 1).trans rfl; have hfz5_0 := blk_frozen BK137.out 0; have hfz5_1 := blk_frozen BK137.out 1))
    go_ret
    exact ⟨by first | rfl | (simp [errW_none, errW_some] <;> rfl) | (simp [*, errW_none, errW_some] <;> rfl), u3_9⟩
  rw [if_neg c3] at H
  have c3b0 : decide (a0_0 ≤ 1000000) = false := decide_eq_false c3
  clear c3
  obtain rfl := Option.some.inj H
  go_enter Try.func111, Try.ntmps111
  go_wp2_with (first | ((with_reducible refine gate_dst (N := 1) rfl ?_); (try (refine gate_guard (by rfl) ?_; dsimp only)); refine box_event ?hg (N := 1) ?hd (cs := #[.int .i64 a0_0, .string a0_1]) (t := 85) ?hr ?_; (case hd => rfl); (case hg => rfl); (case hr => first | (go_simp; done) | (go_simp; rfl)); intro gb137 hg w6 hbox hb; have n0_ := Aside0.mk (below_step u3_0 hb); have n1_ := Aside0.mk (hbox); have n2_ := Aside0.mk ((by rw [hg]; exact (below_size u3_0) : w.heap.size ≤ gb137)); have n3_ := Aside0.mk ((by rw [hg]; exact (below_size u3_0) : w.heap.size ≤ gb137)); clear HB; have HB := n0_; have BK137 := n1_; have GW137 := n2_; have GE137 := n3_; clear n0_ n1_ n2_ n3_; clear hb hbox hg; have hcz7_0 : w6.cell? ⟨gb137, 0, none⟩ = some (.int .i64 a0_0) := (blk_cell BK137.out 0).trans rfl; have hcz7_1 : w6.cell? ⟨gb137, 1, none⟩ = some (.string a0_1) := (blk_cell BK137.out 1).trans rfl; have hfz7_0 := blk_frozen BK137.out 0; have hfz7_1 := blk_frozen BK137.out 1))
  go_ret
  exact ⟨by first | rfl | (simp [errW_none, errW_some] <;> rfl) | (simp [*, errW_none, errW_some] <;> rfl), u3_9⟩

/-! ### impl_Entry: function 109 -/
def impl_Entry.ent (y : S85) : Bool := decide (y.f0 > 0) && (decide (y.f0 ≤ 1000000) && decide ((y.f1.size : Int) ≤ 40))
theorem impl_Entry.ent_e (y : S85) : impl_isEntry.f y.f0 y.f1 = some (impl_Entry.ent y) := by
  unfold impl_isEntry.f impl_Entry.ent
  by_cases h1 : y.f0 > 0
  rotate_left
  · simp [h1]
  by_cases h2 : y.f0 ≤ 1000000
  · simp [h1, h2]
  simp [h1, h2]
def impl_Entry.p (a1_3 : Int) (y : S85) : Bool := !impl_Entry.ent y || decide (y.f0 > a1_3)
def impl_Entry.f (l0 : List S85) (a1_0 : Int) (a1_1 : Int) (a1_2 : Int) (a1_3 : Int) (a1_4 : Int) (a1_5 : Int) (a1_6 : Int) (a1_7 : Bool) (l1_8 : List (S85)) : Option Bool := some (l0.any (impl_Entry.p a1_3))
set_option maxHeartbeats 800000 in
set_option maxRecDepth 100000 in
theorem impl_Entry.lit (b : Nat) (a1_3 : Int) (y : S85) (w : World) (hid : w.cell? ⟨b, 3, none⟩ = some (.int .i64 a1_3)) :
    Calls Try.prog 110 #[.agg #[.int .i64 y.f0, .string y.f1], .pointer (some ⟨b, 0, none⟩)] w fun e w' => e = .returned (.bool (impl_Entry.p a1_3 y)) ∧ Below w.heap.size w w' := by
  have hu := Try.underlying85
  have hu2 := Try.underlying29
  have hlt := World.block_lt_of_cell? w _ hid
  have hE := impl_Entry.ent_e y
  have HID := Aside0.mk hid
  have HLT := Aside0.mk hlt
  clear hid hlt
  unfold impl_Entry.p
  cases hq : impl_Entry.ent y with
  | false =>
    rw [hq] at hE
    have HE := Aside0.mk hE
    clear hE hq
    go_enter Try.func110, Try.ntmps110
    go_wp2_with (go_at_call 111; refine (impl_isEntry.calls _ _ _ _ HE.out).mono ?_; rintro e w' ⟨rfl, hb'⟩; have HB := Aside0.mk (below_step (below_alloc (Below.refl w.heap.size w) _) hb'); have hy0 : w'.cell? ⟨w.heap.size, 0, none⟩ = some (.int .i64 y.f0) := (hb'.cell (p := ⟨w.heap.size, 0, none⟩) (by simp)).trans (by simp); clear hb'; have hc3 := (HB.out.cell (p := ⟨b, 3, none⟩) HLT.out).trans HID.out)
    go_ret
    exact ⟨by simp, HB.out⟩
  | true =>
    rw [hq] at hE
    have HE := Aside0.mk hE
    clear hE hq
    go_enter Try.func110, Try.ntmps110
    go_wp2_with (go_at_call 111; refine (impl_isEntry.calls _ _ _ _ HE.out).mono ?_; rintro e w' ⟨rfl, hb'⟩; have HB := Aside0.mk (below_step (below_alloc (Below.refl w.heap.size w) _) hb'); have hy0 : w'.cell? ⟨w.heap.size, 0, none⟩ = some (.int .i64 y.f0) := (hb'.cell (p := ⟨w.heap.size, 0, none⟩) (by simp)).trans (by simp); clear hb'; have hc3 := (HB.out.cell (p := ⟨b, 3, none⟩) HLT.out).trans HID.out)
    go_ret
    exact ⟨by simp, HB.out⟩
set_option maxHeartbeats 1600000 in
theorem impl_Entry.idx (p : S85 → Bool) (bs : Array Value) (A0 : Option Addr) (c0 : Nat) (l0 : List S85) (w : World) (hr0 : Kd.C k85 w A0 l0.length l0) (hc0 : l0.length ≤ c0)
    (hf : ∀ (y : S85) (W : World), Below w.heap.size w W → Calls Try.prog 110 (#[.agg #[.int .i64 y.f0, .string y.f1]] ++ bs) W fun e w' => e = .returned (.bool (p y)) ∧ Below W.heap.size W w') :
    Calls Try.prog 122 #[.slice A0 l0.length c0, .func (.func 110) #[] bs] w fun e w' => e = .returned (.int .i64 (Go.Proofs.Ytkcadcoohmofcaa.Slc.idxB p l0)) ∧ Below w.heap.size w w' := by
  have hu85 := Try.underlying85
  have hn : l0.length ≤ 9223372036854775807 := hr0.2.1
  have HR := Aside0.mk hr0
  have HF := Aside0.mk hf
  clear hr0 hf
  go_enter Try.func122, Try.ntmps122
  go_wp2
  go_loopg [5, 8] l0.length (fun gg _ s8 wr => ∃ kk : Int, 0 ≤ kk ∧ kk ≤ l0.length ∧ l0.length - kk.toNat ≤ gg ∧ s8 = .int .i64 kk ∧ Aside0 (Below w.heap.size w wr) ∧ Aside0 (∀ j : Nat, (j : Int) < kk → p (l0.getD j z85) = false))
  case atStart => exact ⟨0, by omega, by omega, by omega, rfl, ⟨Below.refl _ w⟩, ⟨fun j hj => by omega⟩⟩
  obtain ⟨kk, h0, hk, hg, rfl, BW, HA⟩ := hrel
  by_cases hlt : kk < (l0.length : Int)
  rotate_left
  · go_wp2
    go_ret
    refine ⟨?_, BW.out⟩
    rw [Go.Proofs.Ytkcadcoohmofcaa.Slc.idxB_miss p l0 z85 (fun j hj => HA.out j (by omega))]
    rfl
  obtain ⟨ad, e, hx0, hx1⟩ := at_T85 HR.out kk h0 hlt
  cases e
  replace hx0 := (BW.out.cell (World.block_lt_of_cell? w _ hx0)).trans hx0
  replace hx1 := (BW.out.cell (World.block_lt_of_cell? w _ hx1)).trans hx1
  have HC := Aside0.mk (HF.out (l0.getD kk.toNat z85) wr BW.out)
  cases hq : p (l0.getD kk.toNat z85) with
  | true =>
    have HQ := Aside0.mk hq
    rw [hq] at HC
    clear hq
    go_wp2_with (go_at_call 110; refine HC.out.mono ?_; rintro e w' ⟨rfl, hb'⟩)
    go_ret
    refine ⟨?_, below_step BW.out hb'⟩
    rw [Go.Proofs.Ytkcadcoohmofcaa.Slc.idxB_hit p l0 z85 kk.toNat (by omega) HQ.out (fun j hj => HA.out j (by omega)), Int.toNat_of_nonneg h0]
    rfl
  | false =>
    have HQ := Aside0.mk hq
    rw [hq] at HC
    clear hq
    go_wp2_with (go_at_call 110; refine HC.out.mono ?_; rintro e w' ⟨rfl, hb'⟩)
    go_roundg (l0.length - (kk + 1).toNat)
    case measure => omega
    case rel =>
      refine ⟨kk + 1, by omega, by omega, by omega, by go_num, ⟨below_step BW.out hb'⟩, ⟨fun j hj => ?_⟩⟩
      by_cases e : (j : Int) = kk
      rotate_left
      · exact HA.out j (by omega)
      have := HQ.out
      rw [← e, Int.toNat_natCast] at this
      exact this
set_option maxHeartbeats 400000 in
theorem impl_Entry.calls (A0 : Option Addr) (c0 : Nat) (l0 : List S85) (a1_0 : Int) (a1_1 : Int) (a1_2 : Int) (a1_3 : Int) (a1_4 : Int) (a1_5 : Int) (a1_6 : Int) (a1_7 : Bool) (A1_8 : Option Addr) (c1_8 : Nat) (l1_8 : List (S85)) (r : Bool) (w : World) {b : Nat} (hr0 : Kd.C k85 w A0 l0.length l0) (hc0 : l0.length ≤ c0) (hr1_8 : Kd.C k85 w A1_8 l1_8.length l1_8) (hc1_8 : l1_8.length ≤ c1_8) (hb : w.heap[b]? = some (.cells #[.int .i64 a1_0, .int .i64 a1_1, .int .i64 a1_2, .int .i64 a1_3, .int .i64 a1_4, .int .i64 a1_5, .int .i64 a1_6, .bool a1_7, .slice A1_8 l1_8.length c1_8] 29 (0, 0))) (h : impl_Entry.f l0 a1_0 a1_1 a1_2 a1_3 a1_4 a1_5 a1_6 a1_7 l1_8 = some r) :
    Calls Try.prog 109 #[.slice A0 l0.length c0, .func (.func 110) #[] #[.pointer (some ⟨b, 0, none⟩)]] w fun e w' => e = .returned (.bool r) ∧ Below w.heap.size w w' := by
  obtain rfl := Option.some.inj h
  have HI := Aside0.mk (impl_Entry.idx (impl_Entry.p a1_3) #[.pointer (some ⟨b, 0, none⟩)] A0 c0 l0 w hr0 hc0 (fun y W hW => impl_Entry.lit b a1_3 y W ((blk_cell ((hW.block b (blk_lt hb)).trans hb) 3).trans rfl)))
  clear hr0 hc0 hb h hr1_8 hc1_8
  go_enter Try.func109, Try.ntmps109
  go_wp2_with (go_at_call 122; refine HI.out.mono ?_; rintro e w' ⟨rfl, hb'⟩)
  go_ret
  exact ⟨(by first | (rw [← Go.Proofs.Ytkcadcoohmofcaa.Slc.idxB_any]; done) | (rw [← Go.Proofs.Ytkcadcoohmofcaa.Slc.idxB_any]; rfl)), hb'⟩


end Go.Proofs.Ytkcadcoohmofcaa.QFnExactMsgOk
