-- Printed by the session's own program wip/prx.py.
import Derived.Test.YtkcadcoohmofcaaQFnExactNodeOkx0
namespace Go.Proofs.Ytkcadcoohmofcaa.QFnExactNodeOk
open Go.RowKit Go.Proofs.YtkcadcoohmofcaaW.PrintWords Go.Proofs.YtkcadcoohmofcaaW.PrintLast Go.Proofs.YtkcadcoohmofcaaW.PrintMore
attribute [local go_sem] max2_int min2_int max_two min_two max_three min_three max_four min_four Go.Proofs.Ytkcadcoohmofcaa.Set.isSome_setCell   -- for this text's walks alone
set_option linter.unusedVariables false
set_option linter.unusedSimpArgs false

-- squeezed
theorem u6_0 {P : Prop} (h : P := by repeat (first | (with_reducible first | exact HB.out | apply below_alloc | apply pw_below_drewN | apply below_drew1) | exact HB.out)) : P := h
theorem u6_1 {P : Prop} (h : P := by repeat (first | (with_reducible first | exact HB.out | apply below_alloc | apply pw_below_drewN | apply below_drew1 | refine below_set ?_ GE198.out) | exact HB.out)) : P := h
theorem u6_2 {P : Prop} (h : P := by repeat (first | (with_reducible first | exact HB.out | apply below_alloc | apply pw_below_drewN | apply below_drew1 | refine below_set ?_ GE183.out | refine below_set ?_ GE184.out | refine below_set ?_ GE185.out) | exact HB.out)) : P := h
theorem u6_3 {P : Prop} (h : P := by (with_reducible repeat (first | refine blk_drewN ?_ _ | refine blk_drew ?_ | refine blk_alloc ?_ _)); exact BK198.out) : P := h
theorem u6_4 {P : Prop} (h : P := by first | (with_reducible assumption) | assumption) : P := h
theorem u6_5 {P : Prop} (h : P := by (try simp only [List.map_toArray, List.map_cons, List.map_nil]); first | done | rfl | (simp only [List.length_drop, List.length_take]; rfl)) : P := h
theorem u6_6 {P : Prop} (h : P := by repeat (first | (with_reducible first | exact HB.out | apply below_alloc | apply pw_below_drewN | apply below_drew1 | refine below_set ?_ GE198.out | refine below_set ?_ GE200.out) | exact HB.out)) : P := h
theorem u6_7 {P : Prop} (h : P := by repeat (first | (with_reducible first | exact HB.out | apply below_alloc | apply pw_below_drewN | apply below_drew1 | refine below_set ?_ GE172.out | refine below_set ?_ GE173.out | refine below_set ?_ GE174.out) | exact HB.out)) : P := h
theorem u6_8 {P : Prop} (h : P := by (with_reducible repeat (first | refine blk_drewN ?_ _ | refine blk_drew ?_ | refine blk_alloc ?_ _)); exact BK162.out) : P := h
theorem u6_9 {P : Prop} (h : P := by (with_reducible repeat (first | refine blk_drewN ?_ _ | refine blk_drew ?_ | refine blk_alloc ?_ _)); exact BK172.out) : P := h
theorem u6_10 {P : Prop} (h : P := by (with_reducible repeat (first | refine blk_drewN ?_ _ | refine blk_drew ?_ | refine blk_alloc ?_ _)); exact BK183.out) : P := h
theorem u6_11 {P : Prop} (h : P := by first | rfl | (simp; done) | (simp [*]; done)) : P := h
theorem u6_12 {P : Prop} (h : P := by (with_reducible repeat (first | apply Kd.R_alloc | apply Kd.R_drewN | apply Kd.R_drew)); exact HO_3.out) : P := h
theorem u6_13 {P : Prop} (h : P := by (with_reducible repeat (first | refine blk_drewN ?_ _ | refine blk_drew ?_ | refine blk_alloc ?_ _)); refine blk_put (cs := #[.int .i64 ((rd_T85 l0_2 x44_2).f0), .string (⟨#[]⟩ : ByteArray)]) ?_ 1 _ rfl; (with_reducible repeat (first | refine blk_drewN ?_ _ | refine blk_drew ?_ | refine blk_alloc ?_ _)); refine blk_put (cs := #[.int .i64 0, .string (⟨#[]⟩ : ByteArray)]) ?_ 0 _ rfl; (with_reducible repeat (first | refine blk_drewN ?_ _ | refine blk_drew ?_ | refine blk_alloc ?_ _)); exact BK200.out) : P := h
theorem u6_14 {P : Prop} (h : P := by (with_reducible repeat (first | refine blk_drewN ?_ _ | refine blk_drew ?_ | refine blk_alloc ?_ _)); refine blk_far ?_ NB198_200.out _; (with_reducible repeat (first | refine blk_drewN ?_ _ | refine blk_drew ?_ | refine blk_alloc ?_ _)); refine blk_far ?_ NB198_200.out _; (with_reducible repeat (first | refine blk_drewN ?_ _ | refine blk_drew ?_ | refine blk_alloc ?_ _)); exact BK198.out) : P := h
theorem u6_15 {P : Prop} (h : P := by repeat (first | (with_reducible first | exact HB.out | apply below_alloc | apply pw_below_drewN | apply below_drew1 | refine below_set ?_ GE162.out | refine below_set ?_ GE163.out) | exact HB.out)) : P := h
theorem u6_16 {P : Prop} (h : P := by repeat (first | (with_reducible first | exact HB.out | apply below_alloc | apply pw_below_drewN | apply below_drew1 | refine below_set ?_ GE172.out | refine below_set ?_ GE173.out) | exact HB.out)) : P := h
theorem u6_17 {P : Prop} (h : P := by repeat (first | (with_reducible first | exact HB.out | apply below_alloc | apply pw_below_drewN | apply below_drew1 | refine below_set ?_ GE183.out | refine below_set ?_ GE184.out) | exact HB.out)) : P := h
theorem u6_18 {P : Prop} (h : P := by repeat (first | (with_reducible first | exact HB.out | apply below_alloc | apply pw_below_drewN | apply below_drew1 | refine below_set ?_ GE162.out) | exact HB.out)) : P := h
theorem u6_19 {P : Prop} (h : P := by repeat (first | (with_reducible first | exact HB.out | apply below_alloc | apply pw_below_drewN | apply below_drew1 | refine below_set ?_ GE172.out) | exact HB.out)) : P := h
theorem u6_20 {P : Prop} (h : P := by repeat (first | (with_reducible first | exact HB.out | apply below_alloc | apply pw_below_drewN | apply below_drew1 | refine below_set ?_ GE183.out) | exact HB.out)) : P := h
theorem u6_21 {P : Prop} (h : P := by repeat (first | (with_reducible first | exact HB.out | apply below_alloc | apply pw_below_drewN | apply below_drew1 | refine below_set ?_ GE197.out) | exact HB.out)) : P := h
theorem u6_22 {P : Prop} (h : P := by (with_reducible repeat (first | apply Kd.R_alloc | apply Kd.R_drewN | apply Kd.R_drew)); exact (Kd.R_mono (Kd.R_far (p := ⟨gb185, 8, none⟩) (Kd.R_types HO193.out BK185.out (by decide)) (fun _ hk => hk.2) (.slice Ao18 t191.length co18)) (fun _ h_ => h_.1))) : P := h
theorem u6_23 {P : Prop} (h : P := by (with_reducible repeat (first | refine blk_drewN ?_ _ | refine blk_drew ?_ | refine blk_alloc ?_ _)); exact BK163.out) : P := h
theorem u6_24 {P : Prop} (h : P := by (with_reducible repeat (first | refine blk_drewN ?_ _ | refine blk_drew ?_ | refine blk_alloc ?_ _)); exact BK173.out) : P := h
theorem u6_25 {P : Prop} (h : P := by (with_reducible repeat (first | refine blk_drewN ?_ _ | refine blk_drew ?_ | refine blk_alloc ?_ _)); exact BK184.out) : P := h
/-! ### laws_toEntry: function 108 -/
def laws_toEntry.f (a0_0 : Int) (a0_1 : ByteArray) : Option (Int × ByteArray) := some (a0_0, a0_1)
set_option maxHeartbeats 8000000 in
set_option maxRecDepth 100000 in
theorem laws_toEntry.calls (a0_0 : Int) (a0_1 : ByteArray) (r1 : Int) (r2 : ByteArray) (w : World) (h : laws_toEntry.f a0_0 a0_1 = some (r1, r2)) :
    Calls Try.prog 108 #[.agg #[.int .i64 a0_0, .string a0_1]] w fun e w' => e = .returned (.agg #[.int .i64 r1, .string r2]) ∧ Below w.heap.size w w' := by
  have hu112 := Try.underlying112
  have hu85 := Try.underlying85
  have HB := Aside0.mk (Below.refl w.heap.size w)
  have H : (some (a0_0, a0_1)) = some (r1, r2) := h
  clear h
  simp only [Option.some.injEq, Prod.mk.injEq] at H
  obtain ⟨rfl, rfl⟩ := H
  go_enter Try.func108, Try.ntmps108
  go_wp2_with (first | ((with_reducible refine gate_dst (N := 1) rfl ?_); refine box_event ?hg (N := 1) ?hd (cs := #[.int .i64 a0_0, .string a0_1]) (t := 112) ?hr ?_; (case hd => rfl); (case hg => rfl); (case hr => first | (go_simp; done) | (go_simp; rfl)); intro gb162 hg w2 hbox hb; have n0_ := Aside0.mk (below_step u6_0 hb); have n1_ := Aside0.mk (hbox); have n2_ := Aside0.mk ((by rw [hg]; exact (below_size u6_0) : w.heap.size ≤ gb162)); have n3_ := Aside0.mk ((by rw [hg]; exact (below_size u6_0) : w.heap.size ≤ gb162)); clear HB; have HB := n0_; have BK162 := n1_; have GW162 := n2_; have GE162 := n3_; clear n0_ n1_ n2_ n3_; clear hb hbox hg) | ((with_reducible refine gate_dst (N := 2) rfl ?_); refine box_event ?hg (N := 2) ?hd (cs := #[.int .i64 0, .string (⟨#[]⟩ : ByteArray)]) (t := 85) ?hr ?_; (case hd => rfl); (case hg => rfl); (case hr => first | (go_simp; done) | (go_simp; rfl)); intro gb163 hg w3 hbox hb; have n0_ := Aside0.mk (blk_below (g := gb162) (o := .cells #[.int .i64 a0_0, .string a0_1] 112 (0, 0)) u6_8 hb); have n1_ := Aside0.mk (below_step u6_18 hb); have n2_ := Aside0.mk (hbox); have n3_ := Aside0.mk ((by rw [hg]; exact (below_size u6_18) : w.heap.size ≤ gb163)); have n4_ := Aside0.mk ((by rw [hg]; exact (below_size u6_18) : w.heap.size ≤ gb163)); have n5_ := Aside0.mk ((by rw [hg]; exact Nat.ne_of_lt (blk_lt (g := gb162) (o := .cells #[.int .i64 a0_0, .string a0_1] 112 (0, 0)) u6_8) : gb162 ≠ gb163)); have n6_ := Aside0.mk ((by rw [hg]; exact Nat.ne_of_gt (blk_lt (g := gb162) (o := .cells #[.int .i64 a0_0, .string a0_1] 112 (0, 0)) u6_8) : gb163 ≠ gb162)); clear BK162; clear HB; have BK162 := n0_; have HB := n1_; have BK163 := n2_; have GW163 := n3_; have GE163 := n4_; have NB162_163 := n5_; have NB163_162 := n6_; clear n0_ n1_ n2_ n3_ n4_ n5_ n6_; clear hb hbox hg) | ((with_reducible refine gate_dst (N := 3) rfl ?_); refine box_event ?hg (N := 3) ?hd (cs := #[.int .i64 0, .string (⟨#[]⟩ : ByteArray)]) (t := 85) ?hr ?_; (case hd => rfl); (case hg => rfl); (case hr => first | (go_simp; done) | (go_simp; rfl)); intro gb164 hg w4 hbox hb; have n0_ := Aside0.mk (blk_below (g := gb162) (o := .cells #[.int .i64 a0_0, .string a0_1] 112 (0, 0)) u6_8 hb); have n1_ := Aside0.mk (blk_below (g := gb163) (o := .cells #[.int .i64 0, .string (⟨#[]⟩ : ByteArray)] 85 (0, 0)) u6_23 hb); have n2_ := Aside0.mk (below_step u6_15 hb); have n3_ := Aside0.mk (hbox); have n4_ := Aside0.mk ((by rw [hg]; exact (below_size u6_15) : w.heap.size ≤ gb164)); have n5_ := Aside0.mk ((by rw [hg]; exact (below_size u6_15) : w.heap.size ≤ gb164)); have n6_ := Aside0.mk ((by rw [hg]; exact Nat.ne_of_lt (blk_lt (g := gb162) (o := .cells #[.int .i64 a0_0, .string a0_1] 112 (0, 0)) u6_8) : gb162 ≠ gb164)); have n7_ := Aside0.mk ((by rw [hg]; exact Nat.ne_of_gt (blk_lt (g := gb162) (o := .cells #[.int .i64 a0_0, .string a0_1] 112 (0, 0)) u6_8) : gb164 ≠ gb162)); have n8_ := Aside0.mk ((by rw [hg]; exact Nat.ne_of_lt (blk_lt (g := gb163) (o := .cells #[.int .i64 0, .string (⟨#[]⟩ : ByteArray)] 85 (0, 0)) u6_23) : gb163 ≠ gb164)); have n9_ := Aside0.mk ((by rw [hg]; exact Nat.ne_of_gt (blk_lt (g := gb163) (o := .cells #[.int .i64 0, .string (⟨#[]⟩ : ByteArray)] 85 (0, 0)) u6_23) : gb164 ≠ gb163)); clear BK162; clear BK163; clear HB; have BK162 := n0_; have BK163 := n1_; have HB := n2_; have BK164 := n3_; have GW164 := n4_; have GE164 := n5_; have NB162_164 := n6_; have NB164_162 := n7_; have NB163_164 := n8_; have NB164_163 := n9_; clear n0_ n1_ n2_ n3_ n4_ n5_ n6_ n7_ n8_ n9_; clear hb hbox hg; have hnb5 := NB162_163.out; have hnc5 := NB163_162.out; have hnb6 := NB162_164.out; have hnc6 := NB164_162.out; have hcz7_0 : w4.cell? ⟨gb162, 0, none⟩ = some (.int .i64 a0_0) := (blk_cell BK162.out 0).trans rfl; have hcz7_1 : w4.cell? ⟨gb162, 1, none⟩ = some (.string a0_1) := (blk_cell BK162.out 1).trans rfl; have hfz7_0 := blk_frozen BK162.out 0; have hfz7_1 := blk_frozen BK162.out 1; have hnb8 := NB164_163.out; have hnc8 := NB163_164.out; have hcz9_0 : w4.cell? ⟨gb164, 0, none⟩ = some (.int .i64 0) := (blk_cell BK164.out 0).trans rfl; have hcz9_1 : w4.cell? ⟨gb164, 1, none⟩ = some (.string (⟨#[]⟩ : ByteArray)) := (blk_cell BK164.out 1).trans rfl; have hfz9_0 := blk_frozen BK164.out 0; have hfz9_1 := blk_frozen BK164.out 1; have hcz10_0 : w4.cell? ⟨gb163, 0, none⟩ = some (.int .i64 0) := (blk_cell BK163.out 0).trans rfl; have hcz10_1 : w4.cell? ⟨gb163, 1, none⟩ = some (.string (⟨#[]⟩ : ByteArray)) := (blk_cell BK163.out 1).trans rfl; have hfz10_0 := blk_frozen BK163.out 0; have hfz10_1 := blk_frozen BK163.out 1))
  refine bodyPost_ret (results_cell_row rfl _ _ gb163 85 #[.int .i64 a0_0, .string a0_1] (0, 0) _ rfl (by (with_reducible repeat (first | refine blk_drewN ?_ _ | refine blk_drew ?_ | refine blk_alloc ?_ _)); refine blk_put (cs := #[.int .i64 a0_0, .string (⟨#[]⟩ : ByteArray)]) ?_ 1 _ rfl; (with_reducible repeat (first | refine blk_drewN ?_ _ | refine blk_drew ?_ | refine blk_alloc ?_ _)); refine blk_put (cs := #[.int .i64 0, .string (⟨#[]⟩ : ByteArray)]) ?_ 0 _ rfl; (with_reducible repeat (first | refine blk_drewN ?_ _ | refine blk_drew ?_ | refine blk_alloc ?_ _)); refine blk_far ?_ NB163_164.out _; (with_reducible repeat (first | refine blk_drewN ?_ _ | refine blk_drew ?_ | refine blk_alloc ?_ _)); refine blk_far ?_ NB163_164.out _; (with_reducible repeat (first | refine blk_drewN ?_ _ | refine blk_drew ?_ | refine blk_alloc ?_ _)); exact BK163.out) Try.underlying85 rfl (by kernel_rfl)) rfl ?_
  exact ⟨by first | rfl | (simp [errW_none, errW_some] <;> rfl) | (simp [*, errW_none, errW_some] <;> rfl), (by repeat (first | (with_reducible first | exact HB.out | apply below_alloc | apply pw_below_drewN | apply below_drew1 | refine below_set ?_ GE162.out | refine below_set ?_ GE163.out | refine below_set ?_ GE164.out) | exact HB.out))⟩

/-! ### laws_toEntryS: function 65 -/
def laws_toEntryS.l0 : Nat → List (S112) → List (S85) → Int → Option ((List (S85)))
  | 0, _, _, _ => none
  | k + 1, x0, x3, x4 => if x4 < (x0.length : Int) then (if 0 ≤ x4 then ((laws_toEntry.f ((rd_T112 x0 x4).f0) ((rd_T112 x0 x4).f1)).bind fun bt169 => (if x4 < (x3.length : Int) then (laws_toEntryS.l0 k x0 (x3.set (x4 : Int).toNat (⟨bt169.1, bt169.2⟩ : S85)) (wrap64 (x4 + 1))) else (none))) else (none)) else (some x3)
def laws_toEntryS.f (k : Nat) (l0 : List (S112)) : Option ((List (S85))) := if 0 ≤ (l0.length : Int) then (if ((l0.length : Int) : Int).toNat ≤ 11728124029610 then (laws_toEntryS.l0 k l0 (List.replicate ((l0.length : Int) : Int).toNat z85) 0) else (none)) else (none)
theorem laws_toEntryS.mono_l : ∀ k, (∀ y0 y1 y2, LeO (laws_toEntryS.l0 k y0 y1 y2) (laws_toEntryS.l0 (k + 1) y0 y1 y2))
  | 0 => fun _ _ _ r h => by simp [laws_toEntryS.l0] at h
  | k + 1 => by
    have ih0 := laws_toEntryS.mono_l k
    · intro y0 y1 y2
      unfold laws_toEntryS.l0
      repeat' first
      | (with_reducible exact ih0 _ _ _)
      | (with_reducible exact LeO.refl _)
      | (with_reducible exact LeO.none _)
      | (with_reducible refine LeO.ite ?_ ?_)
      | (with_reducible refine LeO.bind ?_ (fun _ => ?_))
      | exact ih0 _ _ _
      | exact LeO.none _
      | refine LeO.ite ?_ ?_
      | refine LeO.bind ?_ (fun _ => ?_)
theorem laws_toEntryS.mono : ∀ a0 k, LeO (laws_toEntryS.f k a0) (laws_toEntryS.f (k + 1) a0) := by
  intro a0 k
  have ih0 := laws_toEntryS.mono_l k
  unfold laws_toEntryS.f
  repeat' first
      | (with_reducible exact ih0 _ _ _)
      | (with_reducible exact LeO.refl _)
      | (with_reducible exact LeO.none _)
      | (with_reducible refine LeO.ite ?_ ?_)
      | (with_reducible refine LeO.bind ?_ (fun _ => ?_))
      | exact ih0 _ _ _
      | exact LeO.none _
      | refine LeO.ite ?_ ?_
      | refine LeO.bind ?_ (fun _ => ?_)
set_option maxHeartbeats 8000000 in
set_option maxRecDepth 100000 in
theorem laws_toEntryS.calls (k : Nat) (A0 : Option Addr) (c0 : Nat) (l0 : List (S112)) (r : List (S85)) (w : World) (hr0 : Kd.C k112 w A0 l0.length l0) (hc0 : l0.length ≤ c0) (h : laws_toEntryS.f k l0 = some r) :
    Calls Try.prog 65 #[.slice A0 l0.length c0] w fun e w' => ∃ v0_ : Value, e = .returned (v0_) ∧ Kd.R k85 85 w' w.heap.size (fun _ => True) v0_ r ∧ Below w.heap.size w w' := by
  have hu112 := Try.underlying112
  have hu85 := Try.underlying85
  have HR0 := Aside0.mk hr0
  have HC0 := Aside0.mk hc0
  clear hr0 hc0
  have HB := Aside0.mk (Below.refl w.heap.size w)
  have H : (if 0 ≤ (l0.length : Int) then (if ((l0.length : Int) : Int).toNat ≤ 11728124029610 then (laws_toEntryS.l0 k l0 (List.replicate ((l0.length : Int) : Int).toNat z85) 0) else (none)) else (none)) = some r := h
  clear h
  by_cases c2 : 0 ≤ (l0.length : Int)
  rotate_left
  · rw [if_neg c2] at H
    exact absurd H (by simp)
  rw [if_pos c2] at H
  have c2b0 := eq_true c2
  have c2b1 : decide (0 ≤ (l0.length : Int)) = true := decide_eq_true c2
  clear c2
  by_cases c3 : ((l0.length : Int) : Int).toNat ≤ 11728124029610
  rotate_left
  · rw [if_neg c3] at H
    exact absurd H (by simp)
  rw [if_pos c3] at H
  have c3b0 := eq_true c3
  have c3b1 : decide (((l0.length : Int) : Int).toNat ≤ 11728124029610) = true := decide_eq_true c3
  clear c3
  obtain ⟨y165, hy165⟩ : ∃ y_ : List (S85), y_ = (List.replicate ((l0.length : Int) : Int).toNat z85) := ⟨_, rfl⟩
  replace H : (laws_toEntryS.l0 k l0 y165 0) = some r := by first | (rw [hy165]; with_reducible exact H) | (have H2_ := (Option.bind_some _ _).symm.trans H; rw [hy165]; with_reducible exact H2_) | (have H2_ := (Option.bind_some _ _).symm.trans H; with_reducible exact H2_) | with_reducible exact H | (rw [hy165]; exact H) | exact H
  have Ny165 := Aside0.mk hy165
  clear hy165
  have H' := Aside0.mk H
  clear H
  go_enter Try.func65, Try.ntmps65
  go_wp2_with (first | ((with_reducible refine gate_dst (N := 7) rfl ?_); refine Kd.R_make k85 _ 85 rfl (N := 7) rfl 27 _ _ rfl (l0.length : Int) rfl rfl Try.underlying27 (.agg #[(.int .i64 0), (.string ⟨#[]⟩)]) 24 info85 rfl (by decide) (by omega) z85 (ok := fun _ => True) (okp := fun _ => True) (k85_mkM _ _ _ z85 ) (fun _ hk => hk) trivial (of_decide_eq_true u6_4) (Nat.le_trans (Nat.mul_le_mul_right _ (of_decide_eq_true u6_4 : (l0.length : Int).toNat ≤ 11728124029610)) (by omega)) (Below.refl _ _) (Nat.le_refl _) ?_; intro v166 w4 ho5 hb hg_ hnew_; clear hg_ hnew_; (first | rw [← Ny165.out] at ho5 | (simp only [Int.reduceToNat] at ho5; rw [← Ny165.out] at ho5)); have n0_ := Aside0.mk (Kd.R_lower ho5 (below_size u6_0)); have n1_ := Aside0.mk (below_step u6_0 hb); clear HB; have HO167 := n0_; have HB := n1_; clear n0_ n1_; clear hb ho5))
  go_loopg [4] k (fun kq v4 w' => ∃ (x3_1 : List (S85)) (x4_1 : Int), v4 = .int .i64 x4_1 ∧ Aside0 (laws_toEntryS.l0 kq l0 x3_1 x4_1 = some r) ∧ Aside0 (kq ≤ k) ∧ Aside0 (Kd.R k85 85 w' w.heap.size (fun _ => True) v166 x3_1) ∧ Aside0 (Below w.heap.size w w'))
  case atStart => exact ⟨(y165), (0), u6_11, H', ⟨Nat.le_refl _⟩, ⟨(by (with_reducible repeat (first | apply Kd.R_alloc | apply Kd.R_drewN | apply Kd.R_drew)); exact HO167.out)⟩, ⟨u6_0⟩⟩
  clear H'
  try clear c2
  try clear c2b0
  try clear c2b1
  try clear p2
  try clear c3
  try clear c3b0
  try clear c3b1
  obtain ⟨x3_1, x4_1, rfl, HA, HK1, HO_3, HB⟩ := hrel
  cases gk with
  | zero => exact absurd HA.out (by simp [laws_toEntryS.l0])
  | succ k1 =>
    have H := HA.out
    clear HA
    simp only [laws_toEntryS.l0] at H
    by_cases c6 : x4_1 < (l0.length : Int)
    rotate_left
    · rw [if_neg c6] at H
      have c6b0 : decide (x4_1 < (l0.length : Int)) = false := decide_eq_false c6
      clear c6
      obtain rfl := Option.some.inj H
      go_wp2
      go_ret
      exact ⟨_, by first | rfl | (simp [errW_none, errW_some] <;> rfl) | (simp [*, errW_none, errW_some] <;> rfl), u6_12, u6_0⟩
    rw [if_pos c6] at H
    have c6b0 : decide (x4_1 < (l0.length : Int)) = true := decide_eq_true c6
    clear c6
    by_cases c7 : 0 ≤ x4_1
    rotate_left
    · rw [if_neg c7] at H
      exact absurd H (by simp)
    rw [if_pos c7] at H
    have c7b0 : decide (0 ≤ x4_1) = true := decide_eq_true c7
    clear c7
    replace H := Option.bind_eq_some_iff.mp H
    obtain ⟨⟨t169, t170⟩, A80, H⟩ := H
    (try dsimp only at H)
    have A8 := Aside0.mk A80
    clear A80
    by_cases c9 : x4_1 < (x3_1.length : Int)
    rotate_left
    · rw [if_neg c9] at H
      exact absurd H (by simp)
    rw [if_pos c9] at H
    have c9b0 : decide (x4_1 < (x3_1.length : Int)) = true := decide_eq_true c9
    clear c9
    obtain ⟨y171, hy171⟩ : ∃ y_ : List (S85), y_ = (x3_1.set (x4_1 : Int).toNat (⟨t169, t170⟩ : S85)) := ⟨_, rfl⟩
    replace H : (laws_toEntryS.l0 k1 l0 y171 (wrap64 (x4_1 + 1))) = some r := by first | (rw [hy171]; with_reducible exact H) | (have H2_ := (Option.bind_some _ _).symm.trans H; rw [hy171]; with_reducible exact H2_) | (have H2_ := (Option.bind_some _ _).symm.trans H; with_reducible exact H2_) | with_reducible exact H | (rw [hy171]; exact H) | exact H
    have Ny171 := Aside0.mk hy171
    clear hy171
    have H' := Aside0.mk H
    clear H
    have p168 : 0 ≤ (x4_1 : Int) := of_decide_eq_true u6_4
    have q168 : x4_1 < (l0.length : Int) := of_decide_eq_true u6_4
    obtain ⟨ad168, e168, hx168_0, hx168_1⟩ := at_T112 HR0.out x4_1 p168 q168
    cases e168
    replace hx168_0 := (HB.out.cell (World.block_lt_of_cell? w _ hx168_0)).trans hx168_0
    replace hx168_1 := (HB.out.cell (World.block_lt_of_cell? w _ hx168_1)).trans hx168_1
    replace p168 := eq_true p168
    replace q168 := eq_true q168
    go_wp2_with (first | ((with_reducible refine gate_callee (f := 108) rfl ?_); refine goesL_ (some 20) rfl rfl Try.func108 (by kernel_rfl) rfl #[.agg #[.int .i64 ((rd_T112 l0 x4_1).f0), .string ((rd_T112 l0 x4_1).f1)]] rfl u6_5 ?_; (with_reducible refine (laws_toEntry.calls ((rd_T112 l0 x4_1).f0) ((rd_T112 l0 x4_1).f1) t169 t170 _ A8.out).mono ?_); rintro e w11 ⟨rfl, hb⟩; refine ⟨_, rfl, ?_⟩; have n0_ := Aside0.mk (Kd.R_below u6_12 hb); have n1_ := Aside0.mk (below_step u6_0 hb); clear HO_3; clear HB; have HO_3 := n0_; have HB := n1_; clear n0_ n1_; (try clear hb); (try clear hb2); (try clear hk); (try clear hi); have p10 : 0 ≤ (x4_1 : Int) := of_decide_eq_true u6_4; have q10 : (x4_1 : Int) < ((x3_1.length : Int) : Int) := of_decide_eq_true u6_4; obtain ⟨go10, co10, eo10, gb10, gl10, cl10, HG10⟩ := Kd.R_form HO_3.out (by omega); (first | cases eo10 | (injection eo10 with ea_ en_ ec_; (first | subst ea_ | (injection ea_ with ea_; subst ea_)); subst ec_; clear en_)); have GB10 := Aside0.mk gb10; have GG10 := Aside0.mk HG10; clear gb10 gl10 HG10; obtain ⟨ce10, hcl10, hM10, hcc10, hfr10⟩ := Kd.R_elem HO_3.out z85 (x4_1 : Int) p10 q10; obtain rfl := k85_openM hM10; have hx10_0 : w11.cell? ⟨go10, (x4_1 : Int).toNat * 2, none⟩ = some (.int .i64 ((rd_T85 x3_1 x4_1).f0)) := hcc10 0 _ rfl; have hx10_1 : w11.cell? ⟨go10, (x4_1 : Int).toNat * 2 + 1, none⟩ = some (.string ((rd_T85 x3_1 x4_1).f1)) := hcc10 1 _ rfl; have hf10_0 : w11.frozen? ⟨go10, (x4_1 : Int).toNat * 2, none⟩ = false := hfr10 0; have hf10_1 : w11.frozen? ⟨go10, (x4_1 : Int).toNat * 2 + 1, none⟩ = false := hfr10 1; clear hcl10 hcc10 hfr10 hM10; replace p10 := eq_true p10; replace q10 := eq_true q10; have HX12 := Aside0.mk (show Kd.R k85 85 w11 w.heap.size (fun _ => True) (.slice (some ⟨go10, 0, none⟩) x3_1.length co10) x3_1 from u6_12); obtain ⟨ce12, hcl12, hM12, hcc12, hfr12⟩ := Kd.R_elem HX12.out z85 (x4_1 : Int) (of_decide_eq_true u6_4) (by have h_ : (x4_1 : Int) < ((x3_1.length : Int) : Int) := of_decide_eq_true u6_4; first | exact h_ | (have e_ := (Kd.R_reads' HO_3.out).1; omega) | simpa using h_); obtain rfl := k85_openM hM12; have HP12 := Kd.R_seg HX12.out (x4_1 : Int) (of_decide_eq_true u6_4) (by have h_ : (x4_1 : Int) < ((x3_1.length : Int) : Int) := of_decide_eq_true u6_4; first | exact h_ | (have e_ := (Kd.R_reads' HO_3.out).1; omega) | simpa using h_) (seg := [.int .i64 t169, .string t170]) (j := 0) hcl12 hcc12 (show 2 ≤ 2 from by decide) (x' := (⟨t169, t170⟩ : S85)) (k85_mkM _ _ _ (⟨t169, t170⟩ : S85) ) (fun _ hk => hk); have hx12_0 := hcc12 0 _ rfl; (try simp only [show (k85).sz = 2 from rfl, Nat.mul_one, Nat.add_zero] at hx12_0); have hf12_0 := hfr12 0; (try simp only [show (k85).sz = 2 from rfl, Nat.mul_one, Nat.add_zero] at hf12_0); have hx12_1 := hcc12 1 _ rfl; (try simp only [show (k85).sz = 2 from rfl, Nat.mul_one, Nat.add_zero] at hx12_1); have hf12_1 := hfr12 1; (try simp only [show (k85).sz = 2 from rfl, Nat.mul_one, Nat.add_zero] at hf12_1); clear hcl12 hcc12 hfr12 hM12) | ((with_reducible refine gate_store (t := 85) (p := 21) rfl ?_); refine store_event (t := 85) (p := 21) (v := ?vo_w13) (w1 := ((w11.setCell ⟨go10, (x4_1 : Int).toNat * 2, none⟩ (.int .i64 t169)).setCell ⟨go10, (x4_1 : Int).toNat * 2 + 1, none⟩ (.string t170))) ?hg ?ho ?hn ?hr ?_; (case ho => rfl); (case hg => rfl); (case hn => rfl); (case hr => first | (go_simp; done) | (go_simp; rfl)); intro w13 hw; have hg : w11.grownBy w13 (some go10) := (by rw [hw]; exact HP12.2); have hp_ : Kd.R k85 85 w13 w.heap.size (fun _ => True) (.slice (some ⟨go10, 0, none⟩) x3_1.length co10) y171 := (by rw [hw, Ny171.out]; exact HP12.1); clear HP12; have n0_ := Aside0.mk (hp_); have n1_ := Aside0.mk ((by rw [hw]; exact below_set (below_set (HB.out) GB10.out) GB10.out : Below w.heap.size w w13)); clear HO_3; clear HB; have HO_3 := n0_; have HB := n1_; clear n0_ n1_; clear hg hw hp_))
    go_roundg k1
    case measure => have := HK1.out; omega
    case rel => exact ⟨(y171), (wrap64 (x4_1 + 1)), u6_11, H', ⟨by have := HK1.out; omega⟩, ⟨u6_12⟩, ⟨u6_0⟩⟩

/-! ### laws_toRLog: function 76 -/
def laws_toRLog.f (k : Nat) (a0_0 : Int) (a0_1 : Int) (l0_2 : List (S112)) : Option (Int × Int × (List (S85))) := (laws_toEntryS.f k l0_2).bind fun t175 => (some (a0_0, a0_1, t175))
theorem laws_toRLog.mono : ∀ a0 a1 a2 k, LeO (laws_toRLog.f k a0 a1 a2) (laws_toRLog.f (k + 1) a0 a1 a2) := by
  intro a0 a1 a2 k
  unfold laws_toRLog.f
  repeat' first
      | (with_reducible exact laws_toEntryS.mono _ _)
      | (with_reducible exact LeO.refl _)
      | (with_reducible exact LeO.none _)
      | (with_reducible refine LeO.ite ?_ ?_)
      | (with_reducible refine LeO.bind ?_ (fun _ => ?_))
      | exact laws_toEntryS.mono _ _
      | exact LeO.none _
      | refine LeO.ite ?_ ?_
      | refine LeO.bind ?_ (fun _ => ?_)
set_option maxHeartbeats 8000000 in
set_option maxRecDepth 100000 in
theorem laws_toRLog.calls (k : Nat) (a0_0 : Int) (a0_1 : Int) (A0_2 : Option Addr) (c0_2 : Nat) (l0_2 : List (S112)) (r1 : Int) (r2 : Int) (r3 : List (S85)) (w : World) (hr0_2 : Kd.C k112 w A0_2 l0_2.length l0_2) (hc0_2 : l0_2.length ≤ c0_2) (h : laws_toRLog.f k a0_0 a0_1 l0_2 = some (r1, r2, r3)) :
    Calls Try.prog 76 #[.agg #[.int .i64 a0_0, .int .i64 a0_1, .slice A0_2 l0_2.length c0_2]] w fun e w' => ∃ v2_ : Value, e = .returned (.agg #[.int .i64 r1, .int .i64 r2, v2_]) ∧ Kd.R k85 85 w' w.heap.size (fun _ => True) v2_ r3 ∧ Below w.heap.size w w' := by
  have hu43 := Try.underlying43
  have hu34 := Try.underlying34
  have HR0_2 := Aside0.mk hr0_2
  have HC0_2 := Aside0.mk hc0_2
  clear hr0_2 hc0_2
  have HB := Aside0.mk (Below.refl w.heap.size w)
  have H : ((laws_toEntryS.f k l0_2).bind fun t175 => (some (a0_0, a0_1, t175))) = some (r1, r2, r3) := h
  clear h
  replace H := Option.bind_eq_some_iff.mp H
  obtain ⟨t175, A20, H⟩ := H
  replace H : (some (a0_0, a0_1, t175)) = some (r1, r2, r3) := H
  have A2 := Aside0.mk A20
  clear A20
  simp only [Option.some.injEq, Prod.mk.injEq] at H
  obtain ⟨rfl, rfl, rfl⟩ := H
  go_enter Try.func76, Try.ntmps76
  go_wp2_with (first | ((with_reducible refine gate_dst (N := 1) rfl ?_); refine box_event ?hg (N := 1) ?hd (cs := #[.int .i64 a0_0, .int .i64 a0_1, .slice A0_2 l0_2.length c0_2]) (t := 43) ?hr ?_; (case hd => rfl); (case hg => rfl); (case hr => first | (go_simp; done) | (go_simp; rfl)); intro gb172 hg w3 hbox hb; have n0_ := Aside0.mk (below_step u6_0 hb); have n1_ := Aside0.mk (hbox); have n2_ := Aside0.mk ((by rw [hg]; exact (below_size u6_0) : w.heap.size ≤ gb172)); have n3_ := Aside0.mk ((by rw [hg]; exact (below_size u6_0) : w.heap.size ≤ gb172)); clear HB; have HB := n0_; have BK172 := n1_; have GW172 := n2_; have GE172 := n3_; clear n0_ n1_ n2_ n3_; clear hb hbox hg) | ((with_reducible refine gate_dst (N := 2) rfl ?_); refine box_event ?hg (N := 2) ?hd (cs := #[.int .i64 0, .int .i64 0, .slice none 0 0]) (t := 34) ?hr ?_; (case hd => rfl); (case hg => rfl); (case hr => first | (go_simp; done) | (go_simp; rfl)); intro gb173 hg w4 hbox hb; have n0_ := Aside0.mk (blk_below (g := gb172) (o := .cells #[.int .i64 a0_0, .int .i64 a0_1, .slice A0_2 l0_2.length c0_2] 43 (0, 0)) u6_9 hb); have n1_ := Aside0.mk (below_step u6_19 hb); have n2_ := Aside0.mk (hbox); have n3_ := Aside0.mk ((by rw [hg]; exact (below_size u6_19) : w.heap.size ≤ gb173)); have n4_ := Aside0.mk ((by rw [hg]; exact (below_size u6_19) : w.heap.size ≤ gb173)); have n5_ := Aside0.mk ((by rw [hg]; exact Nat.ne_of_lt (blk_lt (g := gb172) (o := .cells #[.int .i64 a0_0, .int .i64 a0_1, .slice A0_2 l0_2.length c0_2] 43 (0, 0)) u6_9) : gb172 ≠ gb173)); have n6_ := Aside0.mk ((by rw [hg]; exact Nat.ne_of_gt (blk_lt (g := gb172) (o := .cells #[.int .i64 a0_0, .int .i64 a0_1, .slice A0_2 l0_2.length c0_2] 43 (0, 0)) u6_9) : gb173 ≠ gb172)); clear BK172; clear HB; have BK172 := n0_; have HB := n1_; have BK173 := n2_; have GW173 := n3_; have GE173 := n4_; have NB172_173 := n5_; have NB173_172 := n6_; clear n0_ n1_ n2_ n3_ n4_ n5_ n6_; clear hb hbox hg) | ((with_reducible refine gate_dst (N := 3) rfl ?_); refine box_event ?hg (N := 3) ?hd (cs := #[.int .i64 0, .int .i64 0, .slice none 0 0]) (t := 34) ?hr ?_; (case hd => rfl); (case hg => rfl); (case hr => first | (go_simp; done) | (go_simp; rfl)); intro gb174 hg w5 hbox hb; have n0_ := Aside0.mk (blk_below (g := gb172) (o := .cells #[.int .i64 a0_0, .int .i64 a0_1, .slice A0_2 l0_2.length c0_2] 43 (0, 0)) u6_9 hb); have n1_ := Aside0.mk (blk_below (g := gb173) (o := .cells #[.int .i64 0, .int .i64 0, .slice none 0 0] 34 (0, 0)) u6_24 hb); have n2_ := Aside0.mk (below_step u6_16 hb); have n3_ := Aside0.mk (hbox); have n4_ := Aside0.mk ((by rw [hg]; exact (below_size u6_16) : w.heap.size ≤ gb174)); have n5_ := Aside0.mk ((by rw [hg]; exact (below_size u6_16) : w.heap.size ≤ gb174)); have n6_ := Aside0.mk ((by rw [hg]; exact Nat.ne_of_lt (blk_lt (g := gb172) (o := .cells #[.int .i64 a0_0, .int .i64 a0_1, .slice A0_2 l0_2.length c0_2] 43 (0, 0)) u6_9) : gb172 ≠ gb174)); have n7_ := Aside0.mk ((by rw [hg]; exact Nat.ne_of_gt (blk_lt (g := gb172) (o := .cells #[.int .i64 a0_0, .int .i64 a0_1, .slice A0_2 l0_2.length c0_2] 43 (0, 0)) u6_9) : gb174 ≠ gb172)); have n8_ := Aside0.mk ((by rw [hg]; exact Nat.ne_of_lt (blk_lt (g := gb173) (o := .cells #[.int .i64 0, .int .i64 0, .slice none 0 0] 34 (0, 0)) u6_24) : gb173 ≠ gb174)); have n9_ := Aside0.mk ((by rw [hg]; exact Nat.ne_of_gt (blk_lt (g := gb173) (o := .cells #[.int .i64 0, .int .i64 0, .slice none 0 0] 34 (0, 0)) u6_24) : gb174 ≠ gb173)); clear BK172; clear BK173; clear HB; have BK172 := n0_; have BK173 := n1_; have HB := n2_; have BK174 := n3_; have GW174 := n4_; have GE174 := n5_; have NB172_174 := n6_; have NB174_172 := n7_; have NB173_174 := n8_; have NB174_173 := n9_; clear n0_ n1_ n2_ n3_ n4_ n5_ n6_ n7_ n8_ n9_; clear hb hbox hg; have hnb6 := NB172_173.out; have hnc6 := NB173_172.out; have hnb7 := NB172_174.out; have hnc7 := NB174_172.out; have hcz8_0 : w5.cell? ⟨gb172, 0, none⟩ = some (.int .i64 a0_0) := (blk_cell BK172.out 0).trans rfl; have hcz8_1 : w5.cell? ⟨gb172, 1, none⟩ = some (.int .i64 a0_1) := (blk_cell BK172.out 1).trans rfl; have hcz8_2 : w5.cell? ⟨gb172, 2, none⟩ = some (.slice A0_2 l0_2.length c0_2) := (blk_cell BK172.out 2).trans rfl; have hfz8_0 := blk_frozen BK172.out 0; have hfz8_1 := blk_frozen BK172.out 1; have hfz8_2 := blk_frozen BK172.out 2; have hnb9 := NB174_173.out; have hnc9 := NB173_174.out; have hcz10_0 : w5.cell? ⟨gb174, 0, none⟩ = some (.int .i64 0) := (blk_cell BK174.out 0).trans rfl; have hcz10_1 : w5.cell? ⟨gb174, 1, none⟩ = some (.int .i64 0) := (blk_cell BK174.out 1).trans rfl; have hcz10_2 : w5.cell? ⟨gb174, 2, none⟩ = some (.slice none 0 0) := (blk_cell BK174.out 2).trans rfl; have hfz10_0 := blk_frozen BK174.out 0; have hfz10_1 := blk_frozen BK174.out 1; have hfz10_2 := blk_frozen BK174.out 2) | ((with_reducible refine gate_callee (f := 65) rfl ?_); refine goesL_ (some 12) rfl rfl Try.func65 (by kernel_rfl) rfl #[.slice A0_2 l0_2.length c0_2] rfl u6_5 ?_; (with_reducible refine (laws_toEntryS.calls k _ _ l0_2 t175 _ ?side1 ?side2 A2.out).mono ?_); (case side1 => exact (by exact Kd.C_below HR0_2.out u6_7)); (case side2 => exact HC0_2.out); rintro e w11 ⟨v176, rfl, ho0, hb⟩; refine ⟨_, rfl, ?_⟩; have n0_ := Aside0.mk (Kd.R_lower ho0 (below_size u6_7)); have n1_ := Aside0.mk (blk_below (g := gb172) (o := .cells #[.int .i64 a0_0, .int .i64 a0_1, .slice A0_2 l0_2.length c0_2] 43 (0, 0)) (by (with_reducible repeat (first | refine blk_drewN ?_ _ | refine blk_drew ?_ | refine blk_alloc ?_ _)); refine blk_far ?_ NB172_174.out _; (with_reducible repeat (first | refine blk_drewN ?_ _ | refine blk_drew ?_ | refine blk_alloc ?_ _)); refine blk_far ?_ NB172_174.out _; (with_reducible repeat (first | refine blk_drewN ?_ _ | refine blk_drew ?_ | refine blk_alloc ?_ _)); exact BK172.out) hb); have n2_ := Aside0.mk (blk_below (g := gb173) (o := .cells #[.int .i64 0, .int .i64 0, .slice none 0 0] 34 (0, 0)) (by (with_reducible repeat (first | refine blk_drewN ?_ _ | refine blk_drew ?_ | refine blk_alloc ?_ _)); refine blk_far ?_ NB173_174.out _; (with_reducible repeat (first | refine blk_drewN ?_ _ | refine blk_drew ?_ | refine blk_alloc ?_ _)); refine blk_far ?_ NB173_174.out _; (with_reducible repeat (first | refine blk_drewN ?_ _ | refine blk_drew ?_ | refine blk_alloc ?_ _)); exact BK173.out) hb); have n3_ := Aside0.mk (blk_below (g := gb174) (o := .cells #[.int .i64 a0_0, .int .i64 a0_1, .slice none 0 0] 34 (0, 0)) (by (with_reducible repeat (first | refine blk_drewN ?_ _ | refine blk_drew ?_ | refine blk_alloc ?_ _)); refine blk_put (cs := #[.int .i64 a0_0, .int .i64 0, .slice none 0 0]) ?_ 1 _ rfl; (with_reducible repeat (first | refine blk_drewN ?_ _ | refine blk_drew ?_ | refine blk_alloc ?_ _)); refine blk_put (cs := #[.int .i64 0, .int .i64 0, .slice none 0 0]) ?_ 0 _ rfl; (with_reducible repeat (first | refine blk_drewN ?_ _ | refine blk_drew ?_ | refine blk_alloc ?_ _)); exact BK174.out) hb); have n4_ := Aside0.mk (below_step u6_7 hb); clear BK172; clear BK173; clear BK174; clear HB; have HO177 := n0_; have BK172 := n1_; have BK173 := n2_; have BK174 := n3_; have HB := n4_; clear n0_ n1_ n2_ n3_ n4_; (try clear hb); (try clear hb2); (try clear hk); (try clear hi); (try clear ho0); obtain ⟨Ao12, co12, eo12⟩ := Kd.R_slice HO177.out; subst eo12; have hcz13_0 : w11.cell? ⟨gb174, 0, none⟩ = some (.int .i64 a0_0) := (blk_cell BK174.out 0).trans rfl; have hcz13_1 : w11.cell? ⟨gb174, 1, none⟩ = some (.int .i64 a0_1) := (blk_cell BK174.out 1).trans rfl; have hcz13_2 : w11.cell? ⟨gb174, 2, none⟩ = some (.slice none 0 0) := (blk_cell BK174.out 2).trans rfl; have hfz13_0 := blk_frozen BK174.out 0; have hfz13_1 := blk_frozen BK174.out 1; have hfz13_2 := blk_frozen BK174.out 2; have hcz14_0 : w11.cell? ⟨gb173, 0, none⟩ = some (.int .i64 0) := (blk_cell BK173.out 0).trans rfl; have hcz14_1 : w11.cell? ⟨gb173, 1, none⟩ = some (.int .i64 0) := (blk_cell BK173.out 1).trans rfl; have hcz14_2 : w11.cell? ⟨gb173, 2, none⟩ = some (.slice none 0 0) := (blk_cell BK173.out 2).trans rfl; have hfz14_0 := blk_frozen BK173.out 0; have hfz14_1 := blk_frozen BK173.out 1; have hfz14_2 := blk_frozen BK173.out 2))
  refine bodyPost_ret (results_cell_row rfl _ _ gb173 34 #[.int .i64 a0_0, .int .i64 a0_1, .slice Ao12 t175.length co12] (0, 0) _ rfl (by (with_reducible repeat (first | refine blk_drewN ?_ _ | refine blk_drew ?_ | refine blk_alloc ?_ _)); refine blk_put (cs := #[.int .i64 a0_0, .int .i64 a0_1, .slice none 0 0]) ?_ 2 _ rfl; (with_reducible repeat (first | refine blk_drewN ?_ _ | refine blk_drew ?_ | refine blk_alloc ?_ _)); refine blk_put (cs := #[.int .i64 a0_0, .int .i64 0, .slice none 0 0]) ?_ 1 _ rfl; (with_reducible repeat (first | refine blk_drewN ?_ _ | refine blk_drew ?_ | refine blk_alloc ?_ _)); refine blk_put (cs := #[.int .i64 0, .int .i64 0, .slice none 0 0]) ?_ 0 _ rfl; (with_reducible repeat (first | refine blk_drewN ?_ _ | refine blk_drew ?_ | refine blk_alloc ?_ _)); refine blk_far ?_ NB173_174.out _; (with_reducible repeat (first | refine blk_drewN ?_ _ | refine blk_drew ?_ | refine blk_alloc ?_ _)); exact BK173.out) Try.underlying34 rfl (by kernel_rfl)) rfl ?_
  exact ⟨_, by first | rfl | (simp [errW_none, errW_some] <;> rfl) | (simp [*, errW_none, errW_some] <;> rfl), (by (with_reducible repeat (first | apply Kd.R_alloc | apply Kd.R_drewN | apply Kd.R_drew)); exact Kd.R_mono (Kd.R_far (p := ⟨gb173, 2, none⟩) (Kd.R_far (p := ⟨gb173, 1, none⟩) (Kd.R_far (p := ⟨gb173, 0, none⟩) (Kd.R_far (p := ⟨gb174, 2, none⟩) (Kd.R_types (Kd.R_types HO177.out BK174.out (by decide)) BK173.out (by decide)) (fun _ hk => hk.1.2) (.slice Ao12 t175.length co12)) (fun _ hk => hk.2) (.int .i64 a0_0)) (fun _ hk => hk.2) (.int .i64 a0_1)) (fun _ hk => hk.2) (.slice Ao12 t175.length co12)) (fun _ hk => trivial)), u6_7⟩

/-! ### laws_toIntS: function 77 -/
def laws_toIntS.l0 : Nat → List Int → List Int → Int → Option (List Int)
  | 0, _, _, _ => none
  | k + 1, x0, x3, x4 => if x4 < (x0.length : Int) then (if 0 ≤ x4 then (if x4 < (x3.length : Int) then (laws_toIntS.l0 k x0 (x3.set (x4 : Int).toNat (rd x0 x4)) (wrap64 (x4 + 1))) else (none)) else (none)) else (some x3)
def laws_toIntS.f (k : Nat) (l0 : List Int) : Option (List Int) := if 0 ≤ (l0.length : Int) then (if ((l0.length : Int) : Int).toNat ≤ 35184372088832 then (laws_toIntS.l0 k l0 (List.replicate ((l0.length : Int) : Int).toNat 0) 0) else (none)) else (none)
theorem laws_toIntS.mono_l : ∀ k, (∀ y0 y1 y2, LeO (laws_toIntS.l0 k y0 y1 y2) (laws_toIntS.l0 (k + 1) y0 y1 y2))
  | 0 => fun _ _ _ r h => by simp [laws_toIntS.l0] at h
  | k + 1 => by
    have ih0 := laws_toIntS.mono_l k
    · intro y0 y1 y2
      unfold laws_toIntS.l0
      repeat' first
      | (with_reducible exact ih0 _ _ _)
      | (with_reducible exact LeO.refl _)
      | (with_reducible exact LeO.none _)
      | (with_reducible refine LeO.ite ?_ ?_)
      | (with_reducible refine LeO.bind ?_ (fun _ => ?_))
      | exact ih0 _ _ _
      | exact LeO.none _
      | refine LeO.ite ?_ ?_
      | refine LeO.bind ?_ (fun _ => ?_)
theorem laws_toIntS.mono : ∀ a0 k, LeO (laws_toIntS.f k a0) (laws_toIntS.f (k + 1) a0) := by
  intro a0 k
  have ih0 := laws_toIntS.mono_l k
  unfold laws_toIntS.f
  repeat' first
      | (with_reducible exact ih0 _ _ _)
      | (with_reducible exact LeO.refl _)
      | (with_reducible exact LeO.none _)
      | (with_reducible refine LeO.ite ?_ ?_)
      | (with_reducible refine LeO.bind ?_ (fun _ => ?_))
      | exact ih0 _ _ _
      | exact LeO.none _
      | refine LeO.ite ?_ ?_
      | refine LeO.bind ?_ (fun _ => ?_)
set_option maxHeartbeats 8000000 in
set_option maxRecDepth 100000 in
theorem laws_toIntS.calls (k : Nat) (A0 : Option Addr) (c0 : Nat) (l0 : List Int) (r : List Int) (w : World) (hr0 : Kd.C (Kd.int .i64) w A0 l0.length l0) (hc0 : l0.length ≤ c0) (h : laws_toIntS.f k l0 = some r) :
    Calls Try.prog 77 #[.slice A0 l0.length c0] w fun e w' => ∃ v0_ : Value, e = .returned (v0_) ∧ Kd.R (Kd.int .i64) 3 w' w.heap.size (fun _ => True) v0_ r ∧ Below w.heap.size w w' := by
  have HR0 := Aside0.mk hr0
  have HC0 := Aside0.mk hc0
  clear hr0 hc0
  have HB := Aside0.mk (Below.refl w.heap.size w)
  have H : (if 0 ≤ (l0.length : Int) then (if ((l0.length : Int) : Int).toNat ≤ 35184372088832 then (laws_toIntS.l0 k l0 (List.replicate ((l0.length : Int) : Int).toNat 0) 0) else (none)) else (none)) = some r := h
  clear h
  by_cases c2 : 0 ≤ (l0.length : Int)
  rotate_left
  · rw [if_neg c2] at H
    exact absurd H (by simp)
  rw [if_pos c2] at H
  have c2b0 := eq_true c2
  have c2b1 : decide (0 ≤ (l0.length : Int)) = true := decide_eq_true c2
  clear c2
  by_cases c3 : ((l0.length : Int) : Int).toNat ≤ 35184372088832
  rotate_left
  · rw [if_neg c3] at H
    exact absurd H (by simp)
  rw [if_pos c3] at H
  have c3b0 := eq_true c3
  have c3b1 : decide (((l0.length : Int) : Int).toNat ≤ 35184372088832) = true := decide_eq_true c3
  clear c3
  obtain ⟨y178, hy178⟩ : ∃ y_ : List Int, y_ = (List.replicate ((l0.length : Int) : Int).toNat 0) := ⟨_, rfl⟩
  replace H : (laws_toIntS.l0 k l0 y178 0) = some r := by first | (rw [hy178]; with_reducible exact H) | (have H2_ := (Option.bind_some _ _).symm.trans H; rw [hy178]; with_reducible exact H2_) | (have H2_ := (Option.bind_some _ _).symm.trans H; with_reducible exact H2_) | with_reducible exact H | (rw [hy178]; exact H) | exact H
  have Ny178 := Aside0.mk hy178
  clear hy178
  have H' := Aside0.mk H
  clear H
  go_enter Try.func77, Try.ntmps77
  go_wp2_with (first | ((with_reducible refine gate_dst (N := 7) rfl ?_); refine Kd.R_make (Kd.int .i64) _ 3 rfl (N := 7) rfl 35 _ _ rfl (l0.length : Int) rfl rfl Try.underlying35 (.int .i64 0) 8 info3 rfl (by decide) (by omega) 0 (ok := fun _ => True) (okp := fun _ => True) rfl (fun _ hk => hk) trivial (of_decide_eq_true u6_4) (Nat.le_trans (Nat.mul_le_mul_right _ (of_decide_eq_true u6_4 : (l0.length : Int).toNat ≤ 35184372088832)) (by omega)) (Below.refl _ _) (Nat.le_refl _) ?_; intro v179 w4 ho5 hb hg_ hnew_; clear hg_ hnew_; (first | rw [← Ny178.out] at ho5 | (simp only [Int.reduceToNat] at ho5; rw [← Ny178.out] at ho5)); have n0_ := Aside0.mk (Kd.R_lower ho5 (below_size u6_0)); have n1_ := Aside0.mk (below_step u6_0 hb); clear HB; have HO180 := n0_; have HB := n1_; clear n0_ n1_; clear hb ho5))
  go_loopg [4] k (fun kq v4 w' => ∃ (x3_1 : List Int) (x4_1 : Int), v4 = .int .i64 x4_1 ∧ Aside0 (laws_toIntS.l0 kq l0 x3_1 x4_1 = some r) ∧ Aside0 (kq ≤ k) ∧ Aside0 (Kd.R (Kd.int .i64) 3 w' w.heap.size (fun _ => True) v179 x3_1) ∧ Aside0 (Below w.heap.size w w'))
  case atStart => exact ⟨(y178), (0), u6_11, H', ⟨Nat.le_refl _⟩, ⟨(by (with_reducible repeat (first | apply Kd.R_alloc | apply Kd.R_drewN | apply Kd.R_drew)); exact HO180.out)⟩, ⟨u6_0⟩⟩
  clear H'
  try clear c2
  try clear c2b0
  try clear c2b1
  try clear p2
  try clear c3
  try clear c3b0
  try clear c3b1
  obtain ⟨x3_1, x4_1, rfl, HA, HK1, HO_3, HB⟩ := hrel
  cases gk with
  | zero => exact absurd HA.out (by simp [laws_toIntS.l0])
  | succ k1 =>
    have H := HA.out
    clear HA
    simp only [laws_toIntS.l0] at H
    by_cases c6 : x4_1 < (l0.length : Int)
    rotate_left
    · rw [if_neg c6] at H
      have c6b0 : decide (x4_1 < (l0.length : Int)) = false := decide_eq_false c6
      clear c6
      obtain rfl := Option.some.inj H
      go_wp2
      go_ret
      exact ⟨_, by first | rfl | (simp [errW_none, errW_some] <;> rfl) | (simp [*, errW_none, errW_some] <;> rfl), u6_12, u6_0⟩
    rw [if_pos c6] at H
    have c6b0 : decide (x4_1 < (l0.length : Int)) = true := decide_eq_true c6
    clear c6
    by_cases c7 : 0 ≤ x4_1
    rotate_left
    · rw [if_neg c7] at H
      exact absurd H (by simp)
    rw [if_pos c7] at H
    have c7b0 : decide (0 ≤ x4_1) = true := decide_eq_true c7
    clear c7
    by_cases c8 : x4_1 < (x3_1.length : Int)
    rotate_left
    · rw [if_neg c8] at H
      exact absurd H (by simp)
    rw [if_pos c8] at H
    have c8b0 : decide (x4_1 < (x3_1.length : Int)) = true := decide_eq_true c8
    clear c8
    obtain ⟨y182, hy182⟩ : ∃ y_ : List Int, y_ = (x3_1.set (x4_1 : Int).toNat (rd l0 x4_1)) := ⟨_, rfl⟩
    replace H : (laws_toIntS.l0 k1 l0 y182 (wrap64 (x4_1 + 1))) = some r := by first | (rw [hy182]; with_reducible exact H) | (have H2_ := (Option.bind_some _ _).symm.trans H; rw [hy182]; with_reducible exact H2_) | (have H2_ := (Option.bind_some _ _).symm.trans H; with_reducible exact H2_) | with_reducible exact H | (rw [hy182]; exact H) | exact H
    have Ny182 := Aside0.mk hy182
    clear hy182
    have H' := Aside0.mk H
    clear H
    have p181 : 0 ≤ (x4_1 : Int) := of_decide_eq_true u6_4
    have q181 : x4_1 < (l0.length : Int) := of_decide_eq_true u6_4
    obtain ⟨ad181, e181, hx181_0⟩ := Kd.at_int HR0.out x4_1 p181 q181
    cases e181
    replace hx181_0 := (HB.out.cell (World.block_lt_of_cell? w _ hx181_0)).trans hx181_0
    replace p181 := eq_true p181
    replace q181 := eq_true q181
    have p9 : 0 ≤ (x4_1 : Int) := of_decide_eq_true u6_4
    have q9 : (x4_1 : Int) < ((x3_1.length : Int) : Int) := of_decide_eq_true u6_4
    obtain ⟨go9, co9, eo9, gb9, gl9, cl9, HG9⟩ := Kd.R_form HO_3.out (by omega)
    (first | cases eo9 | (injection eo9 with ea_ en_ ec_; (first | subst ea_ | (injection ea_ with ea_; subst ea_)); subst ec_; clear en_))
    have GB9 := Aside0.mk gb9
    have GG9 := Aside0.mk HG9
    clear gb9 gl9 HG9
    obtain ⟨hx9_0, hf9_0⟩ := Kd.R_celln 0 HO_3.out (x4_1 : Int) p9 q9
    replace p9 := eq_true p9
    replace q9 := eq_true q9
    have HP10 := Kd.R_putg HO_3.out (x4_1 : Int) (rd l0 x4_1)
    go_wp2_with (first | ((with_reducible refine gate_store (t := 3) (p := 20) rfl ?_); refine store_event (t := 3) (p := 20) (v := ?vo_w11) (w1 := (wr.setCell ⟨go9, (x4_1 : Int).toNat, none⟩ (.int .i64 (rd l0 x4_1)))) ?hg ?ho ?hn ?hr ?_; (case ho => rfl); (case hg => rfl); (case hn => rfl); (case hr => first | (go_simp; done) | (go_simp; rfl)); intro w11 hw; have hg : wr.grownBy w11 (some go9) := (by rw [hw]; exact HP10.2); have hp_ : Kd.R (Kd.int .i64) 3 w11 w.heap.size (fun _ => True) (.slice (some ⟨go9, 0, none⟩) x3_1.length co9) y182 := (by rw [hw, Ny182.out]; exact HP10.1); clear HP10; have n0_ := Aside0.mk (hp_); have n1_ := Aside0.mk ((by rw [hw]; exact below_set (HB.out) GB9.out : Below w.heap.size w w11)); clear HO_3; clear HB; have HO_3 := n0_; have HB := n1_; clear n0_ n1_; clear hg hw hp_))
    go_roundg k1
    case measure => have := HK1.out; omega
    case rel => exact ⟨(y182), (wrap64 (x4_1 + 1)), u6_11, H', ⟨by have := HK1.out; omega⟩, ⟨u6_12⟩, ⟨u6_0⟩⟩

/-! ### laws_toNode: function 27 -/
def laws_toNode.f (k : Nat) (a0_0 : Int) (a0_1 : Int) (a0_2 : Int) (a0_3 : Int) (a0_4 : Int) (a0_5 : Int) (a0_6 : Int) (l0_7 : List (S112)) (l0_8 : List Int) (l0_9 : List Int) : Option (Int × Int × Int × Int × Int × Int × Int × (List (S85)) × List Int × List Int) := (laws_toRLog.f k a0_5 a0_6 l0_7).bind fun bt186 => ((laws_toIntS.f k l0_8).bind fun t191 => ((laws_toIntS.f k l0_9).bind fun t194 => (some (a0_0, a0_1, a0_2, a0_3, a0_4, bt186.1, bt186.2.1, bt186.2.2, t191, t194))))
theorem laws_toNode.mono : ∀ a0 a1 a2 a3 a4 a5 a6 a7 a8 a9 k, LeO (laws_toNode.f k a0 a1 a2 a3 a4 a5 a6 a7 a8 a9) (laws_toNode.f (k + 1) a0 a1 a2 a3 a4 a5 a6 a7 a8 a9) := by
  intro a0 a1 a2 a3 a4 a5 a6 a7 a8 a9 k
  unfold laws_toNode.f
  repeat' first
      | (with_reducible exact laws_toIntS.mono _ _)
      | (with_reducible exact laws_toRLog.mono _ _ _ _)
      | (with_reducible exact LeO.refl _)
      | (with_reducible exact LeO.none _)
      | (with_reducible refine LeO.ite ?_ ?_)
      | (with_reducible refine LeO.bind ?_ (fun _ => ?_))
      | exact laws_toIntS.mono _ _
      | exact laws_toRLog.mono _ _ _ _
      | exact LeO.none _
      | refine LeO.ite ?_ ?_
      | refine LeO.bind ?_ (fun _ => ?_)
set_option maxHeartbeats 8000000 in
set_option maxRecDepth 100000 in
theorem laws_toNode.calls (k : Nat) (a0_0 : Int) (a0_1 : Int) (a0_2 : Int) (a0_3 : Int) (a0_4 : Int) (a0_5 : Int) (a0_6 : Int) (A0_7 : Option Addr) (c0_7 : Nat) (l0_7 : List (S112)) (A0_8 : Option Addr) (c0_8 : Nat) (l0_8 : List Int) (A0_9 : Option Addr) (c0_9 : Nat) (l0_9 : List Int) (r1 : Int) (r2 : Int) (r3 : Int) (r4 : Int) (r5 : Int) (r6 : Int) (r7 : Int) (r8 : List (S85)) (r9 : List Int) (r10 : List Int) (w : World) (hr0_7 : Kd.C k112 w A0_7 l0_7.length l0_7) (hc0_7 : l0_7.length ≤ c0_7) (hr0_8 : Kd.C (Kd.int .i64) w A0_8 l0_8.length l0_8) (hc0_8 : l0_8.length ≤ c0_8) (hr0_9 : Kd.C (Kd.int .i64) w A0_9 l0_9.length l0_9) (hc0_9 : l0_9.length ≤ c0_9) (h : laws_toNode.f k a0_0 a0_1 a0_2 a0_3 a0_4 a0_5 a0_6 l0_7 l0_8 l0_9 = some (r1, r2, r3, r4, r5, r6, r7, r8, r9, r10)) :
    Calls Try.prog 27 #[.agg #[.int .i64 a0_0, .int .i64 a0_1, .int .i64 a0_2, .int .i64 a0_3, .int .i64 a0_4, .int .i64 a0_5, .int .i64 a0_6, .slice A0_7 l0_7.length c0_7, .slice A0_8 l0_8.length c0_8, .slice A0_9 l0_9.length c0_9]] w fun e w' => ∃ v7_ v8_ v9_ : Value, e = .returned (.agg #[.int .i64 r1, .int .i64 r2, .int .i64 r3, .int .i64 r4, .int .i64 r5, .int .i64 r6, .int .i64 r7, v7_, v8_, v9_]) ∧ Kd.R k85 85 w' w.heap.size (fun _ => True) v7_ r8 ∧ Kd.R (Kd.int .i64) 3 w' w.heap.size (fun k_ => some k_ ≠ (v9_ : Value).ownBlock) v8_ r9 ∧ Kd.R (Kd.int .i64) 3 w' w.heap.size (fun k_ => some k_ ≠ (v8_ : Value).ownBlock) v9_ r10 ∧ Below w.heap.size w w' := by
  have hu45 := Try.underlying45
  have hu37 := Try.underlying37
  have hu43 := Try.underlying43
  have hu34 := Try.underlying34
  have HR0_7 := Aside0.mk hr0_7
  have HC0_7 := Aside0.mk hc0_7
  clear hr0_7 hc0_7
  have HR0_8 := Aside0.mk hr0_8
  have HC0_8 := Aside0.mk hc0_8
  clear hr0_8 hc0_8
  have HR0_9 := Aside0.mk hr0_9
  have HC0_9 := Aside0.mk hc0_9
  clear hr0_9 hc0_9
  have HB := Aside0.mk (Below.refl w.heap.size w)
  have H : ((laws_toRLog.f k a0_5 a0_6 l0_7).bind fun bt186 => ((laws_toIntS.f k l0_8).bind fun t191 => ((laws_toIntS.f k l0_9).bind fun t194 => (some (a0_0, a0_1, a0_2, a0_3, a0_4, bt186.1, bt186.2.1, bt186.2.2, t191, t194))))) = some (r1, r2, r3, r4, r5, r6, r7, r8, r9, r10) := h
  clear h
  replace H := Option.bind_eq_some_iff.mp H
  obtain ⟨⟨t186, t187, t188⟩, A20, H⟩ := H
  (try dsimp only at H)
  have A2 := Aside0.mk A20
  clear A20
  replace H := Option.bind_eq_some_iff.mp H
  obtain ⟨t191, A30, H⟩ := H
  have A3 := Aside0.mk A30
  clear A30
  replace H := Option.bind_eq_some_iff.mp H
  obtain ⟨t194, A40, H⟩ := H
  have A4 := Aside0.mk A40
  clear A40
  simp only [Option.some.injEq, Prod.mk.injEq] at H
  obtain ⟨rfl, rfl, rfl, rfl, rfl, rfl, rfl, rfl, rfl, rfl⟩ := H
  go_enter Try.func27, Try.ntmps27
  go_wp2_with (first | ((with_reducible refine gate_dst (N := 1) rfl ?_); refine box_event ?hg (N := 1) ?hd (cs := #[.int .i64 a0_0, .int .i64 a0_1, .int .i64 a0_2, .int .i64 a0_3, .int .i64 a0_4, .int .i64 a0_5, .int .i64 a0_6, .slice A0_7 l0_7.length c0_7, .slice A0_8 l0_8.length c0_8, .slice A0_9 l0_9.length c0_9]) (t := 45) ?hr ?_; (case hd => rfl); (case hg => rfl); (case hr => first | (go_simp; done) | (go_simp; rfl)); intro gb183 hg w5 hbox hb; have n0_ := Aside0.mk (below_step u6_0 hb); have n1_ := Aside0.mk (hbox); have n2_ := Aside0.mk ((by rw [hg]; exact (below_size u6_0) : w.heap.size ≤ gb183)); have n3_ := Aside0.mk ((by rw [hg]; exact (below_size u6_0) : w.heap.size ≤ gb183)); clear HB; have HB := n0_; have BK183 := n1_; have GW183 := n2_; have GE183 := n3_; clear n0_ n1_ n2_ n3_; clear hb hbox hg) | ((with_reducible refine gate_dst (N := 2) rfl ?_); refine box_event ?hg (N := 2) ?hd (cs := #[.int .i64 0, .int .i64 0, .int .i64 0, .int .i64 0, .int .i64 0, .int .i64 0, .int .i64 0, .slice none 0 0, .slice none 0 0, .slice none 0 0]) (t := 37) ?hr ?_; (case hd => rfl); (case hg => rfl); (case hr => first | (go_simp; done) | (go_simp; rfl)); intro gb184 hg w6 hbox hb; have n0_ := Aside0.mk (blk_below (g := gb183) (o := .cells #[.int .i64 a0_0, .int .i64 a0_1, .int .i64 a0_2, .int .i64 a0_3, .int .i64 a0_4, .int .i64 a0_5, .int .i64 a0_6, .slice A0_7 l0_7.length c0_7, .slice A0_8 l0_8.length c0_8, .slice A0_9 l0_9.length c0_9] 45 (0, 0)) u6_10 hb); have n1_ := Aside0.mk (below_step u6_20 hb); have n2_ := Aside0.mk (hbox); have n3_ := Aside0.mk ((by rw [hg]; exact (below_size u6_20) : w.heap.size ≤ gb184)); have n4_ := Aside0.mk ((by rw [hg]; exact (below_size u6_20) : w.heap.size ≤ gb184)); have n5_ := Aside0.mk ((by rw [hg]; exact Nat.ne_of_lt (blk_lt (g := gb183) (o := .cells #[.int .i64 a0_0, .int .i64 a0_1, .int .i64 a0_2, .int .i64 a0_3, .int .i64 a0_4, .int .i64 a0_5, .int .i64 a0_6, .slice A0_7 l0_7.length c0_7, .slice A0_8 l0_8.length c0_8, .slice A0_9 l0_9.length c0_9] 45 (0, 0)) u6_10) : gb183 ≠ gb184)); have n6_ := Aside0.mk ((by rw [hg]; exact Nat.ne_of_gt (blk_lt (g := gb183) (o := .cells #[.int .i64 a0_0, .int .i64 a0_1, .int .i64 a0_2, .int .i64 a0_3, .int .i64 a0_4, .int .i64 a0_5, .int .i64 a0_6, .slice A0_7 l0_7.length c0_7, .slice A0_8 l0_8.length c0_8, .slice A0_9 l0_9.length c0_9] 45 (0, 0)) u6_10) : gb184 ≠ gb183)); clear BK183; clear HB; have BK183 := n0_; have HB := n1_; have BK184 := n2_; have GW184 := n3_; have GE184 := n4_; have NB183_184 := n5_; have NB184_183 := n6_; clear n0_ n1_ n2_ n3_ n4_ n5_ n6_; clear hb hbox hg) | ((with_reducible refine gate_dst (N := 3) rfl ?_); refine box_event ?hg (N := 3) ?hd (cs := #[.int .i64 0, .int .i64 0, .int .i64 0, .int .i64 0, .int .i64 0, .int .i64 0, .int .i64 0, .slice none 0 0, .slice none 0 0, .slice none 0 0]) (t := 37) ?hr ?_; (case hd => rfl); (case hg => rfl); (case hr => first | (go_simp; done) | (go_simp; rfl)); intro gb185 hg w7 hbox hb; have n0_ := Aside0.mk (blk_below (g := gb183) (o := .cells #[.int .i64 a0_0, .int .i64 a0_1, .int .i64 a0_2, .int .i64 a0_3, .int .i64 a0_4, .int .i64 a0_5, .int .i64 a0_6, .slice A0_7 l0_7.length c0_7, .slice A0_8 l0_8.length c0_8, .slice A0_9 l0_9.length c0_9] 45 (0, 0)) u6_10 hb); have n1_ := Aside0.mk (blk_below (g := gb184) (o := .cells #[.int .i64 0, .int .i64 0, .int .i64 0, .int .i64 0, .int .i64 0, .int .i64 0, .int .i64 0, .slice none 0 0, .slice none 0 0, .slice none 0 0] 37 (0, 0)) u6_25 hb); have n2_ := Aside0.mk (below_step u6_17 hb); have n3_ := Aside0.mk (hbox); have n4_ := Aside0.mk ((by rw [hg]; exact (below_size u6_17) : w.heap.size ≤ gb185)); have n5_ := Aside0.mk ((by rw [hg]; exact (below_size u6_17) : w.heap.size ≤ gb185)); have n6_ := Aside0.mk ((by rw [hg]; exact Nat.ne_of_lt (blk_lt (g := gb183) (o := .cells #[.int .i64 a0_0, .int .i64 a0_1, .int .i64 a0_2, .int .i64 a0_3, .int .i64 a0_4, .int .i64 a0_5, .int .i64 a0_6, .slice A0_7 l0_7.length c0_7, .slice A0_8 l0_8.length c0_8, .slice A0_9 l0_9.length c0_9] 45 (0, 0)) u6_10) : gb183 ≠ gb185)); have n7_ := Aside0.mk ((by rw [hg]; exact Nat.ne_of_gt (blk_lt (g := gb183) (o := .cells #[.int .i64 a0_0, .int .i64 a0_1, .int .i64 a0_2, .int .i64 a0_3, .int .i64 a0_4, .int .i64 a0_5, .int .i64 a0_6, .slice A0_7 l0_7.length c0_7, .slice A0_8 l0_8.length c0_8, .slice A0_9 l0_9.length c0_9] 45 (0, 0)) u6_10) : gb185 ≠ gb183)); have n8_ := Aside0.mk ((by rw [hg]; exact Nat.ne_of_lt (blk_lt (g := gb184) (o := .cells #[.int .i64 0, .int .i64 0, .int .i64 0, .int .i64 0, .int .i64 0, .int .i64 0, .int .i64 0, .slice none 0 0, .slice none 0 0, .slice none 0 0] 37 (0, 0)) u6_25) : gb184 ≠ gb185)); have n9_ := Aside0.mk ((by rw [hg]; exact Nat.ne_of_gt (blk_lt (g := gb184) (o := .cells #[.int .i64 0, .int .i64 0, .int .i64 0, .int .i64 0, .int .i64 0, .int .i64 0, .int .i64 0, .slice none 0 0, .slice none 0 0, .slice none 0 0] 37 (0, 0)) u6_25) : gb185 ≠ gb184)); clear BK183; clear BK184; clear HB; have BK183 := n0_; have BK184 := n1_; have HB := n2_; have BK185 := n3_; have GW185 := n4_; have GE185 := n5_; have NB183_185 := n6_; have NB185_183 := n7_; have NB184_185 := n8_; have NB185_184 := n9_; clear n0_ n1_ n2_ n3_ n4_ n5_ n6_ n7_ n8_ n9_; clear hb hbox hg; have hnb8 := NB183_184.out; have hnc8 := NB184_183.out; have hnb9 := NB183_185.out; have hnc9 := NB185_183.out; have hcz10_0 : w7.cell? ⟨gb183, 0, none⟩ = some (.int .i64 a0_0) := (blk_cell BK183.out 0).trans rfl; have hcz10_1 : w7.cell? ⟨gb183, 1, none⟩ = some (.int .i64 a0_1) := (blk_cell BK183.out 1).trans rfl; have hcz10_2 : w7.cell? ⟨gb183, 2, none⟩ = some (.int .i64 a0_2) := (blk_cell BK183.out 2).trans rfl; have hcz10_3 : w7.cell? ⟨gb183, 3, none⟩ = some (.int .i64 a0_3) := (blk_cell BK183.out 3).trans rfl; have hcz10_4 : w7.cell? ⟨gb183, 4, none⟩ = some (.int .i64 a0_4) := (blk_cell BK183.out 4).trans rfl; have hcz10_5 : w7.cell? ⟨gb183, 5, none⟩ = some (.int .i64 a0_5) := (blk_cell BK183.out 5).trans rfl; have hcz10_6 : w7.cell? ⟨gb183, 6, none⟩ = some (.int .i64 a0_6) := (blk_cell BK183.out 6).trans rfl; have hcz10_7 : w7.cell? ⟨gb183, 7, none⟩ = some (.slice A0_7 l0_7.length c0_7) := (blk_cell BK183.out 7).trans rfl; have hcz10_8 : w7.cell? ⟨gb183, 8, none⟩ = some (.slice A0_8 l0_8.length c0_8) := (blk_cell BK183.out 8).trans rfl; have hcz10_9 : w7.cell? ⟨gb183, 9, none⟩ = some (.slice A0_9 l0_9.length c0_9) := (blk_cell BK183.out 9).trans rfl; have hfz10_0 := blk_frozen BK183.out 0; have hfz10_1 := blk_frozen BK183.out 1; have hfz10_2 := blk_frozen BK183.out 2; have hfz10_3 := blk_frozen BK183.out 3; have hfz10_4 := blk_frozen BK183.out 4; have hfz10_5 := blk_frozen BK183.out 5; have hfz10_6 := blk_frozen BK183.out 6; have hfz10_7 := blk_frozen BK183.out 7; have hfz10_8 := blk_frozen BK183.out 8; have hfz10_9 := blk_frozen BK183.out 9; have hnb11 := NB185_184.out; have hnc11 := NB184_185.out; have hcz12_0 : w7.cell? ⟨gb185, 0, none⟩ = some (.int .i64 0) := (blk_cell BK185.out 0).trans rfl; have hcz12_1 : w7.cell? ⟨gb185, 1, none⟩ = some (.int .i64 0) := (blk_cell BK185.out 1).trans rfl; have hcz12_2 : w7.cell? ⟨gb185, 2, none⟩ = some (.int .i64 0) := (blk_cell BK185.out 2).trans rfl; have hcz12_3 : w7.cell? ⟨gb185, 3, none⟩ = some (.int .i64 0) := (blk_cell BK185.out 3).trans rfl; have hcz12_4 : w7.cell? ⟨gb185, 4, none⟩ = some (.int .i64 0) := (blk_cell BK185.out 4).trans rfl; have hcz12_5 : w7.cell? ⟨gb185, 5, none⟩ = some (.int .i64 0) := (blk_cell BK185.out 5).trans rfl; have hcz12_6 : w7.cell? ⟨gb185, 6, none⟩ = some (.int .i64 0) := (blk_cell BK185.out 6).trans rfl; have hcz12_7 : w7.cell? ⟨gb185, 7, none⟩ = some (.slice none 0 0) := (blk_cell BK185.out 7).trans rfl; have hcz12_8 : w7.cell? ⟨gb185, 8, none⟩ = some (.slice none 0 0) := (blk_cell BK185.out 8).trans rfl; have hcz12_9 : w7.cell? ⟨gb185, 9, none⟩ = some (.slice none 0 0) := (blk_cell BK185.out 9).trans rfl; have hfz12_0 := blk_frozen BK185.out 0; have hfz12_1 := blk_frozen BK185.out 1; have hfz12_2 := blk_frozen BK185.out 2; have hfz12_3 := blk_frozen BK185.out 3; have hfz12_4 := blk_frozen BK185.out 4; have hfz12_5 := blk_frozen BK185.out 5; have hfz12_6 := blk_frozen BK185.out 6; have hfz12_7 := blk_frozen BK185.out 7; have hfz12_8 := blk_frozen BK185.out 8; have hfz12_9 := blk_frozen BK185.out 9) | ((with_reducible refine gate_callee (f := 76) rfl ?_); refine goesL_ (some 21) rfl rfl Try.func76 (by kernel_rfl) rfl #[.agg #[.int .i64 a0_5, .int .i64 a0_6, .slice A0_7 l0_7.length c0_7]] rfl u6_5 ?_; (with_reducible refine (laws_toRLog.calls k a0_5 a0_6 _ _ l0_7 t186 t187 t188 _ ?side1 ?side2 A2.out).mono ?_); (case side1 => exact (by exact Kd.C_below HR0_7.out u6_2)); (case side2 => exact HC0_7.out); rintro e w13 ⟨v189, rfl, ho0, hb⟩; refine ⟨_, rfl, ?_⟩; have n0_ := Aside0.mk (Kd.R_lower ho0 (below_size u6_2)); have n1_ := Aside0.mk (blk_below (g := gb183) (o := .cells #[.int .i64 a0_0, .int .i64 a0_1, .int .i64 a0_2, .int .i64 a0_3, .int .i64 a0_4, .int .i64 a0_5, .int .i64 a0_6, .slice A0_7 l0_7.length c0_7, .slice A0_8 l0_8.length c0_8, .slice A0_9 l0_9.length c0_9] 45 (0, 0)) (by (with_reducible repeat (first | refine blk_drewN ?_ _ | refine blk_drew ?_ | refine blk_alloc ?_ _)); refine blk_far ?_ NB183_185.out _; (with_reducible repeat (first | refine blk_drewN ?_ _ | refine blk_drew ?_ | refine blk_alloc ?_ _)); refine blk_far ?_ NB183_185.out _; (with_reducible repeat (first | refine blk_drewN ?_ _ | refine blk_drew ?_ | refine blk_alloc ?_ _)); refine blk_far ?_ NB183_185.out _; (with_reducible repeat (first | refine blk_drewN ?_ _ | refine blk_drew ?_ | refine blk_alloc ?_ _)); refine blk_far ?_ NB183_185.out _; (with_reducible repeat (first | refine blk_drewN ?_ _ | refine blk_drew ?_ | refine blk_alloc ?_ _)); refine blk_far ?_ NB183_185.out _; (with_reducible repeat (first | refine blk_drewN ?_ _ | refine blk_drew ?_ | refine blk_alloc ?_ _)); exact BK183.out) hb); have n2_ := Aside0.mk (blk_below (g := gb184) (o := .cells #[.int .i64 0, .int .i64 0, .int .i64 0, .int .i64 0, .int .i64 0, .int .i64 0, .int .i64 0, .slice none 0 0, .slice none 0 0, .slice none 0 0] 37 (0, 0)) (by (with_reducible repeat (first | refine blk_drewN ?_ _ | refine blk_drew ?_ | refine blk_alloc ?_ _)); refine blk_far ?_ NB184_185.out _; (with_reducible repeat (first | refine blk_drewN ?_ _ | refine blk_drew ?_ | refine blk_alloc ?_ _)); refine blk_far ?_ NB184_185.out _; (with_reducible repeat (first | refine blk_drewN ?_ _ | refine blk_drew ?_ | refine blk_alloc ?_ _)); refine blk_far ?_ NB184_185.out _; (with_reducible repeat (first | refine blk_drewN ?_ _ | refine blk_drew ?_ | refine blk_alloc ?_ _)); refine blk_far ?_ NB184_185.out _; (with_reducible repeat (first | refine blk_drewN ?_ _ | refine blk_drew ?_ | refine blk_alloc ?_ _)); refine blk_far ?_ NB184_185.out _; (with_reducible repeat (first | refine blk_drewN ?_ _ | refine blk_drew ?_ | refine blk_alloc ?_ _)); exact BK184.out) hb); have n3_ := Aside0.mk (blk_below (g := gb185) (o := .cells #[.int .i64 a0_0, .int .i64 a0_1, .int .i64 a0_2, .int .i64 a0_3, .int .i64 a0_4, .int .i64 0, .int .i64 0, .slice none 0 0, .slice none 0 0, .slice none 0 0] 37 (0, 0)) (by (with_reducible repeat (first | refine blk_drewN ?_ _ | refine blk_drew ?_ | refine blk_alloc ?_ _)); refine blk_put (cs := #[.int .i64 a0_0, .int .i64 a0_1, .int .i64 a0_2, .int .i64 a0_3, .int .i64 0, .int .i64 0, .int .i64 0, .slice none 0 0, .slice none 0 0, .slice none 0 0]) ?_ 4 _ rfl; (with_reducible repeat (first | refine blk_drewN ?_ _ | refine blk_drew ?_ | refine blk_alloc ?_ _)); refine blk_put (cs := #[.int .i64 a0_0, .int .i64 a0_1, .int .i64 a0_2, .int .i64 0, .int .i64 0, .int .i64 0, .int .i64 0, .slice none 0 0, .slice none 0 0, .slice none 0 0]) ?_ 3 _ rfl; (with_reducible repeat (first | refine blk_drewN ?_ _ | refine blk_drew ?_ | refine blk_alloc ?_ _)); refine blk_put (cs := #[.int .i64 a0_0, .int .i64 a0_1, .int .i64 0, .int .i64 0, .int .i64 0, .int .i64 0, .int .i64 0, .slice none 0 0, .slice none 0 0, .slice none 0 0]) ?_ 2 _ rfl; (with_reducible repeat (first | refine blk_drewN ?_ _ | refine blk_drew ?_ | refine blk_alloc ?_ _)); refine blk_put (cs := #[.int .i64 a0_0, .int .i64 0, .int .i64 0, .int .i64 0, .int .i64 0, .int .i64 0, .int .i64 0, .slice none 0 0, .slice none 0 0, .slice none 0 0]) ?_ 1 _ rfl; (with_reducible repeat (first | refine blk_drewN ?_ _ | refine blk_drew ?_ | refine blk_alloc ?_ _)); refine blk_put (cs := #[.int .i64 0, .int .i64 0, .int .i64 0, .int .i64 0, .int .i64 0, .int .i64 0, .int .i64 0, .slice none 0 0, .slice none 0 0, .slice none 0 0]) ?_ 0 _ rfl; (with_reducible repeat (first | refine blk_drewN ?_ _ | refine blk_drew ?_ | refine blk_alloc ?_ _)); exact BK185.out) hb); have n4_ := Aside0.mk (below_step u6_2 hb); clear BK183; clear BK184; clear BK185; clear HB; have HO190 := n0_; have BK183 := n1_; have BK184 := n2_; have BK185 := n3_; have HB := n4_; clear n0_ n1_ n2_ n3_ n4_; (try clear hb); (try clear hb2); (try clear hk); (try clear hi); (try clear ho0); have hcz14_0 : w13.cell? ⟨gb185, 0, none⟩ = some (.int .i64 a0_0) := (blk_cell BK185.out 0).trans rfl; have hcz14_1 : w13.cell? ⟨gb185, 1, none⟩ = some (.int .i64 a0_1) := (blk_cell BK185.out 1).trans rfl; have hcz14_2 : w13.cell? ⟨gb185, 2, none⟩ = some (.int .i64 a0_2) := (blk_cell BK185.out 2).trans rfl; have hcz14_3 : w13.cell? ⟨gb185, 3, none⟩ = some (.int .i64 a0_3) := (blk_cell BK185.out 3).trans rfl; have hcz14_4 : w13.cell? ⟨gb185, 4, none⟩ = some (.int .i64 a0_4) := (blk_cell BK185.out 4).trans rfl; have hcz14_5 : w13.cell? ⟨gb185, 5, none⟩ = some (.int .i64 0) := (blk_cell BK185.out 5).trans rfl; have hcz14_6 : w13.cell? ⟨gb185, 6, none⟩ = some (.int .i64 0) := (blk_cell BK185.out 6).trans rfl; have hcz14_7 : w13.cell? ⟨gb185, 7, none⟩ = some (.slice none 0 0) := (blk_cell BK185.out 7).trans rfl; have hcz14_8 : w13.cell? ⟨gb185, 8, none⟩ = some (.slice none 0 0) := (blk_cell BK185.out 8).trans rfl; have hcz14_9 : w13.cell? ⟨gb185, 9, none⟩ = some (.slice none 0 0) := (blk_cell BK185.out 9).trans rfl; have hfz14_0 := blk_frozen BK185.out 0; have hfz14_1 := blk_frozen BK185.out 1; have hfz14_2 := blk_frozen BK185.out 2; have hfz14_3 := blk_frozen BK185.out 3; have hfz14_4 := blk_frozen BK185.out 4; have hfz14_5 := blk_frozen BK185.out 5; have hfz14_6 := blk_frozen BK185.out 6; have hfz14_7 := blk_frozen BK185.out 7; have hfz14_8 := blk_frozen BK185.out 8; have hfz14_9 := blk_frozen BK185.out 9; obtain ⟨Ao15, co15, eo15⟩ := Kd.R_slice HO190.out; subst eo15; have hcz16_0 : w13.cell? ⟨gb183, 0, none⟩ = some (.int .i64 a0_0) := (blk_cell BK183.out 0).trans rfl; have hcz16_1 : w13.cell? ⟨gb183, 1, none⟩ = some (.int .i64 a0_1) := (blk_cell BK183.out 1).trans rfl; have hcz16_2 : w13.cell? ⟨gb183, 2, none⟩ = some (.int .i64 a0_2) := (blk_cell BK183.out 2).trans rfl; have hcz16_3 : w13.cell? ⟨gb183, 3, none⟩ = some (.int .i64 a0_3) := (blk_cell BK183.out 3).trans rfl; have hcz16_4 : w13.cell? ⟨gb183, 4, none⟩ = some (.int .i64 a0_4) := (blk_cell BK183.out 4).trans rfl; have hcz16_5 : w13.cell? ⟨gb183, 5, none⟩ = some (.int .i64 a0_5) := (blk_cell BK183.out 5).trans rfl; have hcz16_6 : w13.cell? ⟨gb183, 6, none⟩ = some (.int .i64 a0_6) := (blk_cell BK183.out 6).trans rfl; have hcz16_7 : w13.cell? ⟨gb183, 7, none⟩ = some (.slice A0_7 l0_7.length c0_7) := (blk_cell BK183.out 7).trans rfl; have hcz16_8 : w13.cell? ⟨gb183, 8, none⟩ = some (.slice A0_8 l0_8.length c0_8) := (blk_cell BK183.out 8).trans rfl; have hcz16_9 : w13.cell? ⟨gb183, 9, none⟩ = some (.slice A0_9 l0_9.length c0_9) := (blk_cell BK183.out 9).trans rfl; have hfz16_0 := blk_frozen BK183.out 0; have hfz16_1 := blk_frozen BK183.out 1; have hfz16_2 := blk_frozen BK183.out 2; have hfz16_3 := blk_frozen BK183.out 3; have hfz16_4 := blk_frozen BK183.out 4; have hfz16_5 := blk_frozen BK183.out 5; have hfz16_6 := blk_frozen BK183.out 6; have hfz16_7 := blk_frozen BK183.out 7; have hfz16_8 := blk_frozen BK183.out 8; have hfz16_9 := blk_frozen BK183.out 9) | ((with_reducible refine gate_callee (f := 77) rfl ?_); refine goesL_ (some 25) rfl rfl Try.func77 (by kernel_rfl) rfl #[.slice A0_8 l0_8.length c0_8] rfl u6_5 ?_; (with_reducible refine (laws_toIntS.calls k _ _ l0_8 t191 _ ?side1 ?side2 A3.out).mono ?_); (case side1 => exact (by exact Kd.C_below HR0_8.out u6_2)); (case side2 => exact HC0_8.out); rintro e w17 ⟨v192, rfl, ho0, hb⟩; refine ⟨_, rfl, ?_⟩; have n0_ := Aside0.mk (Kd.R_below (by (with_reducible repeat (first | apply Kd.R_alloc | apply Kd.R_drewN | apply Kd.R_drew)); exact (Kd.R_mono (Kd.R_far (p := ⟨gb185, 7, none⟩) (Kd.R_far (p := ⟨gb185, 6, none⟩) (Kd.R_far (p := ⟨gb185, 5, none⟩) (Kd.R_types HO190.out BK185.out (by decide)) (fun _ hk => hk.2) (.int .i64 t186)) (fun _ hk => hk.2) (.int .i64 t187)) (fun _ hk => hk.2) (.slice Ao15 t188.length co15)) (fun _ h_ => h_.1))) hb); have n1_ := Aside0.mk (Kd.R_lower ho0 (below_size u6_2)); have n2_ := Aside0.mk (blk_below (g := gb183) (o := .cells #[.int .i64 a0_0, .int .i64 a0_1, .int .i64 a0_2, .int .i64 a0_3, .int .i64 a0_4, .int .i64 a0_5, .int .i64 a0_6, .slice A0_7 l0_7.length c0_7, .slice A0_8 l0_8.length c0_8, .slice A0_9 l0_9.length c0_9] 45 (0, 0)) (by (with_reducible repeat (first | refine blk_drewN ?_ _ | refine blk_drew ?_ | refine blk_alloc ?_ _)); refine blk_far ?_ NB183_185.out _; (with_reducible repeat (first | refine blk_drewN ?_ _ | refine blk_drew ?_ | refine blk_alloc ?_ _)); refine blk_far ?_ NB183_185.out _; (with_reducible repeat (first | refine blk_drewN ?_ _ | refine blk_drew ?_ | refine blk_alloc ?_ _)); refine blk_far ?_ NB183_185.out _; (with_reducible repeat (first | refine blk_drewN ?_ _ | refine blk_drew ?_ | refine blk_alloc ?_ _)); exact BK183.out) hb); have n3_ := Aside0.mk (blk_below (g := gb184) (o := .cells #[.int .i64 0, .int .i64 0, .int .i64 0, .int .i64 0, .int .i64 0, .int .i64 0, .int .i64 0, .slice none 0 0, .slice none 0 0, .slice none 0 0] 37 (0, 0)) (by (with_reducible repeat (first | refine blk_drewN ?_ _ | refine blk_drew ?_ | refine blk_alloc ?_ _)); refine blk_far ?_ NB184_185.out _; (with_reducible repeat (first | refine blk_drewN ?_ _ | refine blk_drew ?_ | refine blk_alloc ?_ _)); refine blk_far ?_ NB184_185.out _; (with_reducible repeat (first | refine blk_drewN ?_ _ | refine blk_drew ?_ | refine blk_alloc ?_ _)); refine blk_far ?_ NB184_185.out _; (with_reducible repeat (first | refine blk_drewN ?_ _ | refine blk_drew ?_ | refine blk_alloc ?_ _)); exact BK184.out) hb); have n4_ := Aside0.mk (blk_below (g := gb185) (o := .cells #[.int .i64 a0_0, .int .i64 a0_1, .int .i64 a0_2, .int .i64 a0_3, .int .i64 a0_4, .int .i64 t186, .int .i64 t187, .slice Ao15 t188.length co15, .slice none 0 0, .slice none 0 0] 37 (0, 0)) (by (with_reducible repeat (first | refine blk_drewN ?_ _ | refine blk_drew ?_ | refine blk_alloc ?_ _)); refine blk_put (cs := #[.int .i64 a0_0, .int .i64 a0_1, .int .i64 a0_2, .int .i64 a0_3, .int .i64 a0_4, .int .i64 t186, .int .i64 t187, .slice none 0 0, .slice none 0 0, .slice none 0 0]) ?_ 7 _ rfl; (with_reducible repeat (first | refine blk_drewN ?_ _ | refine blk_drew ?_ | refine blk_alloc ?_ _)); refine blk_put (cs := #[.int .i64 a0_0, .int .i64 a0_1, .int .i64 a0_2, .int .i64 a0_3, .int .i64 a0_4, .int .i64 t186, .int .i64 0, .slice none 0 0, .slice none 0 0, .slice none 0 0]) ?_ 6 _ rfl; (with_reducible repeat (first | refine blk_drewN ?_ _ | refine blk_drew ?_ | refine blk_alloc ?_ _)); refine blk_put (cs := #[.int .i64 a0_0, .int .i64 a0_1, .int .i64 a0_2, .int .i64 a0_3, .int .i64 a0_4, .int .i64 0, .int .i64 0, .slice none 0 0, .slice none 0 0, .slice none 0 0]) ?_ 5 _ rfl; (with_reducible repeat (first | refine blk_drewN ?_ _ | refine blk_drew ?_ | refine blk_alloc ?_ _)); exact BK185.out) hb); have n5_ := Aside0.mk (below_step u6_2 hb); clear HO190; clear BK183; clear BK184; clear BK185; clear HB; have HO190 := n0_; have HO193 := n1_; have BK183 := n2_; have BK184 := n3_; have BK185 := n4_; have HB := n5_; clear n0_ n1_ n2_ n3_ n4_ n5_; (try clear hb); (try clear hb2); (try clear hk); (try clear hi); (try clear ho0); obtain ⟨Ao18, co18, eo18⟩ := Kd.R_slice HO193.out; subst eo18; have hcz19_0 : w17.cell? ⟨gb185, 0, none⟩ = some (.int .i64 a0_0) := (blk_cell BK185.out 0).trans rfl; have hcz19_1 : w17.cell? ⟨gb185, 1, none⟩ = some (.int .i64 a0_1) := (blk_cell BK185.out 1).trans rfl; have hcz19_2 : w17.cell? ⟨gb185, 2, none⟩ = some (.int .i64 a0_2) := (blk_cell BK185.out 2).trans rfl; have hcz19_3 : w17.cell? ⟨gb185, 3, none⟩ = some (.int .i64 a0_3) := (blk_cell BK185.out 3).trans rfl; have hcz19_4 : w17.cell? ⟨gb185, 4, none⟩ = some (.int .i64 a0_4) := (blk_cell BK185.out 4).trans rfl; have hcz19_5 : w17.cell? ⟨gb185, 5, none⟩ = some (.int .i64 t186) := (blk_cell BK185.out 5).trans rfl; have hcz19_6 : w17.cell? ⟨gb185, 6, none⟩ = some (.int .i64 t187) := (blk_cell BK185.out 6).trans rfl; have hcz19_7 : w17.cell? ⟨gb185, 7, none⟩ = some (.slice Ao15 t188.length co15) := (blk_cell BK185.out 7).trans rfl; have hcz19_8 : w17.cell? ⟨gb185, 8, none⟩ = some (.slice none 0 0) := (blk_cell BK185.out 8).trans rfl; have hcz19_9 : w17.cell? ⟨gb185, 9, none⟩ = some (.slice none 0 0) := (blk_cell BK185.out 9).trans rfl; have hfz19_0 := blk_frozen BK185.out 0; have hfz19_1 := blk_frozen BK185.out 1; have hfz19_2 := blk_frozen BK185.out 2; have hfz19_3 := blk_frozen BK185.out 3; have hfz19_4 := blk_frozen BK185.out 4; have hfz19_5 := blk_frozen BK185.out 5; have hfz19_6 := blk_frozen BK185.out 6; have hfz19_7 := blk_frozen BK185.out 7; have hfz19_8 := blk_frozen BK185.out 8; have hfz19_9 := blk_frozen BK185.out 9; have hcz20_0 : w17.cell? ⟨gb183, 0, none⟩ = some (.int .i64 a0_0) := (blk_cell BK183.out 0).trans rfl; have hcz20_1 : w17.cell? ⟨gb183, 1, none⟩ = some (.int .i64 a0_1) := (blk_cell BK183.out 1).trans rfl; have hcz20_2 : w17.cell? ⟨gb183, 2, none⟩ = some (.int .i64 a0_2) := (blk_cell BK183.out 2).trans rfl; have hcz20_3 : w17.cell? ⟨gb183, 3, none⟩ = some (.int .i64 a0_3) := (blk_cell BK183.out 3).trans rfl; have hcz20_4 : w17.cell? ⟨gb183, 4, none⟩ = some (.int .i64 a0_4) := (blk_cell BK183.out 4).trans rfl; have hcz20_5 : w17.cell? ⟨gb183, 5, none⟩ = some (.int .i64 a0_5) := (blk_cell BK183.out 5).trans rfl; have hcz20_6 : w17.cell? ⟨gb183, 6, none⟩ = some (.int .i64 a0_6) := (blk_cell BK183.out 6).trans rfl; have hcz20_7 : w17.cell? ⟨gb183, 7, none⟩ = some (.slice A0_7 l0_7.length c0_7) := (blk_cell BK183.out 7).trans rfl; have hcz20_8 : w17.cell? ⟨gb183, 8, none⟩ = some (.slice A0_8 l0_8.length c0_8) := (blk_cell BK183.out 8).trans rfl; have hcz20_9 : w17.cell? ⟨gb183, 9, none⟩ = some (.slice A0_9 l0_9.length c0_9) := (blk_cell BK183.out 9).trans rfl; have hfz20_0 := blk_frozen BK183.out 0; have hfz20_1 := blk_frozen BK183.out 1; have hfz20_2 := blk_frozen BK183.out 2; have hfz20_3 := blk_frozen BK183.out 3; have hfz20_4 := blk_frozen BK183.out 4; have hfz20_5 := blk_frozen BK183.out 5; have hfz20_6 := blk_frozen BK183.out 6; have hfz20_7 := blk_frozen BK183.out 7; have hfz20_8 := blk_frozen BK183.out 8; have hfz20_9 := blk_frozen BK183.out 9) | ((with_reducible refine gate_callee (f := 77) rfl ?_); refine goesL_ (some 29) rfl rfl Try.func77 (by kernel_rfl) rfl #[.slice A0_9 l0_9.length c0_9] rfl u6_5 ?_; (with_reducible refine (laws_toIntS.calls k _ _ l0_9 t194 _ ?side1 ?side2 A4.out).mono ?_); (case side1 => exact (by exact Kd.C_below HR0_9.out u6_2)); (case side2 => exact HC0_9.out); rintro e w21 ⟨v195, rfl, ho0, hb⟩; refine ⟨_, rfl, ?_⟩; have n0_ := Aside0.mk (Kd.R_below (by (with_reducible repeat (first | apply Kd.R_alloc | apply Kd.R_drewN | apply Kd.R_drew)); exact (Kd.R_mono (Kd.R_far (p := ⟨gb185, 8, none⟩) (Kd.R_types HO190.out BK185.out (by decide)) (fun _ hk => hk.2) (.slice Ao18 t191.length co18)) (fun _ h_ => h_.1))) hb); have n1_ := Aside0.mk (Kd.R_elder' u6_22 (Kd.R_base ho0) hb); have n2_ := Aside0.mk (Kd.R_lower (Kd.R_new' ho0 (Kd.R_lt u6_22)) (below_size u6_2)); have n3_ := Aside0.mk (blk_below (g := gb183) (o := .cells #[.int .i64 a0_0, .int .i64 a0_1, .int .i64 a0_2, .int .i64 a0_3, .int .i64 a0_4, .int .i64 a0_5, .int .i64 a0_6, .slice A0_7 l0_7.length c0_7, .slice A0_8 l0_8.length c0_8, .slice A0_9 l0_9.length c0_9] 45 (0, 0)) (by (with_reducible repeat (first | refine blk_drewN ?_ _ | refine blk_drew ?_ | refine blk_alloc ?_ _)); refine blk_far ?_ NB183_185.out _; (with_reducible repeat (first | refine blk_drewN ?_ _ | refine blk_drew ?_ | refine blk_alloc ?_ _)); exact BK183.out) hb); have n4_ := Aside0.mk (blk_below (g := gb184) (o := .cells #[.int .i64 0, .int .i64 0, .int .i64 0, .int .i64 0, .int .i64 0, .int .i64 0, .int .i64 0, .slice none 0 0, .slice none 0 0, .slice none 0 0] 37 (0, 0)) (by (with_reducible repeat (first | refine blk_drewN ?_ _ | refine blk_drew ?_ | refine blk_alloc ?_ _)); refine blk_far ?_ NB184_185.out _; (with_reducible repeat (first | refine blk_drewN ?_ _ | refine blk_drew ?_ | refine blk_alloc ?_ _)); exact BK184.out) hb); have n5_ := Aside0.mk (blk_below (g := gb185) (o := .cells #[.int .i64 a0_0, .int .i64 a0_1, .int .i64 a0_2, .int .i64 a0_3, .int .i64 a0_4, .int .i64 t186, .int .i64 t187, .slice Ao15 t188.length co15, .slice Ao18 t191.length co18, .slice none 0 0] 37 (0, 0)) (by (with_reducible repeat (first | refine blk_drewN ?_ _ | refine blk_drew ?_ | refine blk_alloc ?_ _)); refine blk_put (cs := #[.int .i64 a0_0, .int .i64 a0_1, .int .i64 a0_2, .int .i64 a0_3, .int .i64 a0_4, .int .i64 t186, .int .i64 t187, .slice Ao15 t188.length co15, .slice none 0 0, .slice none 0 0]) ?_ 8 _ rfl; (with_reducible repeat (first | refine blk_drewN ?_ _ | refine blk_drew ?_ | refine blk_alloc ?_ _)); exact BK185.out) hb); have n6_ := Aside0.mk (below_step u6_2 hb); clear HO190; clear HO193; clear BK183; clear BK184; clear BK185; clear HB; have HO190 := n0_; have HO193 := n1_; have HO196 := n2_; have BK183 := n3_; have BK184 := n4_; have BK185 := n5_; have HB := n6_; clear n0_ n1_ n2_ n3_ n4_ n5_ n6_; (try clear hb); (try clear hb2); (try clear hk); (try clear hi); (try clear ho0); obtain ⟨Ao22, co22, eo22⟩ := Kd.R_slice HO196.out; subst eo22; have hcz23_0 : w21.cell? ⟨gb185, 0, none⟩ = some (.int .i64 a0_0) := (blk_cell BK185.out 0).trans rfl; have hcz23_1 : w21.cell? ⟨gb185, 1, none⟩ = some (.int .i64 a0_1) := (blk_cell BK185.out 1).trans rfl; have hcz23_2 : w21.cell? ⟨gb185, 2, none⟩ = some (.int .i64 a0_2) := (blk_cell BK185.out 2).trans rfl; have hcz23_3 : w21.cell? ⟨gb185, 3, none⟩ = some (.int .i64 a0_3) := (blk_cell BK185.out 3).trans rfl; have hcz23_4 : w21.cell? ⟨gb185, 4, none⟩ = some (.int .i64 a0_4) := (blk_cell BK185.out 4).trans rfl; have hcz23_5 : w21.cell? ⟨gb185, 5, none⟩ = some (.int .i64 t186) := (blk_cell BK185.out 5).trans rfl; have hcz23_6 : w21.cell? ⟨gb185, 6, none⟩ = some (.int .i64 t187) := (blk_cell BK185.out 6).trans rfl; have hcz23_7 : w21.cell? ⟨gb185, 7, none⟩ = some (.slice Ao15 t188.length co15) := (blk_cell BK185.out 7).trans rfl; have hcz23_8 : w21.cell? ⟨gb185, 8, none⟩ = some (.slice Ao18 t191.length co18) := (blk_cell BK185.out 8).trans rfl; have hcz23_9 : w21.cell? ⟨gb185, 9, none⟩ = some (.slice none 0 0) := (blk_cell BK185.out 9).trans rfl; have hfz23_0 := blk_frozen BK185.out 0; have hfz23_1 := blk_frozen BK185.out 1; have hfz23_2 := blk_frozen BK185.out 2; have hfz23_3 := blk_frozen BK185.out 3; have hfz23_4 := blk_frozen BK185.out 4; have hfz23_5 := blk_frozen BK185.out 5; have hfz23_6 := blk_frozen BK185.out 6; have hfz23_7 := blk_frozen BK185.out 7; have hfz23_8 := blk_frozen BK185.out 8; have hfz23_9 := blk_frozen BK185.out 9; have hcz24_0 : w21.cell? ⟨gb184, 0, none⟩ = some (.int .i64 0) := (blk_cell BK184.out 0).trans rfl; have hcz24_1 : w21.cell? ⟨gb184, 1, none⟩ = some (.int .i64 0) := (blk_cell BK184.out 1).trans rfl; have hcz24_2 : w21.cell? ⟨gb184, 2, none⟩ = some (.int .i64 0) := (blk_cell BK184.out 2).trans rfl; have hcz24_3 : w21.cell? ⟨gb184, 3, none⟩ = some (.int .i64 0) := (blk_cell BK184.out 3).trans rfl; have hcz24_4 : w21.cell? ⟨gb184, 4, none⟩ = some (.int .i64 0) := (blk_cell BK184.out 4).trans rfl; have hcz24_5 : w21.cell? ⟨gb184, 5, none⟩ = some (.int .i64 0) := (blk_cell BK184.out 5).trans rfl; have hcz24_6 : w21.cell? ⟨gb184, 6, none⟩ = some (.int .i64 0) := (blk_cell BK184.out 6).trans rfl; have hcz24_7 : w21.cell? ⟨gb184, 7, none⟩ = some (.slice none 0 0) := (blk_cell BK184.out 7).trans rfl; have hcz24_8 : w21.cell? ⟨gb184, 8, none⟩ = some (.slice none 0 0) := (blk_cell BK184.out 8).trans rfl; have hcz24_9 : w21.cell? ⟨gb184, 9, none⟩ = some (.slice none 0 0) := (blk_cell BK184.out 9).trans rfl; have hfz24_0 := blk_frozen BK184.out 0; have hfz24_1 := blk_frozen BK184.out 1; have hfz24_2 := blk_frozen BK184.out 2; have hfz24_3 := blk_frozen BK184.out 3; have hfz24_4 := blk_frozen BK184.out 4; have hfz24_5 := blk_frozen BK184.out 5; have hfz24_6 := blk_frozen BK184.out 6; have hfz24_7 := blk_frozen BK184.out 7; have hfz24_8 := blk_frozen BK184.out 8; have hfz24_9 := blk_frozen BK184.out 9))
  refine bodyPost_ret (results_cell_row rfl _ _ gb184 37 #[.int .i64 a0_0, .int .i64 a0_1, .int .i64 a0_2, .int .i64 a0_3, .int .i64 a0_4, .int .i64 t186, .int .i64 t187, .slice Ao15 t188.length co15, .slice Ao18 t191.length co18, .slice Ao22 t194.length co22] (0, 0) _ rfl (by (with_reducible repeat (first | refine blk_drewN ?_ _ | refine blk_drew ?_ | refine blk_alloc ?_ _)); refine blk_put (cs := #[.int .i64 a0_0, .int .i64 a0_1, .int .i64 a0_2, .int .i64 a0_3, .int .i64 a0_4, .int .i64 t186, .int .i64 t187, .slice Ao15 t188.length co15, .slice Ao18 t191.length co18, .slice none 0 0]) ?_ 9 _ rfl; (with_reducible repeat (first | refine blk_drewN ?_ _ | refine blk_drew ?_ | refine blk_alloc ?_ _)); refine blk_put (cs := #[.int .i64 a0_0, .int .i64 a0_1, .int .i64 a0_2, .int .i64 a0_3, .int .i64 a0_4, .int .i64 t186, .int .i64 t187, .slice Ao15 t188.length co15, .slice none 0 0, .slice none 0 0]) ?_ 8 _ rfl; (with_reducible repeat (first | refine blk_drewN ?_ _ | refine blk_drew ?_ | refine blk_alloc ?_ _)); refine blk_put (cs := #[.int .i64 a0_0, .int .i64 a0_1, .int .i64 a0_2, .int .i64 a0_3, .int .i64 a0_4, .int .i64 t186, .int .i64 t187, .slice none 0 0, .slice none 0 0, .slice none 0 0]) ?_ 7 _ rfl; (with_reducible repeat (first | refine blk_drewN ?_ _ | refine blk_drew ?_ | refine blk_alloc ?_ _)); refine blk_put (cs := #[.int .i64 a0_0, .int .i64 a0_1, .int .i64 a0_2, .int .i64 a0_3, .int .i64 a0_4, .int .i64 t186, .int .i64 0, .slice none 0 0, .slice none 0 0, .slice none 0 0]) ?_ 6 _ rfl; (with_reducible repeat (first | refine blk_drewN ?_ _ | refine blk_drew ?_ | refine blk_alloc ?_ _)); refine blk_put (cs := #[.int .i64 a0_0, .int .i64 a0_1, .int .i64 a0_2, .int .i64 a0_3, .int .i64 a0_4, .int .i64 0, .int .i64 0, .slice none 0 0, .slice none 0 0, .slice none 0 0]) ?_ 5 _ rfl; (with_reducible repeat (first | refine blk_drewN ?_ _ | refine blk_drew ?_ | refine blk_alloc ?_ _)); refine blk_put (cs := #[.int .i64 a0_0, .int .i64 a0_1, .int .i64 a0_2, .int .i64 a0_3, .int .i64 0, .int .i64 0, .int .i64 0, .slice none 0 0, .slice none 0 0, .slice none 0 0]) ?_ 4 _ rfl; (with_reducible repeat (first | refine blk_drewN ?_ _ | refine blk_drew ?_ | refine blk_alloc ?_ _)); refine blk_put (cs := #[.int .i64 a0_0, .int .i64 a0_1, .int .i64 a0_2, .int .i64 0, .int .i64 0, .int .i64 0, .int .i64 0, .slice none 0 0, .slice none 0 0, .slice none 0 0]) ?_ 3 _ rfl; (with_reducible repeat (first | refine blk_drewN ?_ _ | refine blk_drew ?_ | refine blk_alloc ?_ _)); refine blk_put (cs := #[.int .i64 a0_0, .int .i64 a0_1, .int .i64 0, .int .i64 0, .int .i64 0, .int .i64 0, .int .i64 0, .slice none 0 0, .slice none 0 0, .slice none 0 0]) ?_ 2 _ rfl; (with_reducible repeat (first | refine blk_drewN ?_ _ | refine blk_drew ?_ | refine blk_alloc ?_ _)); refine blk_put (cs := #[.int .i64 a0_0, .int .i64 0, .int .i64 0, .int .i64 0, .int .i64 0, .int .i64 0, .int .i64 0, .slice none 0 0, .slice none 0 0, .slice none 0 0]) ?_ 1 _ rfl; (with_reducible repeat (first | refine blk_drewN ?_ _ | refine blk_drew ?_ | refine blk_alloc ?_ _)); refine blk_put (cs := #[.int .i64 0, .int .i64 0, .int .i64 0, .int .i64 0, .int .i64 0, .int .i64 0, .int .i64 0, .slice none 0 0, .slice none 0 0, .slice none 0 0]) ?_ 0 _ rfl; (with_reducible repeat (first | refine blk_drewN ?_ _ | refine blk_drew ?_ | refine blk_alloc ?_ _)); refine blk_far ?_ NB184_185.out _; (with_reducible repeat (first | refine blk_drewN ?_ _ | refine blk_drew ?_ | refine blk_alloc ?_ _)); exact BK184.out) Try.underlying37 rfl (by kernel_rfl)) rfl ?_
  exact ⟨_, _, _, by first | rfl | (simp [errW_none, errW_some] <;> rfl) | (simp [*, errW_none, errW_some] <;> rfl), (by (with_reducible repeat (first | apply Kd.R_alloc | apply Kd.R_drewN | apply Kd.R_drew)); exact Kd.R_mono (Kd.R_far (p := ⟨gb184, 9, none⟩) (Kd.R_far (p := ⟨gb184, 8, none⟩) (Kd.R_far (p := ⟨gb184, 7, none⟩) (Kd.R_far (p := ⟨gb184, 6, none⟩) (Kd.R_far (p := ⟨gb184, 5, none⟩) (Kd.R_far (p := ⟨gb184, 4, none⟩) (Kd.R_far (p := ⟨gb184, 3, none⟩) (Kd.R_far (p := ⟨gb184, 2, none⟩) (Kd.R_far (p := ⟨gb184, 1, none⟩) (Kd.R_far (p := ⟨gb184, 0, none⟩) (Kd.R_far (p := ⟨gb185, 9, none⟩) (Kd.R_types (Kd.R_types HO190.out BK185.out (by decide)) BK184.out (by decide)) (fun _ hk => hk.1.2) (.slice Ao22 t194.length co22)) (fun _ hk => hk.2) (.int .i64 a0_0)) (fun _ hk => hk.2) (.int .i64 a0_1)) (fun _ hk => hk.2) (.int .i64 a0_2)) (fun _ hk => hk.2) (.int .i64 a0_3)) (fun _ hk => hk.2) (.int .i64 a0_4)) (fun _ hk => hk.2) (.int .i64 t186)) (fun _ hk => hk.2) (.int .i64 t187)) (fun _ hk => hk.2) (.slice Ao15 t188.length co15)) (fun _ hk => hk.2) (.slice Ao18 t191.length co18)) (fun _ hk => hk.2) (.slice Ao22 t194.length co22)) (fun _ hk => trivial)), (by (with_reducible repeat (first | apply Kd.R_alloc | apply Kd.R_drewN | apply Kd.R_drew)); exact Kd.R_mono (Kd.R_far (p := ⟨gb184, 9, none⟩) (Kd.R_far (p := ⟨gb184, 8, none⟩) (Kd.R_far (p := ⟨gb184, 7, none⟩) (Kd.R_far (p := ⟨gb184, 6, none⟩) (Kd.R_far (p := ⟨gb184, 5, none⟩) (Kd.R_far (p := ⟨gb184, 4, none⟩) (Kd.R_far (p := ⟨gb184, 3, none⟩) (Kd.R_far (p := ⟨gb184, 2, none⟩) (Kd.R_far (p := ⟨gb184, 1, none⟩) (Kd.R_far (p := ⟨gb184, 0, none⟩) (Kd.R_far (p := ⟨gb185, 9, none⟩) (Kd.R_types (Kd.R_types HO193.out BK185.out (by decide)) BK184.out (by decide)) (fun _ hk => hk.1.2) (.slice Ao22 t194.length co22)) (fun _ hk => hk.2) (.int .i64 a0_0)) (fun _ hk => hk.2) (.int .i64 a0_1)) (fun _ hk => hk.2) (.int .i64 a0_2)) (fun _ hk => hk.2) (.int .i64 a0_3)) (fun _ hk => hk.2) (.int .i64 a0_4)) (fun _ hk => hk.2) (.int .i64 t186)) (fun _ hk => hk.2) (.int .i64 t187)) (fun _ hk => hk.2) (.slice Ao15 t188.length co15)) (fun _ hk => hk.2) (.slice Ao18 t191.length co18)) (fun _ hk => hk.2) (.slice Ao22 t194.length co22)) (fun _ hk => hk.1.1.2)), (by (with_reducible repeat (first | apply Kd.R_alloc | apply Kd.R_drewN | apply Kd.R_drew)); exact Kd.R_mono (Kd.R_far (p := ⟨gb184, 9, none⟩) (Kd.R_far (p := ⟨gb184, 8, none⟩) (Kd.R_far (p := ⟨gb184, 7, none⟩) (Kd.R_far (p := ⟨gb184, 6, none⟩) (Kd.R_far (p := ⟨gb184, 5, none⟩) (Kd.R_far (p := ⟨gb184, 4, none⟩) (Kd.R_far (p := ⟨gb184, 3, none⟩) (Kd.R_far (p := ⟨gb184, 2, none⟩) (Kd.R_far (p := ⟨gb184, 1, none⟩) (Kd.R_far (p := ⟨gb184, 0, none⟩) (Kd.R_far (p := ⟨gb185, 9, none⟩) (Kd.R_types (Kd.R_types HO196.out BK185.out (by decide)) BK184.out (by decide)) (fun _ hk => hk.1.2) (.slice Ao22 t194.length co22)) (fun _ hk => hk.2) (.int .i64 a0_0)) (fun _ hk => hk.2) (.int .i64 a0_1)) (fun _ hk => hk.2) (.int .i64 a0_2)) (fun _ hk => hk.2) (.int .i64 a0_3)) (fun _ hk => hk.2) (.int .i64 a0_4)) (fun _ hk => hk.2) (.int .i64 t186)) (fun _ hk => hk.2) (.int .i64 t187)) (fun _ hk => hk.2) (.slice Ao15 t188.length co15)) (fun _ hk => hk.2) (.slice Ao18 t191.length co18)) (fun _ hk => hk.2) (.slice Ao22 t194.length co22)) (fun _ hk => hk.1.1.2)), u6_2⟩

/-! ### impl_isEntry: function 111 -/
def impl_isEntry.f (a0_0 : Int) (a0_1 : ByteArray) : Option (Bool) := if a0_0 > 0 then (if a0_0 ≤ 1000000 then (some (decide ((a0_1.size : Int) ≤ 40))) else (some false)) else (some false)
set_option maxHeartbeats 8000000 in
set_option maxRecDepth 100000 in
theorem impl_isEntry.calls (a0_0 : Int) (a0_1 : ByteArray) (r : Bool) (w : World) (h : impl_isEntry.f a0_0 a0_1 = some r) :
    Calls Try.prog 111 #[.agg #[.int .i64 a0_0, .string a0_1]] w fun e w' => e = .returned (.bool r) ∧ Below w.heap.size w w' := by
  have hu85 := Try.underlying85
  have HB := Aside0.mk (Below.refl w.heap.size w)
  have H : (if a0_0 > 0 then (if a0_0 ≤ 1000000 then (some (decide ((a0_1.size : Int) ≤ 40))) else (some false)) else (some false)) = some r := h
  clear h
  by_cases c2 : a0_0 > 0
  rotate_left
  · rw [if_neg c2] at H
    have c2b0 : decide (0 < a0_0) = false := decide_eq_false c2
    clear c2
    obtain rfl := Option.some.inj H
    go_enter Try.func111, Try.ntmps111
    go_wp2_with (first | ((with_reducible refine gate_dst (N := 1) rfl ?_); (try (refine gate_guard (by rfl) ?_; dsimp only)); refine box_event ?hg (N := 1) ?hd (cs := #[.int .i64 a0_0, .string a0_1]) (t := 85) ?hr ?_; (case hd => rfl); (case hg => rfl); (case hr => first | (go_simp; done) | (go_simp; rfl)); intro gb197 hg w8 hbox hb; have n0_ := Aside0.mk (below_step u6_0 hb); have n1_ := Aside0.mk (hbox); have n2_ := Aside0.mk ((by rw [hg]; exact (below_size u6_0) : w.heap.size ≤ gb197)); have n3_ := Aside0.mk ((by rw [hg]; exact (below_size u6_0) : w.heap.size ≤ gb197)); clear HB; have HB := n0_; have BK197 := n1_; have GW197 := n2_; have GE197 := n3_; clear n0_ n1_ n2_ n3_; clear hb hbox hg; have hcz9_0 : w8.cell? ⟨gb197, 0, none⟩ = some (.int .i64 a0_0) := (blk_cell BK197.out 0).trans rfl; have hcz9_1 : w8.cell? ⟨gb197, 1, none⟩ = some (.string a0_1) := (blk_cell BK197.out 1).trans rfl; have hfz9_0 := blk_frozen BK197.out 0; have hfz9_1 := blk_frozen BK197.out 1))
    go_ret
    exact ⟨by first | rfl | (simp [errW_none, errW_some] <;> rfl) | (simp [*, errW_none, errW_some] <;> rfl), u6_21⟩
  rw [if_pos c2] at H
  have c2b0 : decide (0 < a0_0) = true := decide_eq_true c2
  clear c2
  by_cases c3 : a0_0 ≤ 1000000
  · rw [if_pos c3] at H
    have c3b0 : decide (a0_0 ≤ 1000000) = true := decide_eq_true c3
    clear c3
    obtain rfl := Option.some.inj H
    go_enter Try.func111, Try.ntmps111
    go_wp2_with (first | ((with_reducible refine gate_dst (N := 1) rfl ?_); (try (refine gate_guard (by rfl) ?_; dsimp only)); refine box_event ?hg (N := 1) ?hd (cs := #[.int .i64 a0_0, .string a0_1]) (t := 85) ?hr ?_; (case hd => rfl); (case hg => rfl); (case hr => first | (go_simp; done) | (go_simp; rfl)); intro gb197 hg w4 hbox hb; have n0_ := Aside0.mk (below_step u6_0 hb); have n1_ := Aside0.mk (hbox); have n2_ := Aside0.mk ((by rw [hg]; exact (below_size u6_0) : w.heap.size ≤ gb197)); have n3_ := Aside0.mk ((by rw [hg]; exact (below_size u6_0) : w.heap.size ≤ gb197)); clear HB; have HB := n0_; have BK197 := n1_; have GW197 := n2_; have GE197 := n3_; clear n0_ n1_ n2_ n3_; clear hb hbox hg; have hcz5_0 : w4.cell? ⟨gb197, 0, none⟩ = some (.int .i64 a0_0) := (blk_cell BK197.out 0).trans rfl; have hcz5_1 : w4.cell? ⟨gb197, 1, none⟩ = some (.string a0_1) := (blk_cell BK197.out 1).trans rfl; have hfz5_0 := blk_frozen BK197.out 0; have hfz5_1 := blk_frozen BK197.out 1))
    go_ret
    exact ⟨by first | rfl | (simp [errW_none, errW_some] <;> rfl) | (simp [*, errW_none, errW_some] <;> rfl), u6_21⟩
  rw [if_neg c3] at H
  have c3b0 : decide (a0_0 ≤ 1000000) = false := decide_eq_false c3
  clear c3
  obtain rfl := Option.some.inj H
  go_enter Try.func111, Try.ntmps111
  go_wp2_with (first | ((with_reducible refine gate_dst (N := 1) rfl ?_); (try (refine gate_guard (by rfl) ?_; dsimp only)); refine box_event ?hg (N := 1) ?hd (cs := #[.int .i64 a0_0, .string a0_1]) (t := 85) ?hr ?_; (case hd => rfl); (case hg => rfl); (case hr => first | (go_simp; done) | (go_simp; rfl)); intro gb197 hg w6 hbox hb; have n0_ := Aside0.mk (below_step u6_0 hb); have n1_ := Aside0.mk (hbox); have n2_ := Aside0.mk ((by rw [hg]; exact (below_size u6_0) : w.heap.size ≤ gb197)); have n3_ := Aside0.mk ((by rw [hg]; exact (below_size u6_0) : w.heap.size ≤ gb197)); clear HB; have HB := n0_; have BK197 := n1_; have GW197 := n2_; have GE197 := n3_; clear n0_ n1_ n2_ n3_; clear hb hbox hg; have hcz7_0 : w6.cell? ⟨gb197, 0, none⟩ = some (.int .i64 a0_0) := (blk_cell BK197.out 0).trans rfl; have hcz7_1 : w6.cell? ⟨gb197, 1, none⟩ = some (.string a0_1) := (blk_cell BK197.out 1).trans rfl; have hfz7_0 := blk_frozen BK197.out 0; have hfz7_1 := blk_frozen BK197.out 1))
  go_ret
  exact ⟨by first | rfl | (simp [errW_none, errW_some] <;> rfl) | (simp [*, errW_none, errW_some] <;> rfl), u6_21⟩

/-! ### impl_isRLog: function 88 -/
mutual
def impl_isRLog.j0 : Nat → Bool → Int → Int → List (S85) → Option (Bool)
  | 0, _, _, _, _ => none
  | k + 1, x38, x199000, x199001, x199002 => if x38 = true then (some false) else (impl_isRLog.l0 k x199001 x199002 (x199002.length : Int) 0)
def impl_isRLog.l0 : Nat → Int → List (S85) → Int → Int → Option (Bool)
  | 0, _, _, _, _ => none
  | k + 1, x3, x42, x43, x44 => if x44 < x43 then (if 0 ≤ x44 then (if x44 < (x42.length : Int) then ((impl_isEntry.f ((rd_T85 x42 x44).f0) ((rd_T85 x42 x44).f1)).bind fun t201 => (if t201 = true then (if ((rd_T85 x42 x44).f0) < x3 then (some false) else (impl_isRLog.l0 k ((rd_T85 x42 x44).f0) x42 x43 (wrap64 (x44 + 1)))) else (some false))) else (none)) else (none)) else (some true)
end
def impl_isRLog.f (k : Nat) (a0_0 : Int) (a0_1 : Int) (l0_2 : List (S85)) : Option (Bool) := if a0_0 < 0 then (impl_isRLog.j0 k true a0_0 a0_1 l0_2) else (if a0_0 > 1000000 then (impl_isRLog.j0 k true a0_0 a0_1 l0_2) else (if a0_1 < 0 then (impl_isRLog.j0 k true a0_0 a0_1 l0_2) else (if a0_1 > 1000000 then (impl_isRLog.j0 k true a0_0 a0_1 l0_2) else (if ((a0_1 == 0) != (a0_0 == 0)) = true then (impl_isRLog.j0 k true a0_0 a0_1 l0_2) else (impl_isRLog.j0 k (decide ((l0_2.length : Int) > 60)) a0_0 a0_1 l0_2)))))
theorem impl_isRLog.mono_l : ∀ k, (∀ y0 y1 y2 y3, LeO (impl_isRLog.j0 k y0 y1 y2 y3) (impl_isRLog.j0 (k + 1) y0 y1 y2 y3)) ∧ (∀ y0 y1 y2 y3, LeO (impl_isRLog.l0 k y0 y1 y2 y3) (impl_isRLog.l0 (k + 1) y0 y1 y2 y3))
  | 0 => ⟨fun _ _ _ _ r h => by simp [impl_isRLog.j0] at h, fun _ _ _ _ r h => by simp [impl_isRLog.l0] at h⟩
  | k + 1 => by
    obtain ⟨ih0, ih1⟩ := impl_isRLog.mono_l k
    refine ⟨?_, ?_⟩
    · intro y0 y1 y2 y3
      unfold impl_isRLog.j0
      repeat' first
      | (with_reducible exact ih0 _ _ _ _)
      | (with_reducible exact ih1 _ _ _ _)
      | (with_reducible exact LeO.refl _)
      | (with_reducible exact LeO.none _)
      | (with_reducible refine LeO.ite ?_ ?_)
      | (with_reducible refine LeO.bind ?_ (fun _ => ?_))
      | exact ih0 _ _ _ _
      | exact ih1 _ _ _ _
      | exact LeO.none _
      | refine LeO.ite ?_ ?_
      | refine LeO.bind ?_ (fun _ => ?_)
    · intro y0 y1 y2 y3
      unfold impl_isRLog.l0
      repeat' first
      | (with_reducible exact ih0 _ _ _ _)
      | (with_reducible exact ih1 _ _ _ _)
      | (with_reducible exact LeO.refl _)
      | (with_reducible exact LeO.none _)
      | (with_reducible refine LeO.ite ?_ ?_)
      | (with_reducible refine LeO.bind ?_ (fun _ => ?_))
      | exact ih0 _ _ _ _
      | exact ih1 _ _ _ _
      | exact LeO.none _
      | refine LeO.ite ?_ ?_
      | refine LeO.bind ?_ (fun _ => ?_)
theorem impl_isRLog.mono : ∀ a0 a1 a2 k, LeO (impl_isRLog.f k a0 a1 a2) (impl_isRLog.f (k + 1) a0 a1 a2) := by
  intro a0 a1 a2 k
  obtain ⟨ih0, ih1⟩ := impl_isRLog.mono_l k
  unfold impl_isRLog.f
  repeat' first
      | (with_reducible exact ih0 _ _ _ _)
      | (with_reducible exact ih1 _ _ _ _)
      | (with_reducible exact LeO.refl _)
      | (with_reducible exact LeO.none _)
      | (with_reducible refine LeO.ite ?_ ?_)
      | (with_reducible refine LeO.bind ?_ (fun _ => ?_))
      | exact ih0 _ _ _ _
      | exact ih1 _ _ _ _
      | exact LeO.none _
      | refine LeO.ite ?_ ?_
      | refine LeO.bind ?_ (fun _ => ?_)
set_option maxHeartbeats 8000000 in
set_option maxRecDepth 100000 in
theorem impl_isRLog.calls (k : Nat) (a0_0 : Int) (a0_1 : Int) (A0_2 : Option Addr) (c0_2 : Nat) (l0_2 : List (S85)) (r : Bool) (w : World) (hr0_2 : Kd.C k85 w A0_2 l0_2.length l0_2) (hc0_2 : l0_2.length ≤ c0_2) (h : impl_isRLog.f k a0_0 a0_1 l0_2 = some r) :
    Calls Try.prog 88 #[.agg #[.int .i64 a0_0, .int .i64 a0_1, .slice A0_2 l0_2.length c0_2]] w fun e w' => e = .returned (.bool r) ∧ Below w.heap.size w w' := by
  have hu34 := Try.underlying34
  have hu85 := Try.underlying85
  have HR0_2 := Aside0.mk hr0_2
  have HC0_2 := Aside0.mk hc0_2
  clear hr0_2 hc0_2
  have HB := Aside0.mk (Below.refl w.heap.size w)
  have H : (if a0_0 < 0 then (impl_isRLog.j0 k true a0_0 a0_1 l0_2) else (if a0_0 > 1000000 then (impl_isRLog.j0 k true a0_0 a0_1 l0_2) else (if a0_1 < 0 then (impl_isRLog.j0 k true a0_0 a0_1 l0_2) else (if a0_1 > 1000000 then (impl_isRLog.j0 k true a0_0 a0_1 l0_2) else (if ((a0_1 == 0) != (a0_0 == 0)) = true then (impl_isRLog.j0 k true a0_0 a0_1 l0_2) else (impl_isRLog.j0 k (decide ((l0_2.length : Int) > 60)) a0_0 a0_1 l0_2)))))) = some r := h
  clear h
  have HC2 := Aside0.mk H
  clear H
  go_enter Try.func88, Try.ntmps88
  go_upto_region 1 with (first | ((with_reducible refine gate_dst (N := 1) rfl ?_); (try (refine gate_guard (by rfl) ?_; dsimp only)); refine box_event ?hg (N := 1) ?hd (cs := #[.int .i64 a0_0, .int .i64 a0_1, .slice A0_2 l0_2.length c0_2]) (t := 34) ?hr ?_; (case hd => rfl); (case hg => rfl); (case hr => first | (go_simp; done) | (go_simp; rfl)); intro gb198 hg w3 hbox hb; have n0_ := Aside0.mk (below_step u6_0 hb); have n1_ := Aside0.mk (hbox); have n2_ := Aside0.mk ((by rw [hg]; exact (below_size u6_0) : w.heap.size ≤ gb198)); have n3_ := Aside0.mk ((by rw [hg]; exact (below_size u6_0) : w.heap.size ≤ gb198)); clear HB; have HB := n0_; have BK198 := n1_; have GW198 := n2_; have GE198 := n3_; clear n0_ n1_ n2_ n3_; clear hb hbox hg))
  (try simp only [Act.put, List.setIfInBounds_toArray, List.set_cons_zero, List.set_cons_succ])
  go_cut [38] (fun v38 wc => ∃ (kq : Nat) (x38_1 : Bool), v38 = .bool x38_1 ∧ Aside0 (impl_isRLog.j0 kq x38_1 a0_0 a0_1 l0_2 = some r) ∧ Aside0 (kq ≤ k) ∧ Aside0 (wc.heap[gb198]? = some (.cells #[.int .i64 a0_0, .int .i64 a0_1, (.slice A0_2 l0_2.length c0_2)] 34 (0, 0))) ∧ Aside0 (Below w.heap.size w wc))
  case first =>
    have H := HC2.out
    clear HC2
    by_cases c4 : a0_0 < 0
    · rw [if_pos c4] at H
      have c4b0 : decide (a0_0 < 0) = true := decide_eq_true c4
      clear c4
      (first | rw [c4b0] | (simp only [i64_w, i32_w]; rw [c4b0]) | skip)
      have H' := Aside0.mk H
      clear H
      have hcz5_0 : w3.cell? ⟨gb198, 0, none⟩ = some (.int .i64 a0_0) := (blk_cell BK198.out 0).trans rfl
      have hcz5_1 : w3.cell? ⟨gb198, 1, none⟩ = some (.int .i64 a0_1) := (blk_cell BK198.out 1).trans rfl
      have hcz5_2 : w3.cell? ⟨gb198, 2, none⟩ = some (.slice A0_2 l0_2.length c0_2) := (blk_cell BK198.out 2).trans rfl
      have hfz5_0 := blk_frozen BK198.out 0
      have hfz5_1 := blk_frozen BK198.out 1
      have hfz5_2 := blk_frozen BK198.out 2
      go_wp2
      go_meet
      case rel => exact ⟨_, (true), u6_11, H', ⟨by first | omega | exact Nat.le_refl _⟩, ⟨u6_3⟩, ⟨u6_1⟩⟩
    rw [if_neg c4] at H
    have c4b0 : decide (a0_0 < 0) = false := decide_eq_false c4
    clear c4
    (first | rw [c4b0] | (simp only [i64_w, i32_w]; rw [c4b0]) | skip)
    by_cases c6 : a0_0 > 1000000
    · rw [if_pos c6] at H
      have c6b0 : decide (1000000 < a0_0) = true := decide_eq_true c6
      clear c6
      have H' := Aside0.mk H
      clear H
      have hcz7_0 : w3.cell? ⟨gb198, 0, none⟩ = some (.int .i64 a0_0) := (blk_cell BK198.out 0).trans rfl
      have hcz7_1 : w3.cell? ⟨gb198, 1, none⟩ = some (.int .i64 a0_1) := (blk_cell BK198.out 1).trans rfl
      have hcz7_2 : w3.cell? ⟨gb198, 2, none⟩ = some (.slice A0_2 l0_2.length c0_2) := (blk_cell BK198.out 2).trans rfl
      have hfz7_0 := blk_frozen BK198.out 0
      have hfz7_1 := blk_frozen BK198.out 1
      have hfz7_2 := blk_frozen BK198.out 2
      go_wp2
      go_meet
      case rel => exact ⟨_, (true), u6_11, H', ⟨by first | omega | exact Nat.le_refl _⟩, ⟨u6_3⟩, ⟨u6_1⟩⟩
    rw [if_neg c6] at H
    have c6b0 : decide (1000000 < a0_0) = false := decide_eq_false c6
    clear c6
    by_cases c8 : a0_1 < 0
    · rw [if_pos c8] at H
      have c8b0 : decide (a0_1 < 0) = true := decide_eq_true c8
      clear c8
      have H' := Aside0.mk H
      clear H
      have hcz9_0 : w3.cell? ⟨gb198, 0, none⟩ = some (.int .i64 a0_0) := (blk_cell BK198.out 0).trans rfl
      have hcz9_1 : w3.cell? ⟨gb198, 1, none⟩ = some (.int .i64 a0_1) := (blk_cell BK198.out 1).trans rfl
      have hcz9_2 : w3.cell? ⟨gb198, 2, none⟩ = some (.slice A0_2 l0_2.length c0_2) := (blk_cell BK198.out 2).trans rfl
      have hfz9_0 := blk_frozen BK198.out 0
      have hfz9_1 := blk_frozen BK198.out 1
      have hfz9_2 := blk_frozen BK198.out 2
      go_wp2
      go_meet
      case rel => exact ⟨_, (true), u6_11, H', ⟨by first | omega | exact Nat.le_refl _⟩, ⟨u6_3⟩, ⟨u6_1⟩⟩
    rw [if_neg c8] at H
    have c8b0 : decide (a0_1 < 0) = false := decide_eq_false c8
    clear c8
    by_cases c10 : a0_1 > 1000000
    · rw [if_pos c10] at H
      have c10b0 : decide (1000000 < a0_1) = true := decide_eq_true c10
      clear c10
      have H' := Aside0.mk H
      clear H
      have hcz11_0 : w3.cell? ⟨gb198, 0, none⟩ = some (.int .i64 a0_0) := (blk_cell BK198.out 0).trans rfl
      have hcz11_1 : w3.cell? ⟨gb198, 1, none⟩ = some (.int .i64 a0_1) := (blk_cell BK198.out 1).trans rfl
      have hcz11_2 : w3.cell? ⟨gb198, 2, none⟩ = some (.slice A0_2 l0_2.length c0_2) := (blk_cell BK198.out 2).trans rfl
      have hfz11_0 := blk_frozen BK198.out 0
      have hfz11_1 := blk_frozen BK198.out 1
      have hfz11_2 := blk_frozen BK198.out 2
      go_wp2
      go_meet
      case rel => exact ⟨_, (true), u6_11, H', ⟨by first | omega | exact Nat.le_refl _⟩, ⟨u6_3⟩, ⟨u6_1⟩⟩
    rw [if_neg c10] at H
    have c10b0 : decide (1000000 < a0_1) = false := decide_eq_false c10
    clear c10
    by_cases c12 : ((a0_1 == 0) != (a0_0 == 0)) = true
    rotate_left
    · rw [if_neg c12] at H
      have c12b0 : ((a0_1 == 0) != (a0_0 == 0)) = false := by simpa using c12
      (try (have c12b1 : decide ((a0_1 == 0) = (a0_0 == 0)) = true := by simpa using c12))
      (try (have c12b2 : ((a0_1 == 0) == (a0_0 == 0)) = true := by simpa using c12))
      clear c12
      have H' := Aside0.mk H
      clear H
      have hcz14_0 : w3.cell? ⟨gb198, 0, none⟩ = some (.int .i64 a0_0) := (blk_cell BK198.out 0).trans rfl
      have hcz14_1 : w3.cell? ⟨gb198, 1, none⟩ = some (.int .i64 a0_1) := (blk_cell BK198.out 1).trans rfl
      have hcz14_2 : w3.cell? ⟨gb198, 2, none⟩ = some (.slice A0_2 l0_2.length c0_2) := (blk_cell BK198.out 2).trans rfl
      have hfz14_0 := blk_frozen BK198.out 0
      have hfz14_1 := blk_frozen BK198.out 1
      have hfz14_2 := blk_frozen BK198.out 2
      go_wp2
      go_meet
      case rel => exact ⟨_, (decide ((l0_2.length : Int) > 60)), u6_11, H', ⟨by first | omega | exact Nat.le_refl _⟩, ⟨u6_3⟩, ⟨u6_1⟩⟩
    rw [if_pos c12] at H
    have c12b0 : ((a0_1 == 0) != (a0_0 == 0)) = true := c12
    (try (have c12b1 : decide ((a0_1 == 0) = (a0_0 == 0)) = false := by simpa using c12))
    (try (have c12b2 : ((a0_1 == 0) == (a0_0 == 0)) = false := by simpa using c12))
    (try (have c12b3 : ¬ ((a0_1 == 0) = (a0_0 == 0)) := by simpa using c12))
    clear c12
    have H' := Aside0.mk H
    clear H
    have hcz13_0 : w3.cell? ⟨gb198, 0, none⟩ = some (.int .i64 a0_0) := (blk_cell BK198.out 0).trans rfl
    have hcz13_1 : w3.cell? ⟨gb198, 1, none⟩ = some (.int .i64 a0_1) := (blk_cell BK198.out 1).trans rfl
    have hcz13_2 : w3.cell? ⟨gb198, 2, none⟩ = some (.slice A0_2 l0_2.length c0_2) := (blk_cell BK198.out 2).trans rfl
    have hfz13_0 := blk_frozen BK198.out 0
    have hfz13_1 := blk_frozen BK198.out 1
    have hfz13_2 := blk_frozen BK198.out 2
    go_wp2
    go_meet
    case rel => exact ⟨_, (true), u6_11, H', ⟨by first | omega | exact Nat.le_refl _⟩, ⟨u6_3⟩, ⟨u6_1⟩⟩
  clear HC2
  try clear c1
  try clear p2
  try clear c4
  try clear c4b0
  try clear c6
  try clear c6b0
  try clear c8
  try clear c8b0
  try clear c10
  try clear c10b0
  try clear c12
  try clear c12b0
  try clear c12b1
  try clear c12b2
  try clear hcz11_0
  try clear hcz11_1
  try clear hcz11_2
  try clear hcz13_0
  try clear hcz13_1
  try clear hcz13_2
  try clear hcz14_0
  try clear hcz14_1
  try clear hcz14_2
  try clear hcz5_0
  try clear hcz5_1
  try clear hcz5_2
  try clear hcz7_0
  try clear hcz7_1
  try clear hcz7_2
  try clear hcz9_0
  try clear hcz9_1
  try clear hcz9_2
  try clear hfz11_0
  try clear hfz11_1
  try clear hfz11_2
  try clear hfz13_0
  try clear hfz13_1
  try clear hfz13_2
  try clear hfz14_0
  try clear hfz14_1
  try clear hfz14_2
  try clear hfz5_0
  try clear hfz5_1
  try clear hfz5_2
  try clear hfz7_0
  try clear hfz7_1
  try clear hfz7_2
  try clear hfz9_0
  try clear hfz9_1
  try clear hfz9_2
  obtain ⟨kq, x38_1, rfl, HA, HJ1, BK198, HB⟩ := hcut
  cases kq with
  | zero => exact absurd HA.out (by simp [impl_isRLog.j0])
  | succ kj1 =>
    have H := HA.out
    clear HA
    simp only [impl_isRLog.j0] at H
    by_cases c15 : x38_1 = true
    · subst c15
      rw [if_pos rfl] at H
      obtain rfl := Option.some.inj H
      go_wp2
      go_ret
      exact ⟨by first | rfl | (simp [errW_none, errW_some] <;> rfl) | (simp [*, errW_none, errW_some] <;> rfl), u6_1⟩
    replace c15 := Bool.eq_false_iff.mpr c15
    subst c15
    rw [if_neg (show ¬ (false = true) by decide)] at H
    have H' := Aside0.mk H
    clear H
    have hcz16_0 : wc.cell? ⟨gb198, 0, none⟩ = some (.int .i64 a0_0) := (blk_cell BK198.out 0).trans rfl
    have hcz16_1 : wc.cell? ⟨gb198, 1, none⟩ = some (.int .i64 a0_1) := (blk_cell BK198.out 1).trans rfl
    have hcz16_2 : wc.cell? ⟨gb198, 2, none⟩ = some (.slice A0_2 l0_2.length c0_2) := (blk_cell BK198.out 2).trans rfl
    have hfz16_0 := blk_frozen BK198.out 0
    have hfz16_1 := blk_frozen BK198.out 1
    have hfz16_2 := blk_frozen BK198.out 2
    go_wp2
    go_loopg [3, 44] kj1 (fun kq v3 v44 w' => ∃ (x3_2 : Int) (x44_2 : Int), v3 = .int .i64 x3_2 ∧ v44 = .int .i64 x44_2 ∧ Aside0 (impl_isRLog.l0 kq x3_2 l0_2 (l0_2.length : Int) x44_2 = some r) ∧ Aside0 (kq ≤ kj1) ∧ Aside0 (w'.heap[gb198]? = some (.cells #[.int .i64 a0_0, .int .i64 a0_1, (.slice A0_2 l0_2.length c0_2)] 34 (0, 0))) ∧ Aside0 (Below w.heap.size w w'))
    case atStart => exact ⟨(a0_1), (0), u6_11, u6_11, H', ⟨Nat.le_refl _⟩, ⟨u6_3⟩, ⟨u6_1⟩⟩
    clear H'
    try clear c1
    try clear p2
    try clear c4
    try clear c4b0
    try clear c6
    try clear c6b0
    try clear c8
    try clear c8b0
    try clear c10
    try clear c10b0
    try clear c12
    try clear c12b0
    try clear c12b1
    try clear c12b2
    try clear c15
    try clear hcz11_0
    try clear hcz11_1
    try clear hcz11_2
    try clear hcz13_0
    try clear hcz13_1
    try clear hcz13_2
    try clear hcz14_0
    try clear hcz14_1
    try clear hcz14_2
    try clear hcz16_0
    try clear hcz16_1
    try clear hcz16_2
    try clear hcz5_0
    try clear hcz5_1
    try clear hcz5_2
    try clear hcz7_0
    try clear hcz7_1
    try clear hcz7_2
    try clear hcz9_0
    try clear hcz9_1
    try clear hcz9_2
    try clear hfz11_0
    try clear hfz11_1
    try clear hfz11_2
    try clear hfz13_0
    try clear hfz13_1
    try clear hfz13_2
    try clear hfz14_0
    try clear hfz14_1
    try clear hfz14_2
    try clear hfz16_0
    try clear hfz16_1
    try clear hfz16_2
    try clear hfz5_0
    try clear hfz5_1
    try clear hfz5_2
    try clear hfz7_0
    try clear hfz7_1
    try clear hfz7_2
    try clear hfz9_0
    try clear hfz9_1
    try clear hfz9_2
    try clear p2
    obtain ⟨x3_2, x44_2, rfl, rfl, HA, HK2, BK198, HB⟩ := hrel
    cases gk with
    | zero => exact absurd HA.out (by simp [impl_isRLog.l0])
    | succ k2 =>
      have H := HA.out
      clear HA
      simp only [impl_isRLog.l0] at H
      by_cases c17 : x44_2 < (l0_2.length : Int)
      rotate_left
      · rw [if_neg c17] at H
        have c17b0 : decide (x44_2 < (l0_2.length : Int)) = false := decide_eq_false c17
        clear c17
        obtain rfl := Option.some.inj H
        go_wp2
        go_ret
        exact ⟨by first | rfl | (simp [errW_none, errW_some] <;> rfl) | (simp [*, errW_none, errW_some] <;> rfl), u6_1⟩
      rw [if_pos c17] at H
      have c17b0 : decide (x44_2 < (l0_2.length : Int)) = true := decide_eq_true c17
      clear c17
      by_cases c18 : 0 ≤ x44_2
      rotate_left
      · rw [if_neg c18] at H
        exact absurd H (by simp)
      rw [if_pos c18] at H
      have c18b0 : decide (0 ≤ x44_2) = true := decide_eq_true c18
      clear c18
      by_cases c19 : x44_2 < (l0_2.length : Int)
      rotate_left
      · rw [if_neg c19] at H
        exact absurd H (by simp)
      rw [if_pos c19] at H
      have c19b0 : decide (x44_2 < (l0_2.length : Int)) = true := decide_eq_true c19
      clear c19
      replace H := Option.bind_eq_some_iff.mp H
      obtain ⟨t201, A200, H⟩ := H
      have A20 := Aside0.mk A200
      clear A200
      by_cases c21 : t201 = true
      rotate_left
      · replace c21 := Bool.eq_false_iff.mpr c21
        subst c21
        rw [if_neg (show ¬ (false = true) by decide)] at H
        obtain rfl := Option.some.inj H
        have p199 : 0 ≤ (x44_2 : Int) := of_decide_eq_true u6_4
        have q199 : x44_2 < (l0_2.length : Int) := of_decide_eq_true u6_4
        obtain ⟨ad199, e199, hx199_0, hx199_1⟩ := at_T85 HR0_2.out x44_2 p199 q199
        cases e199
        replace hx199_0 := (HB.out.cell (World.block_lt_of_cell? w _ hx199_0)).trans hx199_0
        replace hx199_1 := (HB.out.cell (World.block_lt_of_cell? w _ hx199_1)).trans hx199_1
        replace p199 := eq_true p199
        replace q199 := eq_true q199
        go_wp2_with (first | ((with_reducible refine gate_dst (N := 5) rfl ?_); (try (refine gate_guard (by rfl) ?_; dsimp only)); refine box_event ?hg (N := 5) ?hd (cs := #[.int .i64 0, .string (⟨#[]⟩ : ByteArray)]) (t := 85) ?hr ?_; (case hd => rfl); (case hg => rfl); (case hr => first | (go_simp; done) | (go_simp; rfl)); intro gb200 hg w30 hbox hb; have n0_ := Aside0.mk (blk_below (g := gb198) (o := .cells #[.int .i64 a0_0, .int .i64 a0_1, .slice (some ad199) l0_2.length c0_2] 34 (0, 0)) u6_3 hb); have n1_ := Aside0.mk (below_step u6_1 hb); have n2_ := Aside0.mk (hbox); have n3_ := Aside0.mk ((by rw [hg]; exact (below_size u6_1) : w.heap.size ≤ gb200)); have n4_ := Aside0.mk ((by rw [hg]; exact (below_size u6_1) : w.heap.size ≤ gb200)); have n5_ := Aside0.mk ((by rw [hg]; exact Nat.ne_of_lt (blk_lt (g := gb198) (o := .cells #[.int .i64 a0_0, .int .i64 a0_1, .slice (some ad199) l0_2.length c0_2] 34 (0, 0)) u6_3) : gb198 ≠ gb200)); have n6_ := Aside0.mk ((by rw [hg]; exact Nat.ne_of_gt (blk_lt (g := gb198) (o := .cells #[.int .i64 a0_0, .int .i64 a0_1, .slice (some ad199) l0_2.length c0_2] 34 (0, 0)) u6_3) : gb200 ≠ gb198)); clear BK198; clear HB; have BK198 := n0_; have HB := n1_; have BK200 := n2_; have GW200 := n3_; have GE200 := n4_; have NB198_200 := n5_; have NB200_198 := n6_; clear n0_ n1_ n2_ n3_ n4_ n5_ n6_; clear hb hbox hg; have hnb31 := NB200_198.out; have hnc31 := NB198_200.out; have hcz32_0 : w30.cell? ⟨gb200, 0, none⟩ = some (.int .i64 0) := (blk_cell BK200.out 0).trans rfl; have hcz32_1 : w30.cell? ⟨gb200, 1, none⟩ = some (.string (⟨#[]⟩ : ByteArray)) := (blk_cell BK200.out 1).trans rfl; have hfz32_0 := blk_frozen BK200.out 0; have hfz32_1 := blk_frozen BK200.out 1) | ((with_reducible refine gate_callee (f := 111) rfl ?_); refine goesL_ (some 49) rfl rfl Try.func111 (by kernel_rfl) rfl #[.agg #[.int .i64 ((rd_T85 l0_2 x44_2).f0), .string ((rd_T85 l0_2 x44_2).f1)]] rfl u6_5 ?_; (with_reducible refine (impl_isEntry.calls ((rd_T85 l0_2 x44_2).f0) ((rd_T85 l0_2 x44_2).f1) false _ A20.out).mono ?_); rintro e w33 ⟨rfl, hb⟩; refine ⟨_, rfl, ?_⟩; have n0_ := Aside0.mk (blk_below (g := gb198) (o := .cells #[.int .i64 a0_0, .int .i64 a0_1, .slice (some ad199) l0_2.length c0_2] 34 (0, 0)) u6_14 hb); have n1_ := Aside0.mk (blk_below (g := gb200) (o := .cells #[.int .i64 ((rd_T85 l0_2 x44_2).f0), .string ((rd_T85 l0_2 x44_2).f1)] 85 (0, 0)) u6_13 hb); have n2_ := Aside0.mk (below_step u6_6 hb); clear BK198; clear BK200; clear HB; have BK198 := n0_; have BK200 := n1_; have HB := n2_; clear n0_ n1_ n2_; (try clear hb); (try clear hb2); (try clear hk); (try clear hi)))
        go_ret
        exact ⟨by first | rfl | (simp [errW_none, errW_some] <;> rfl) | (simp [*, errW_none, errW_some] <;> rfl), u6_6⟩
      subst c21
      rw [if_pos rfl] at H
      have H9 := Aside0.mk H
      clear H
      have p199 : 0 ≤ (x44_2 : Int) := of_decide_eq_true u6_4
      have q199 : x44_2 < (l0_2.length : Int) := of_decide_eq_true u6_4
      obtain ⟨ad199, e199, hx199_0, hx199_1⟩ := at_T85 HR0_2.out x44_2 p199 q199
      cases e199
      replace hx199_0 := (HB.out.cell (World.block_lt_of_cell? w _ hx199_0)).trans hx199_0
      replace hx199_1 := (HB.out.cell (World.block_lt_of_cell? w _ hx199_1)).trans hx199_1
      replace p199 := eq_true p199
      replace q199 := eq_true q199
      go_upto_if 56 with (first | ((with_reducible refine gate_dst (N := 5) rfl ?_); (try (refine gate_guard (by rfl) ?_; dsimp only)); refine box_event ?hg (N := 5) ?hd (cs := #[.int .i64 0, .string (⟨#[]⟩ : ByteArray)]) (t := 85) ?hr ?_; (case hd => rfl); (case hg => rfl); (case hr => first | (go_simp; done) | (go_simp; rfl)); intro gb200 hg w22 hbox hb; have n0_ := Aside0.mk (blk_below (g := gb198) (o := .cells #[.int .i64 a0_0, .int .i64 a0_1, .slice (some ad199) l0_2.length c0_2] 34 (0, 0)) u6_3 hb); have n1_ := Aside0.mk (below_step u6_1 hb); have n2_ := Aside0.mk (hbox); have n3_ := Aside0.mk ((by rw [hg]; exact (below_size u6_1) : w.heap.size ≤ gb200)); have n4_ := Aside0.mk ((by rw [hg]; exact (below_size u6_1) : w.heap.size ≤ gb200)); have n5_ := Aside0.mk ((by rw [hg]; exact Nat.ne_of_lt (blk_lt (g := gb198) (o := .cells #[.int .i64 a0_0, .int .i64 a0_1, .slice (some ad199) l0_2.length c0_2] 34 (0, 0)) u6_3) : gb198 ≠ gb200)); have n6_ := Aside0.mk ((by rw [hg]; exact Nat.ne_of_gt (blk_lt (g := gb198) (o := .cells #[.int .i64 a0_0, .int .i64 a0_1, .slice (some ad199) l0_2.length c0_2] 34 (0, 0)) u6_3) : gb200 ≠ gb198)); clear BK198; clear HB; have BK198 := n0_; have HB := n1_; have BK200 := n2_; have GW200 := n3_; have GE200 := n4_; have NB198_200 := n5_; have NB200_198 := n6_; clear n0_ n1_ n2_ n3_ n4_ n5_ n6_; clear hb hbox hg; have hnb23 := NB200_198.out; have hnc23 := NB198_200.out; have hcz24_0 : w22.cell? ⟨gb200, 0, none⟩ = some (.int .i64 0) := (blk_cell BK200.out 0).trans rfl; have hcz24_1 : w22.cell? ⟨gb200, 1, none⟩ = some (.string (⟨#[]⟩ : ByteArray)) := (blk_cell BK200.out 1).trans rfl; have hfz24_0 := blk_frozen BK200.out 0; have hfz24_1 := blk_frozen BK200.out 1) | ((with_reducible refine gate_callee (f := 111) rfl ?_); refine goesL_ (some 49) rfl rfl Try.func111 (by kernel_rfl) rfl #[.agg #[.int .i64 ((rd_T85 l0_2 x44_2).f0), .string ((rd_T85 l0_2 x44_2).f1)]] rfl u6_5 ?_; (with_reducible refine (impl_isEntry.calls ((rd_T85 l0_2 x44_2).f0) ((rd_T85 l0_2 x44_2).f1) true _ A20.out).mono ?_); rintro e w25 ⟨rfl, hb⟩; refine ⟨_, rfl, ?_⟩; have n0_ := Aside0.mk (blk_below (g := gb198) (o := .cells #[.int .i64 a0_0, .int .i64 a0_1, .slice (some ad199) l0_2.length c0_2] 34 (0, 0)) u6_14 hb); have n1_ := Aside0.mk (blk_below (g := gb200) (o := .cells #[.int .i64 ((rd_T85 l0_2 x44_2).f0), .string ((rd_T85 l0_2 x44_2).f1)] 85 (0, 0)) u6_13 hb); have n2_ := Aside0.mk (below_step u6_6 hb); clear BK198; clear BK200; clear HB; have BK198 := n0_; have BK200 := n1_; have HB := n2_; clear n0_ n1_ n2_; (try clear hb); (try clear hb2); (try clear hk); (try clear hi); have hcz26_0 : w25.cell? ⟨gb200, 0, none⟩ = some (.int .i64 ((rd_T85 l0_2 x44_2).f0)) := (blk_cell BK200.out 0).trans rfl; have hcz26_1 : w25.cell? ⟨gb200, 1, none⟩ = some (.string ((rd_T85 l0_2 x44_2).f1)) := (blk_cell BK200.out 1).trans rfl; have hfz26_0 := blk_frozen BK200.out 0; have hfz26_1 := blk_frozen BK200.out 1))
      have H := H9.out
      clear H9
      by_cases c27 : ((rd_T85 l0_2 x44_2).f0) < x3_2
      · rw [if_pos c27] at H
        have c27b0 : decide (((rd_T85 l0_2 x44_2).f0) < x3_2) = true := decide_eq_true c27
        clear c27
        (first | rw [c27b0] | (simp only [i64_w, i32_w]; rw [c27b0]) | skip)
        obtain rfl := Option.some.inj H
        go_wp2
        go_ret
        exact ⟨by first | rfl | (simp [errW_none, errW_some] <;> rfl) | (simp [*, errW_none, errW_some] <;> rfl), u6_6⟩
      rw [if_neg c27] at H
      have c27b0 : decide (((rd_T85 l0_2 x44_2).f0) < x3_2) = false := decide_eq_false c27
      clear c27
      (first | rw [c27b0] | (simp only [i64_w, i32_w]; rw [c27b0]) | skip)
      have H' := Aside0.mk H
      clear H
      have hnb28 := NB200_198.out
      have hnc28 := NB198_200.out
      have hcz29_0 : w25.cell? ⟨gb200, 0, none⟩ = some (.int .i64 ((rd_T85 l0_2 x44_2).f0)) := (blk_cell BK200.out 0).trans rfl
      have hcz29_1 : w25.cell? ⟨gb200, 1, none⟩ = some (.string ((rd_T85 l0_2 x44_2).f1)) := (blk_cell BK200.out 1).trans rfl
      have hfz29_0 := blk_frozen BK200.out 0
      have hfz29_1 := blk_frozen BK200.out 1
      go_wp2
      go_roundg k2
      case measure => have := HJ1.out; have := HK2.out; omega
      case rel => exact ⟨((rd_T85 l0_2 x44_2).f0), (wrap64 (x44_2 + 1)), u6_11, u6_11, H', ⟨(by have := HJ1.out; have := HK2.out; omega)⟩, ⟨u6_3⟩, ⟨u6_6⟩⟩

/-! ### impl_RLog_last: function 89 -/
def impl_RLog_last.f (a0_0 : Int) (a0_1 : Int) (l0_2 : List (S85)) : Option (Int) := some (wrap64 (a0_0 + (l0_2.length : Int)))
set_option maxHeartbeats 8000000 in
set_option maxRecDepth 100000 in
theorem impl_RLog_last.calls (a0_0 : Int) (a0_1 : Int) (A0_2 : Option Addr) (c0_2 : Nat) (l0_2 : List (S85)) (r : Int) (w : World) (hr0_2 : Kd.C k85 w A0_2 l0_2.length l0_2) (hc0_2 : l0_2.length ≤ c0_2) (h : impl_RLog_last.f a0_0 a0_1 l0_2 = some r) :
    Calls Try.prog 89 #[.agg #[.int .i64 a0_0, .int .i64 a0_1, .slice A0_2 l0_2.length c0_2]] w fun e w' => e = .returned (.int .i64 r) ∧ Below w.heap.size w w' := by
  have hu34 := Try.underlying34
  have HR0_2 := Aside0.mk hr0_2
  have HC0_2 := Aside0.mk hc0_2
  clear hr0_2 hc0_2
  have HB := Aside0.mk (Below.refl w.heap.size w)
  have H : (some (wrap64 (a0_0 + (l0_2.length : Int)))) = some r := h
  clear h
  obtain rfl := Option.some.inj H
  go_enter Try.func89, Try.ntmps89
  go_wp2_with (first | ((with_reducible refine gate_dst (N := 1) rfl ?_); refine box_event ?hg (N := 1) ?hd (cs := #[.int .i64 a0_0, .int .i64 a0_1, .slice A0_2 l0_2.length c0_2]) (t := 34) ?hr ?_; (case hd => rfl); (case hg => rfl); (case hr => first | (go_simp; done) | (go_simp; rfl)); intro gb202 hg w2 hbox hb; have n0_ := Aside0.mk (below_step u6_0 hb); have n1_ := Aside0.mk (hbox); have n2_ := Aside0.mk ((by rw [hg]; exact (below_size u6_0) : w.heap.size ≤ gb202)); have n3_ := Aside0.mk ((by rw [hg]; exact (below_size u6_0) : w.heap.size ≤ gb202)); clear HB; have HB := n0_; have BK202 := n1_; have GW202 := n2_; have GE202 := n3_; clear n0_ n1_ n2_ n3_; clear hb hbox hg; have hcz3_0 : w2.cell? ⟨gb202, 0, none⟩ = some (.int .i64 a0_0) := (blk_cell BK202.out 0).trans rfl; have hcz3_1 : w2.cell? ⟨gb202, 1, none⟩ = some (.int .i64 a0_1) := (blk_cell BK202.out 1).trans rfl; have hcz3_2 : w2.cell? ⟨gb202, 2, none⟩ = some (.slice A0_2 l0_2.length c0_2) := (blk_cell BK202.out 2).trans rfl; have hfz3_0 := blk_frozen BK202.out 0; have hfz3_1 := blk_frozen BK202.out 1; have hfz3_2 := blk_frozen BK202.out 2))
  go_ret
  exact ⟨by first | rfl | (simp [errW_none, errW_some] <;> rfl) | (simp [*, errW_none, errW_some] <;> rfl), (by repeat (first | (with_reducible first | exact HB.out | apply below_alloc | apply pw_below_drewN | apply below_drew1 | refine below_set ?_ GE202.out) | exact HB.out))⟩

end Go.Proofs.Ytkcadcoohmofcaa.QFnExactNodeOk
