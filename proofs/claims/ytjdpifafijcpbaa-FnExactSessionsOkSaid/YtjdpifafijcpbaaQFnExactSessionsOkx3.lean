-- Printed by the session's own program wip/prx.py.
import Derived.Test.YtjdpifafijcpbaaQFnExactSessionsOkx0
namespace Go.Proofs.Ytjdpifafijcpbaa.QFnExactSessionsOk
open Go.RowKit Go.Proofs.YtjdpifafijcpbaaW.PrintWords Go.Proofs.YtjdpifafijcpbaaW.PrintLast Go.Proofs.YtjdpifafijcpbaaW.PrintMore
attribute [local go_sem] max2_int min2_int max_two min_two max_three min_three max_four min_four Go.Proofs.Ytjdpifafijcpbaa.Set.isSome_setCell   -- for this text's walks alone
set_option linter.unusedVariables false
set_option linter.unusedSimpArgs false

-- squeezed
theorem u3_0 {P : Prop} (h : P := by repeat (first | (with_reducible first | exact HB.out | apply below_alloc | apply pw_below_drewN | apply below_drew1) | exact HB.out)) : P := h
theorem u3_1 {P : Prop} (h : P := by repeat (first | (with_reducible first | exact HB.out | apply below_alloc | apply pw_below_drewN | apply below_drew1 | refine below_set ?_ GE128.out | refine below_set ?_ GE129.out | refine below_set ?_ GE130.out) | exact HB.out)) : P := h
theorem u3_2 {P : Prop} (h : P := by (with_reducible repeat (first | refine blk_drewN ?_ _ | refine blk_drew ?_ | refine blk_alloc ?_ _)); exact BK116.out) : P := h
theorem u3_3 {P : Prop} (h : P := by (with_reducible repeat (first | refine blk_drewN ?_ _ | refine blk_drew ?_ | refine blk_alloc ?_ _)); exact BK128.out) : P := h
theorem u3_4 {P : Prop} (h : P := by first | (with_reducible assumption) | assumption) : P := h
theorem u3_5 {P : Prop} (h : P := by repeat (first | (with_reducible first | exact HB.out | apply below_alloc | apply pw_below_drewN | apply below_drew1 | refine below_set ?_ GE116.out | refine below_set ?_ GE117.out) | exact HB.out)) : P := h
theorem u3_6 {P : Prop} (h : P := by repeat (first | (with_reducible first | exact HB.out | apply below_alloc | apply pw_below_drewN | apply below_drew1 | refine below_set ?_ GE128.out | refine below_set ?_ GE129.out) | exact HB.out)) : P := h
theorem u3_7 {P : Prop} (h : P := by repeat (first | (with_reducible first | exact HB.out | apply below_alloc | apply pw_below_drewN | apply below_drew1 | refine below_set ?_ GE116.out) | exact HB.out)) : P := h
theorem u3_8 {P : Prop} (h : P := by repeat (first | (with_reducible first | exact HB.out | apply below_alloc | apply pw_below_drewN | apply below_drew1 | refine below_set ?_ GE128.out) | exact HB.out)) : P := h
theorem u3_9 {P : Prop} (h : P := by (with_reducible repeat (first | apply Kd.R_alloc | apply Kd.R_drewN | apply Kd.R_drew)); exact HO_3.out) : P := h
theorem u3_10 {P : Prop} (h : P := by (with_reducible repeat (first | refine blk_drewN ?_ _ | refine blk_drew ?_ | refine blk_alloc ?_ _)); exact BK117.out) : P := h
theorem u3_11 {P : Prop} (h : P := by (with_reducible repeat (first | refine blk_drewN ?_ _ | refine blk_drew ?_ | refine blk_alloc ?_ _)); exact BK129.out) : P := h
theorem u3_12 {P : Prop} (h : P := by (try simp only [List.map_toArray, List.map_cons, List.map_nil]); first | done | rfl | (simp only [List.length_drop, List.length_take]; rfl)) : P := h
/-! ### laws_toSession: function 36 -/
def laws_toSession.f (a0_0 : Int) (a0_1 : Int) (a0_2 : Int) (a0_3 : ByteArray) : Option (Int × Int × Int × ByteArray) := some (a0_0, a0_1, a0_2, a0_3)
set_option maxHeartbeats 8000000 in
set_option maxRecDepth 100000 in
theorem laws_toSession.calls (a0_0 : Int) (a0_1 : Int) (a0_2 : Int) (a0_3 : ByteArray) (r1 : Int) (r2 : Int) (r3 : Int) (r4 : ByteArray) (w : World) (h : laws_toSession.f a0_0 a0_1 a0_2 a0_3 = some (r1, r2, r3, r4)) :
    Calls Try.prog 36 #[.agg #[.int .i64 a0_0, .int .i64 a0_1, .int .i64 a0_2, .string a0_3]] w fun e w' => e = .returned (.agg #[.int .i64 r1, .int .i64 r2, .int .i64 r3, .string r4]) ∧ Below w.heap.size w w' := by
  have hu54 := Try.underlying54
  have hu45 := Try.underlying45
  have HB := Aside0.mk (Below.refl w.heap.size w)
  have H : (some (a0_0, a0_1, a0_2, a0_3)) = some (r1, r2, r3, r4) := h
  clear h
  simp only [Option.some.injEq, Prod.mk.injEq] at H
  obtain ⟨rfl, rfl, rfl, rfl⟩ := H
  go_enter Try.func36, Try.ntmps36
  go_wp2_with (first | ((with_reducible refine gate_dst (N := 1) rfl ?_); refine box_event ?hg (N := 1) ?hd (cs := #[.int .i64 a0_0, .int .i64 a0_1, .int .i64 a0_2, .string a0_3]) (t := 54) ?hr ?_; (case hd => rfl); (case hg => rfl); (case hr => first | (go_simp; done) | (go_simp; rfl)); intro gb116 hg w2 hbox hb; have n0_ := Aside0.mk (below_step u3_0 hb); have n1_ := Aside0.mk (hbox); have n2_ := Aside0.mk ((by rw [hg]; exact (below_size u3_0) : w.heap.size ≤ gb116)); have n3_ := Aside0.mk ((by rw [hg]; exact (below_size u3_0) : w.heap.size ≤ gb116)); clear HB; have HB := n0_; have BK116 := n1_; have GW116 := n2_; have GE116 := n3_; clear n0_ n1_ n2_ n3_; clear hb hbox hg) | ((with_reducible refine gate_dst (N := 2) rfl ?_); refine box_event ?hg (N := 2) ?hd (cs := #[.int .i64 0, .int .i64 0, .int .i64 0, .string (⟨#[]⟩ : ByteArray)]) (t := 45) ?hr ?_; (case hd => rfl); (case hg => rfl); (case hr => first | (go_simp; done) | (go_simp; rfl)); intro gb117 hg w3 hbox hb; have n0_ := Aside0.mk (blk_below (g := gb116) (o := .cells #[.int .i64 a0_0, .int .i64 a0_1, .int .i64 a0_2, .string a0_3] 54 (0, 0)) u3_2 hb); have n1_ := Aside0.mk (below_step u3_7 hb); have n2_ := Aside0.mk (hbox); have n3_ := Aside0.mk ((by rw [hg]; exact (below_size u3_7) : w.heap.size ≤ gb117)); have n4_ := Aside0.mk ((by rw [hg]; exact (below_size u3_7) : w.heap.size ≤ gb117)); have n5_ := Aside0.mk ((by rw [hg]; exact Nat.ne_of_lt (blk_lt (g := gb116) (o := .cells #[.int .i64 a0_0, .int .i64 a0_1, .int .i64 a0_2, .string a0_3] 54 (0, 0)) u3_2) : gb116 ≠ gb117)); have n6_ := Aside0.mk ((by rw [hg]; exact Nat.ne_of_gt (blk_lt (g := gb116) (o := .cells #[.int .i64 a0_0, .int .i64 a0_1, .int .i64 a0_2, .string a0_3] 54 (0, 0)) u3_2) : gb117 ≠ gb116)); clear BK116; clear HB; have BK116 := n0_; have HB := n1_; have BK117 := n2_; have GW117 := n3_; have GE117 := n4_; have NB116_117 := n5_; have NB117_116 := n6_; clear n0_ n1_ n2_ n3_ n4_ n5_ n6_; clear hb hbox hg) | ((with_reducible refine gate_dst (N := 3) rfl ?_); refine box_event ?hg (N := 3) ?hd (cs := #[.int .i64 0, .int .i64 0, .int .i64 0, .string (⟨#[]⟩ : ByteArray)]) (t := 45) ?hr ?_; (case hd => rfl); (case hg => rfl); (case hr => first | (go_simp; done) | (go_simp; rfl)); intro gb118 hg w4 hbox hb; have n0_ := Aside0.mk (blk_below (g := gb116) (o := .cells #[.int .i64 a0_0, .int .i64 a0_1, .int .i64 a0_2, .string a0_3] 54 (0, 0)) u3_2 hb); have n1_ := Aside0.mk (blk_below (g := gb117) (o := .cells #[.int .i64 0, .int .i64 0, .int .i64 0, .string (⟨#[]⟩ : ByteArray)] 45 (0, 0)) u3_10 hb); have n2_ := Aside0.mk (below_step u3_5 hb); have n3_ := Aside0.mk (hbox); have n4_ := Aside0.mk ((by rw [hg]; exact (below_size u3_5) : w.heap.size ≤ gb118)); have n5_ := Aside0.mk ((by rw [hg]; exact (below_size u3_5) : w.heap.size ≤ gb118)); have n6_ := Aside0.mk ((by rw [hg]; exact Nat.ne_of_lt (blk_lt (g := gb116) (o := .cells #[.int .i64 a0_0, .int .i64 a0_1, .int .i64 a0_2, .string a0_3] 54 (0, 0)) u3_2) : gb116 ≠ gb118)); have n7_ := Aside0.mk ((by rw [hg]; exact Nat.ne_of_gt (blk_lt (g := gb116) (o := .cells #[.int .i64 a0_0, .int .i64 a0_1, .int .i64 a0_2, .string a0_3] 54 (0, 0)) u3_2) : gb118 ≠ gb116)); have n8_ := Aside0.mk ((by rw [hg]; exact Nat.ne_of_lt (blk_lt (g := gb117) (o := .cells #[.int .i64 0, .int .i64 0, .int .i64 0, .string (⟨#[]⟩ : ByteArray)] 45 (0, 0)) u3_10) : gb117 ≠ gb118)); have n9_ := Aside0.mk ((by rw [hg]; exact Nat.ne_of_gt (blk_lt (g := gb117) (o := .cells #[.int .i64 0, .int .i64 0, .int .i64 0, .string (⟨#[]⟩ : ByteArray)] 45 (0, 0)) u3_10) : gb118 ≠ gb117)); clear BK116; clear BK117; clear HB; have BK116 := n0_; have BK117 := n1_; have HB := n2_; have BK118 := n3_; have GW118 := n4_; have GE118 := n5_; have NB116_118 := n6_; have NB118_116 := n7_; have NB117_118 := n8_; have NB118_117 := n9_; clear n0_ n1_ n2_ n3_ n4_ n5_ n6_ n7_ n8_ n9_; clear hb hbox hg; have hnb5 := NB116_117.out; have hnc5 := NB117_116.out; have hnb6 := NB116_118.out; have hnc6 := NB118_116.out; have hcz7_0 : w4.cell? ⟨gb116, 0, none⟩ = some (.int .i64 a0_0) := (blk_cell BK116.out 0).trans rfl; have hcz7_1 : w4.cell? ⟨gb116, 1, none⟩ = some (.int .i64 a0_1) := (blk_cell BK116.out 1).trans rfl; have hcz7_2 : w4.cell? ⟨gb116, 2, none⟩ = some (.int .i64 a0_2) := (blk_cell BK116.out 2).trans rfl; have hcz7_3 : w4.cell? ⟨gb116, 3, none⟩ = some (.string a0_3) := (blk_cell BK116.out 3).trans rfl; have hfz7_0 := blk_frozen BK116.out 0; have hfz7_1 := blk_frozen BK116.out 1; have hfz7_2 := blk_frozen BK116.out 2; have hfz7_3 := blk_frozen BK116.out 3; have hnb8 := NB118_117.out; have hnc8 := NB117_118.out; have hcz9_0 : w4.cell? ⟨gb118, 0, none⟩ = some (.int .i64 0) := (blk_cell BK118.out 0).trans rfl; have hcz9_1 : w4.cell? ⟨gb118, 1, none⟩ = some (.int .i64 0) := (blk_cell BK118.out 1).trans rfl; have hcz9_2 : w4.cell? ⟨gb118, 2, none⟩ = some (.int .i64 0) := (blk_cell BK118.out 2).trans rfl; have hcz9_3 : w4.cell? ⟨gb118, 3, none⟩ = some (.string (⟨#[]⟩ : ByteArray)) := (blk_cell BK118.out 3).trans rfl; have hfz9_0 := blk_frozen BK118.out 0; have hfz9_1 := blk_frozen BK118.out 1; have hfz9_2 := blk_frozen BK118.out 2; have hfz9_3 := blk_frozen BK118.out 3; have hcz10_0 : w4.cell? ⟨gb117, 0, none⟩ = some (.int .i64 0) := (blk_cell BK117.out 0).trans rfl; have hcz10_1 : w4.cell? ⟨gb117, 1, none⟩ = some (.int .i64 0) := (blk_cell BK117.out 1).trans rfl; have hcz10_2 : w4.cell? ⟨gb117, 2, none⟩ = some (.int .i64 0) := (blk_cell BK117.out 2).trans rfl; have hcz10_3 : w4.cell? ⟨gb117, 3, none⟩ = some (.string (⟨#[]⟩ : ByteArray)) := (blk_cell BK117.out 3).trans rfl; have hfz10_0 := blk_frozen BK117.out 0; have hfz10_1 := blk_frozen BK117.out 1; have hfz10_2 := blk_frozen BK117.out 2; have hfz10_3 := blk_frozen BK117.out 3))
  refine bodyPost_ret (results_cell_row rfl _ _ gb117 45 #[.int .i64 a0_0, .int .i64 a0_1, .int .i64 a0_2, .string a0_3] (0, 0) _ rfl (by (with_reducible repeat (first | refine blk_drewN ?_ _ | refine blk_drew ?_ | refine blk_alloc ?_ _)); refine blk_put (cs := #[.int .i64 a0_0, .int .i64 a0_1, .int .i64 a0_2, .string (⟨#[]⟩ : ByteArray)]) ?_ 3 _ rfl; (with_reducible repeat (first | refine blk_drewN ?_ _ | refine blk_drew ?_ | refine blk_alloc ?_ _)); refine blk_put (cs := #[.int .i64 a0_0, .int .i64 a0_1, .int .i64 0, .string (⟨#[]⟩ : ByteArray)]) ?_ 2 _ rfl; (with_reducible repeat (first | refine blk_drewN ?_ _ | refine blk_drew ?_ | refine blk_alloc ?_ _)); refine blk_put (cs := #[.int .i64 a0_0, .int .i64 0, .int .i64 0, .string (⟨#[]⟩ : ByteArray)]) ?_ 1 _ rfl; (with_reducible repeat (first | refine blk_drewN ?_ _ | refine blk_drew ?_ | refine blk_alloc ?_ _)); refine blk_put (cs := #[.int .i64 0, .int .i64 0, .int .i64 0, .string (⟨#[]⟩ : ByteArray)]) ?_ 0 _ rfl; (with_reducible repeat (first | refine blk_drewN ?_ _ | refine blk_drew ?_ | refine blk_alloc ?_ _)); refine blk_far ?_ NB117_118.out _; (with_reducible repeat (first | refine blk_drewN ?_ _ | refine blk_drew ?_ | refine blk_alloc ?_ _)); refine blk_far ?_ NB117_118.out _; (with_reducible repeat (first | refine blk_drewN ?_ _ | refine blk_drew ?_ | refine blk_alloc ?_ _)); refine blk_far ?_ NB117_118.out _; (with_reducible repeat (first | refine blk_drewN ?_ _ | refine blk_drew ?_ | refine blk_alloc ?_ _)); refine blk_far ?_ NB117_118.out _; (with_reducible repeat (first | refine blk_drewN ?_ _ | refine blk_drew ?_ | refine blk_alloc ?_ _)); exact BK117.out) Try.underlying45 rfl (by kernel_rfl)) rfl ?_
  exact ⟨by first | rfl | (simp [errW_none, errW_some] <;> rfl) | (simp [*, errW_none, errW_some] <;> rfl), (by repeat (first | (with_reducible first | exact HB.out | apply below_alloc | apply pw_below_drewN | apply below_drew1 | refine below_set ?_ GE116.out | refine below_set ?_ GE117.out | refine below_set ?_ GE118.out) | exact HB.out))⟩

/-! ### laws_toSessionS: function 22 -/
def laws_toSessionS.l0 : Nat → List (S54) → List (S45) → Int → Option ((List (S45)))
  | 0, _, _, _ => none
  | k + 1, x0, x3, x4 => if x4 < (x0.length : Int) then (if 0 ≤ x4 then ((laws_toSession.f ((rd_T54 x0 x4).f0) ((rd_T54 x0 x4).f1) ((rd_T54 x0 x4).f2) ((rd_T54 x0 x4).f3)).bind fun bt123 => (if x4 < (x3.length : Int) then (laws_toSessionS.l0 k x0 (x3.set (x4 : Int).toNat (⟨bt123.1, bt123.2.1, bt123.2.2.1, bt123.2.2.2⟩ : S45)) (wrap64 (x4 + 1))) else (none))) else (none)) else (some x3)
def laws_toSessionS.f (k : Nat) (l0 : List (S54)) : Option ((List (S45))) := if 0 ≤ (l0.length : Int) then (if ((l0.length : Int) : Int).toNat ≤ 7036874417766 then (laws_toSessionS.l0 k l0 (List.replicate ((l0.length : Int) : Int).toNat z45) 0) else (none)) else (none)
theorem laws_toSessionS.mono_l : ∀ k, (∀ y0 y1 y2, LeO (laws_toSessionS.l0 k y0 y1 y2) (laws_toSessionS.l0 (k + 1) y0 y1 y2))
  | 0 => fun _ _ _ r h => by simp [laws_toSessionS.l0] at h
  | k + 1 => by
    have ih0 := laws_toSessionS.mono_l k
    · intro y0 y1 y2
      unfold laws_toSessionS.l0
      repeat' first
      | (with_reducible exact ih0 _ _ _)
      | (with_reducible exact LeO.refl _)
      | (with_reducible exact LeO.none _)
      | (with_reducible refine LeO.ite ?_ ?_)
      | (with_reducible refine LeO.bind ?_ (fun _ => ?_))
      | exact ih0 _ _ _
      | exact LeO.none _
      | refine LeO.ite ?_ ?_
      | refine LeO.bind ?_ (fun _ => ?_)
theorem laws_toSessionS.mono : ∀ a0 k, LeO (laws_toSessionS.f k a0) (laws_toSessionS.f (k + 1) a0) := by
  intro a0 k
  have ih0 := laws_toSessionS.mono_l k
  unfold laws_toSessionS.f
  repeat' first
      | (with_reducible exact ih0 _ _ _)
      | (with_reducible exact LeO.refl _)
      | (with_reducible exact LeO.none _)
      | (with_reducible refine LeO.ite ?_ ?_)
      | (with_reducible refine LeO.bind ?_ (fun _ => ?_))
      | exact ih0 _ _ _
      | exact LeO.none _
      | refine LeO.ite ?_ ?_
      | refine LeO.bind ?_ (fun _ => ?_)
set_option maxHeartbeats 8000000 in
set_option maxRecDepth 100000 in
theorem laws_toSessionS.calls (k : Nat) (A0 : Option Addr) (c0 : Nat) (l0 : List (S54)) (r : List (S45)) (w : World) (hr0 : Kd.C k54 w A0 l0.length l0) (hc0 : l0.length ≤ c0) (h : laws_toSessionS.f k l0 = some r) :
    Calls Try.prog 22 #[.slice A0 l0.length c0] w fun e w' => ∃ v0_ : Value, e = .returned (v0_) ∧ Kd.R k45 45 w' w.heap.size (fun _ => True) v0_ r ∧ Below w.heap.size w w' := by
  have hu54 := Try.underlying54
  have hu45 := Try.underlying45
  have HR0 := Aside0.mk hr0
  have HC0 := Aside0.mk hc0
  clear hr0 hc0
  have HB := Aside0.mk (Below.refl w.heap.size w)
  have H : (if 0 ≤ (l0.length : Int) then (if ((l0.length : Int) : Int).toNat ≤ 7036874417766 then (laws_toSessionS.l0 k l0 (List.replicate ((l0.length : Int) : Int).toNat z45) 0) else (none)) else (none)) = some r := h
  clear h
  by_cases c2 : 0 ≤ (l0.length : Int)
  rotate_left
  · rw [if_neg c2] at H
    exact absurd H (by simp)
  rw [if_pos c2] at H
  have c2b0 := eq_true c2
  have c2b1 : decide (0 ≤ (l0.length : Int)) = true := decide_eq_true c2
  clear c2
  by_cases c3 : ((l0.length : Int) : Int).toNat ≤ 7036874417766
  rotate_left
  · rw [if_neg c3] at H
    exact absurd H (by simp)
  rw [if_pos c3] at H
  have c3b0 := eq_true c3
  have c3b1 : decide (((l0.length : Int) : Int).toNat ≤ 7036874417766) = true := decide_eq_true c3
  clear c3
  obtain ⟨y119, hy119⟩ : ∃ y_ : List (S45), y_ = (List.replicate ((l0.length : Int) : Int).toNat z45) := ⟨_, rfl⟩
  replace H : (laws_toSessionS.l0 k l0 y119 0) = some r := by first | (rw [hy119]; with_reducible exact H) | (have H2_ := (Option.bind_some _ _).symm.trans H; rw [hy119]; with_reducible exact H2_) | (have H2_ := (Option.bind_some _ _).symm.trans H; with_reducible exact H2_) | with_reducible exact H | (rw [hy119]; exact H) | exact H
  have Ny119 := Aside0.mk hy119
  clear hy119
  have H' := Aside0.mk H
  clear H
  go_enter Try.func22, Try.ntmps22
  go_wp2_with (first | ((with_reducible refine gate_dst (N := 7) rfl ?_); refine Kd.R_make k45 _ 45 rfl (N := 7) rfl 27 _ _ rfl (l0.length : Int) rfl rfl Try.underlying27 (.agg #[(.int .i64 0), (.int .i64 0), (.int .i64 0), (.string ⟨#[]⟩)]) 40 info45 rfl (by decide) (by omega) z45 (ok := fun _ => True) (okp := fun _ => True) (k45_mkM _ _ _ z45 ) (fun _ hk => hk) trivial (of_decide_eq_true u3_4) (Nat.le_trans (Nat.mul_le_mul_right _ (of_decide_eq_true u3_4 : (l0.length : Int).toNat ≤ 7036874417766)) (by omega)) (Below.refl _ _) (Nat.le_refl _) ?_; intro v120 w4 ho5 hb hg_ hnew_; clear hg_ hnew_; (first | rw [← Ny119.out] at ho5 | (simp only [Int.reduceToNat] at ho5; rw [← Ny119.out] at ho5)); have n0_ := Aside0.mk (Kd.R_lower ho5 (below_size u3_0)); have n1_ := Aside0.mk (below_step u3_0 hb); clear HB; have HO121 := n0_; have HB := n1_; clear n0_ n1_; clear hb ho5))
  go_loopg [4] k (fun kq v4 w' => ∃ (x3_1 : List (S45)) (x4_1 : Int), v4 = .int .i64 x4_1 ∧ Aside0 (laws_toSessionS.l0 kq l0 x3_1 x4_1 = some r) ∧ Aside0 (kq ≤ k) ∧ Aside0 (Kd.R k45 45 w' w.heap.size (fun _ => True) v120 x3_1) ∧ Aside0 (Below w.heap.size w w'))
  case atStart => exact ⟨(y119), (0), (by first | rfl | (simp; done) | (simp [*]; done)), H', ⟨Nat.le_refl _⟩, ⟨(by (with_reducible repeat (first | apply Kd.R_alloc | apply Kd.R_drewN | apply Kd.R_drew)); exact HO121.out)⟩, ⟨u3_0⟩⟩
  clear H'
  try clear c2
  try clear c2b0
  try clear c2b1
  try clear p2
  try clear c3
  try clear c3b0
  try clear c3b1
  obtain ⟨x3_1, x4_1, rfl, HA, HK1, HO_3, HB⟩ := hrel
  cases gk with
  | zero => exact absurd HA.out (by simp [laws_toSessionS.l0])
  | succ k1 =>
    have H := HA.out
    clear HA
    simp only [laws_toSessionS.l0] at H
    by_cases c6 : x4_1 < (l0.length : Int)
    rotate_left
    · rw [if_neg c6] at H
      have c6b0 : decide (x4_1 < (l0.length : Int)) = false := decide_eq_false c6
      clear c6
      obtain rfl := Option.some.inj H
      go_wp2
      go_ret
      exact ⟨_, by first | rfl | (simp [errW_none, errW_some] <;> rfl) | (simp [*, errW_none, errW_some] <;> rfl), u3_9, u3_0⟩
    rw [if_pos c6] at H
    have c6b0 : decide (x4_1 < (l0.length : Int)) = true := decide_eq_true c6
    clear c6
    by_cases c7 : 0 ≤ x4_1
    rotate_left
    · rw [if_neg c7] at H
      exact absurd H (by simp)
    rw [if_pos c7] at H
    have c7b0 : decide (0 ≤ x4_1) = true := decide_eq_true c7
    clear c7
    replace H := Option.bind_eq_some_iff.mp H
    obtain ⟨⟨t123, t124, t125, t126⟩, A80, H⟩ := H
    replace H : (if x4_1 < (x3_1.length : Int) then (laws_toSessionS.l0 k1 l0 (x3_1.set (x4_1 : Int).toNat (⟨t123, t124, t125, t126⟩ : S45)) (wrap64 (x4_1 + 1))) else (none)) = some r := H
    have A8 := Aside0.mk A80
    clear A80
    by_cases c9 : x4_1 < (x3_1.length : Int)
    rotate_left
    · rw [if_neg c9] at H
      exact absurd H (by simp)
    rw [if_pos c9] at H
    have c9b0 : decide (x4_1 < (x3_1.length : Int)) = true := decide_eq_true c9
    clear c9
    obtain ⟨y127, hy127⟩ : ∃ y_ : List (S45), y_ = (x3_1.set (x4_1 : Int).toNat (⟨t123, t124, t125, t126⟩ : S45)) := ⟨_, rfl⟩
    replace H : (laws_toSessionS.l0 k1 l0 y127 (wrap64 (x4_1 + 1))) = some r := by first | (rw [hy127]; with_reducible exact H) | (have H2_ := (Option.bind_some _ _).symm.trans H; rw [hy127]; with_reducible exact H2_) | (have H2_ := (Option.bind_some _ _).symm.trans H; with_reducible exact H2_) | with_reducible exact H | (rw [hy127]; exact H) | exact H
    have Ny127 := Aside0.mk hy127
    clear hy127
    have H' := Aside0.mk H
    clear H
    have p122 : 0 ≤ (x4_1 : Int) := of_decide_eq_true u3_4
    have q122 : x4_1 < (l0.length : Int) := of_decide_eq_true u3_4
    obtain ⟨ad122, e122, hx122_0, hx122_1, hx122_2, hx122_3⟩ := at_T54 HR0.out x4_1 p122 q122
    cases e122
    replace hx122_0 := (HB.out.cell (World.block_lt_of_cell? w _ hx122_0)).trans hx122_0
    replace hx122_1 := (HB.out.cell (World.block_lt_of_cell? w _ hx122_1)).trans hx122_1
    replace hx122_2 := (HB.out.cell (World.block_lt_of_cell? w _ hx122_2)).trans hx122_2
    replace hx122_3 := (HB.out.cell (World.block_lt_of_cell? w _ hx122_3)).trans hx122_3
    replace p122 := eq_true p122
    replace q122 := eq_true q122
    go_wp2_with (first | ((with_reducible refine gate_callee (f := 36) rfl ?_); refine goesL_ (some 20) rfl rfl Try.func36 (by kernel_rfl) rfl #[.agg #[.int .i64 ((rd_T54 l0 x4_1).f0), .int .i64 ((rd_T54 l0 x4_1).f1), .int .i64 ((rd_T54 l0 x4_1).f2), .string ((rd_T54 l0 x4_1).f3)]] rfl u3_12 ?_; (with_reducible refine (laws_toSession.calls ((rd_T54 l0 x4_1).f0) ((rd_T54 l0 x4_1).f1) ((rd_T54 l0 x4_1).f2) ((rd_T54 l0 x4_1).f3) t123 t124 t125 t126 _ A8.out).mono ?_); rintro e w11 ⟨rfl, hb⟩; refine ⟨_, rfl, ?_⟩; have n0_ := Aside0.mk (Kd.R_below u3_9 hb); have n1_ := Aside0.mk (below_step u3_0 hb); clear HO_3; clear HB; have HO_3 := n0_; have HB := n1_; clear n0_ n1_; (try clear hb); (try clear hb2); (try clear hk); (try clear hi); have p10 : 0 ≤ (x4_1 : Int) := of_decide_eq_true u3_4; have q10 : (x4_1 : Int) < ((x3_1.length : Int) : Int) := of_decide_eq_true u3_4; obtain ⟨go10, co10, eo10, gb10, gl10, cl10, HG10⟩ := Kd.R_form HO_3.out (by omega); (first | cases eo10 | (injection eo10 with ea_ en_ ec_; (first | subst ea_ | (injection ea_ with ea_; subst ea_)); subst ec_; clear en_)); have GB10 := Aside0.mk gb10; have GG10 := Aside0.mk HG10; clear gb10 gl10 HG10; obtain ⟨ce10, hcl10, hM10, hcc10, hfr10⟩ := Kd.R_elem HO_3.out z45 (x4_1 : Int) p10 q10; obtain rfl := k45_openM hM10; have hx10_0 : w11.cell? ⟨go10, (x4_1 : Int).toNat * 4, none⟩ = some (.int .i64 ((rd_T45 x3_1 x4_1).f0)) := hcc10 0 _ rfl; have hx10_1 : w11.cell? ⟨go10, (x4_1 : Int).toNat * 4 + 1, none⟩ = some (.int .i64 ((rd_T45 x3_1 x4_1).f1)) := hcc10 1 _ rfl; have hx10_2 : w11.cell? ⟨go10, (x4_1 : Int).toNat * 4 + 2, none⟩ = some (.int .i64 ((rd_T45 x3_1 x4_1).f2)) := hcc10 2 _ rfl; have hx10_3 : w11.cell? ⟨go10, (x4_1 : Int).toNat * 4 + 3, none⟩ = some (.string ((rd_T45 x3_1 x4_1).f3)) := hcc10 3 _ rfl; have hf10_0 : w11.frozen? ⟨go10, (x4_1 : Int).toNat * 4, none⟩ = false := hfr10 0; have hf10_1 : w11.frozen? ⟨go10, (x4_1 : Int).toNat * 4 + 1, none⟩ = false := hfr10 1; have hf10_2 : w11.frozen? ⟨go10, (x4_1 : Int).toNat * 4 + 2, none⟩ = false := hfr10 2; have hf10_3 : w11.frozen? ⟨go10, (x4_1 : Int).toNat * 4 + 3, none⟩ = false := hfr10 3; clear hcl10 hcc10 hfr10 hM10; replace p10 := eq_true p10; replace q10 := eq_true q10; have HX12 := Aside0.mk (show Kd.R k45 45 w11 w.heap.size (fun _ => True) (.slice (some ⟨go10, 0, none⟩) x3_1.length co10) x3_1 from u3_9); obtain ⟨ce12, hcl12, hM12, hcc12, hfr12⟩ := Kd.R_elem HX12.out z45 (x4_1 : Int) (of_decide_eq_true u3_4) (by have h_ : (x4_1 : Int) < ((x3_1.length : Int) : Int) := of_decide_eq_true u3_4; first | exact h_ | (have e_ := (Kd.R_reads' HO_3.out).1; omega) | simpa using h_); obtain rfl := k45_openM hM12; have HP12 := Kd.R_seg HX12.out (x4_1 : Int) (of_decide_eq_true u3_4) (by have h_ : (x4_1 : Int) < ((x3_1.length : Int) : Int) := of_decide_eq_true u3_4; first | exact h_ | (have e_ := (Kd.R_reads' HO_3.out).1; omega) | simpa using h_) (seg := [.int .i64 t123, .int .i64 t124, .int .i64 t125, .string t126]) (j := 0) hcl12 hcc12 (show 4 ≤ 4 from by decide) (x' := (⟨t123, t124, t125, t126⟩ : S45)) (k45_mkM _ _ _ (⟨t123, t124, t125, t126⟩ : S45) ) (fun _ hk => hk); have hx12_0 := hcc12 0 _ rfl; (try simp only [show (k45).sz = 4 from rfl, Nat.mul_one, Nat.add_zero] at hx12_0); have hf12_0 := hfr12 0; (try simp only [show (k45).sz = 4 from rfl, Nat.mul_one, Nat.add_zero] at hf12_0); have hx12_1 := hcc12 1 _ rfl; (try simp only [show (k45).sz = 4 from rfl, Nat.mul_one, Nat.add_zero] at hx12_1); have hf12_1 := hfr12 1; (try simp only [show (k45).sz = 4 from rfl, Nat.mul_one, Nat.add_zero] at hf12_1); have hx12_2 := hcc12 2 _ rfl; (try simp only [show (k45).sz = 4 from rfl, Nat.mul_one, Nat.add_zero] at hx12_2); have hf12_2 := hfr12 2; (try simp only [show (k45).sz = 4 from rfl, Nat.mul_one, Nat.add_zero] at hf12_2); have hx12_3 := hcc12 3 _ rfl; (try simp only [show (k45).sz = 4 from rfl, Nat.mul_one, Nat.add_zero] at hx12_3); have hf12_3 := hfr12 3; (try simp only [show (k45).sz = 4 from rfl, Nat.mul_one, Nat.add_zero] at hf12_3); clear hcl12 hcc12 hfr12 hM12) | ((with_reducible refine gate_store (t := 45) (p := 21) rfl ?_); refine store_event (t := 45) (p := 21) (v := ?vo_w13) (w1 := ((((w11.setCell ⟨go10, (x4_1 : Int).toNat * 4, none⟩ (.int .i64 t123)).setCell ⟨go10, (x4_1 : Int).toNat * 4 + 1, none⟩ (.int .i64 t124)).setCell ⟨go10, (x4_1 : Int).toNat * 4 + 2, none⟩ (.int .i64 t125)).setCell ⟨go10, (x4_1 : Int).toNat * 4 + 3, none⟩ (.string t126))) ?hg ?ho ?hn ?hr ?_; (case ho => rfl); (case hg => rfl); (case hn => rfl); (case hr => first | (go_simp; done) | (go_simp; rfl)); intro w13 hw; have hg : w11.grownBy w13 (some go10) := (by rw [hw]; exact HP12.2); have hp_ : Kd.R k45 45 w13 w.heap.size (fun _ => True) (.slice (some ⟨go10, 0, none⟩) x3_1.length co10) y127 := (by rw [hw, Ny127.out]; exact HP12.1); clear HP12; have n0_ := Aside0.mk (hp_); have n1_ := Aside0.mk ((by rw [hw]; exact below_set (below_set (below_set (below_set (HB.out) GB10.out) GB10.out) GB10.out) GB10.out : Below w.heap.size w w13)); clear HO_3; clear HB; have HO_3 := n0_; have HB := n1_; clear n0_ n1_; clear hg hw hp_))
    go_roundg k1
    case measure => have := HK1.out; omega
    case rel => exact ⟨(y127), (wrap64 (x4_1 + 1)), (by first | rfl | (simp; done) | (simp [*]; done)), H', ⟨by have := HK1.out; omega⟩, ⟨u3_9⟩, ⟨u3_0⟩⟩

/-! ### laws_toSessions: function 9 -/
def laws_toSessions.f (k : Nat) (a0_0 : Int) (a0_1 : Int) (l0_2 : List (S54)) : Option (Int × Int × (List (S45))) := (laws_toSessionS.f k l0_2).bind fun t131 => (some (a0_0, a0_1, t131))
theorem laws_toSessions.mono : ∀ a0 a1 a2 k, LeO (laws_toSessions.f k a0 a1 a2) (laws_toSessions.f (k + 1) a0 a1 a2) := by
  intro a0 a1 a2 k
  unfold laws_toSessions.f
  repeat' first
      | (with_reducible exact laws_toSessionS.mono _ _)
      | (with_reducible exact LeO.refl _)
      | (with_reducible exact LeO.none _)
      | (with_reducible refine LeO.ite ?_ ?_)
      | (with_reducible refine LeO.bind ?_ (fun _ => ?_))
      | exact laws_toSessionS.mono _ _
      | exact LeO.none _
      | refine LeO.ite ?_ ?_
      | refine LeO.bind ?_ (fun _ => ?_)
set_option maxHeartbeats 8000000 in
set_option maxRecDepth 100000 in
theorem laws_toSessions.calls (k : Nat) (a0_0 : Int) (a0_1 : Int) (A0_2 : Option Addr) (c0_2 : Nat) (l0_2 : List (S54)) (r1 : Int) (r2 : Int) (r3 : List (S45)) (w : World) (hr0_2 : Kd.C k54 w A0_2 l0_2.length l0_2) (hc0_2 : l0_2.length ≤ c0_2) (h : laws_toSessions.f k a0_0 a0_1 l0_2 = some (r1, r2, r3)) :
    Calls Try.prog 9 #[.agg #[.int .i64 a0_0, .int .i64 a0_1, .slice A0_2 l0_2.length c0_2]] w fun e w' => ∃ v2_ : Value, e = .returned (.agg #[.int .i64 r1, .int .i64 r2, v2_]) ∧ Kd.R k45 45 w' w.heap.size (fun _ => True) v2_ r3 ∧ Below w.heap.size w w' := by
  have hu24 := Try.underlying24
  have hu29 := Try.underlying29
  have HR0_2 := Aside0.mk hr0_2
  have HC0_2 := Aside0.mk hc0_2
  clear hr0_2 hc0_2
  have HB := Aside0.mk (Below.refl w.heap.size w)
  have H : ((laws_toSessionS.f k l0_2).bind fun t131 => (some (a0_0, a0_1, t131))) = some (r1, r2, r3) := h
  clear h
  replace H := Option.bind_eq_some_iff.mp H
  obtain ⟨t131, A20, H⟩ := H
  replace H : (some (a0_0, a0_1, t131)) = some (r1, r2, r3) := H
  have A2 := Aside0.mk A20
  clear A20
  simp only [Option.some.injEq, Prod.mk.injEq] at H
  obtain ⟨rfl, rfl, rfl⟩ := H
  go_enter Try.func9, Try.ntmps9
  go_wp2_with (first | ((with_reducible refine gate_dst (N := 1) rfl ?_); refine box_event ?hg (N := 1) ?hd (cs := #[.int .i64 a0_0, .int .i64 a0_1, .slice A0_2 l0_2.length c0_2]) (t := 24) ?hr ?_; (case hd => rfl); (case hg => rfl); (case hr => first | (go_simp; done) | (go_simp; rfl)); intro gb128 hg w3 hbox hb; have n0_ := Aside0.mk (below_step u3_0 hb); have n1_ := Aside0.mk (hbox); have n2_ := Aside0.mk ((by rw [hg]; exact (below_size u3_0) : w.heap.size ≤ gb128)); have n3_ := Aside0.mk ((by rw [hg]; exact (below_size u3_0) : w.heap.size ≤ gb128)); clear HB; have HB := n0_; have BK128 := n1_; have GW128 := n2_; have GE128 := n3_; clear n0_ n1_ n2_ n3_; clear hb hbox hg) | ((with_reducible refine gate_dst (N := 2) rfl ?_); refine box_event ?hg (N := 2) ?hd (cs := #[.int .i64 0, .int .i64 0, .slice none 0 0]) (t := 29) ?hr ?_; (case hd => rfl); (case hg => rfl); (case hr => first | (go_simp; done) | (go_simp; rfl)); intro gb129 hg w4 hbox hb; have n0_ := Aside0.mk (blk_below (g := gb128) (o := .cells #[.int .i64 a0_0, .int .i64 a0_1, .slice A0_2 l0_2.length c0_2] 24 (0, 0)) u3_3 hb); have n1_ := Aside0.mk (below_step u3_8 hb); have n2_ := Aside0.mk (hbox); have n3_ := Aside0.mk ((by rw [hg]; exact (below_size u3_8) : w.heap.size ≤ gb129)); have n4_ := Aside0.mk ((by rw [hg]; exact (below_size u3_8) : w.heap.size ≤ gb129)); have n5_ := Aside0.mk ((by rw [hg]; exact Nat.ne_of_lt (blk_lt (g := gb128) (o := .cells #[.int .i64 a0_0, .int .i64 a0_1, .slice A0_2 l0_2.length c0_2] 24 (0, 0)) u3_3) : gb128 ≠ gb129)); have n6_ := Aside0.mk ((by rw [hg]; exact Nat.ne_of_gt (blk_lt (g := gb128) (o := .cells #[.int .i64 a0_0, .int .i64 a0_1, .slice A0_2 l0_2.length c0_2] 24 (0, 0)) u3_3) : gb129 ≠ gb128)); clear BK128; clear HB; have BK128 := n0_; have HB := n1_; have BK129 := n2_; have GW129 := n3_; have GE129 := n4_; have NB128_129 := n5_; have NB129_128 := n6_; clear n0_ n1_ n2_ n3_ n4_ n5_ n6_; clear hb hbox hg) | ((with_reducible refine gate_dst (N := 3) rfl ?_); refine box_event ?hg (N := 3) ?hd (cs := #[.int .i64 0, .int .i64 0, .slice none 0 0]) (t := 29) ?hr ?_; (case hd => rfl); (case hg => rfl); (case hr => first | (go_simp; done) | (go_simp; rfl)); intro gb130 hg w5 hbox hb; have n0_ := Aside0.mk (blk_below (g := gb128) (o := .cells #[.int .i64 a0_0, .int .i64 a0_1, .slice A0_2 l0_2.length c0_2] 24 (0, 0)) u3_3 hb); have n1_ := Aside0.mk (blk_below (g := gb129) (o := .cells #[.int .i64 0, .int .i64 0, .slice none 0 0] 29 (0, 0)) u3_11 hb); have n2_ := Aside0.mk (below_step u3_6 hb); have n3_ := Aside0.mk (hbox); have n4_ := Aside0.mk ((by rw [hg]; exact (below_size u3_6) : w.heap.size ≤ gb130)); have n5_ := Aside0.mk ((by rw [hg]; exact (below_size u3_6) : w.heap.size ≤ gb130)); have n6_ := Aside0.mk ((by rw [hg]; exact Nat.ne_of_lt (blk_lt (g := gb128) (o := .cells #[.int .i64 a0_0, .int .i64 a0_1, .slice A0_2 l0_2.length c0_2] 24 (0, 0)) u3_3) : gb128 ≠ gb130)); have n7_ := Aside0.mk ((by rw [hg]; exact Nat.ne_of_gt (blk_lt (g := gb128) (o := .cells #[.int .i64 a0_0, .int .i64 a0_1, .slice A0_2 l0_2.length c0_2] 24 (0, 0)) u3_3) : gb130 ≠ gb128)); have n8_ := Aside0.mk ((by rw [hg]; exact Nat.ne_of_lt (blk_lt (g := gb129) (o := .cells #[.int .i64 0, .int .i64 0, .slice none 0 0] 29 (0, 0)) u3_11) : gb129 ≠ gb130)); have n9_ := Aside0.mk ((by rw [hg]; exact Nat.ne_of_gt (blk_lt (g := gb129) (o := .cells #[.int .i64 0, .int .i64 0, .slice none 0 0] 29 (0, 0)) u3_11) : gb130 ≠ gb129)); clear BK128; clear BK129; clear HB; have BK128 := n0_; have BK129 := n1_; have HB := n2_; have BK130 := n3_; have GW130 := n4_; have GE130 := n5_; have NB128_130 := n6_; have NB130_128 := n7_; have NB129_130 := n8_; have NB130_129 := n9_; clear n0_ n1_ n2_ n3_ n4_ n5_ n6_ n7_ n8_ n9_; clear hb hbox hg; have hnb6 := NB128_129.out; have hnc6 := NB129_128.out; have hnb7 := NB128_130.out; have hnc7 := NB130_128.out; have hcz8_0 : w5.cell? ⟨gb128, 0, none⟩ = some (.int .i64 a0_0) := (blk_cell BK128.out 0).trans rfl; have hcz8_1 : w5.cell? ⟨gb128, 1, none⟩ = some (.int .i64 a0_1) := (blk_cell BK128.out 1).trans rfl; have hcz8_2 : w5.cell? ⟨gb128, 2, none⟩ = some (.slice A0_2 l0_2.length c0_2) := (blk_cell BK128.out 2).trans rfl; have hfz8_0 := blk_frozen BK128.out 0; have hfz8_1 := blk_frozen BK128.out 1; have hfz8_2 := blk_frozen BK128.out 2; have hnb9 := NB130_129.out; have hnc9 := NB129_130.out; have hcz10_0 : w5.cell? ⟨gb130, 0, none⟩ = some (.int .i64 0) := (blk_cell BK130.out 0).trans rfl; have hcz10_1 : w5.cell? ⟨gb130, 1, none⟩ = some (.int .i64 0) := (blk_cell BK130.out 1).trans rfl; have hcz10_2 : w5.cell? ⟨gb130, 2, none⟩ = some (.slice none 0 0) := (blk_cell BK130.out 2).trans rfl; have hfz10_0 := blk_frozen BK130.out 0; have hfz10_1 := blk_frozen BK130.out 1; have hfz10_2 := blk_frozen BK130.out 2) | ((with_reducible refine gate_callee (f := 22) rfl ?_); refine goesL_ (some 12) rfl rfl Try.func22 (by kernel_rfl) rfl #[.slice A0_2 l0_2.length c0_2] rfl u3_12 ?_; (with_reducible refine (laws_toSessionS.calls k _ _ l0_2 t131 _ ?side1 ?side2 A2.out).mono ?_); (case side1 => exact (by exact Kd.C_below HR0_2.out u3_1)); (case side2 => exact HC0_2.out); rintro e w11 ⟨v132, rfl, ho0, hb⟩; refine ⟨_, rfl, ?_⟩; have n0_ := Aside0.mk (Kd.R_lower ho0 (below_size u3_1)); have n1_ := Aside0.mk (blk_below (g := gb128) (o := .cells #[.int .i64 a0_0, .int .i64 a0_1, .slice A0_2 l0_2.length c0_2] 24 (0, 0)) (by (with_reducible repeat (first | refine blk_drewN ?_ _ | refine blk_drew ?_ | refine blk_alloc ?_ _)); refine blk_far ?_ NB128_130.out _; (with_reducible repeat (first | refine blk_drewN ?_ _ | refine blk_drew ?_ | refine blk_alloc ?_ _)); refine blk_far ?_ NB128_130.out _; (with_reducible repeat (first | refine blk_drewN ?_ _ | refine blk_drew ?_ | refine blk_alloc ?_ _)); exact BK128.out) hb); have n2_ := Aside0.mk (blk_below (g := gb129) (o := .cells #[.int .i64 0, .int .i64 0, .slice none 0 0] 29 (0, 0)) (by (with_reducible repeat (first | refine blk_drewN ?_ _ | refine blk_drew ?_ | refine blk_alloc ?_ _)); refine blk_far ?_ NB129_130.out _; (with_reducible repeat (first | refine blk_drewN ?_ _ | refine blk_drew ?_ | refine blk_alloc ?_ _)); refine blk_far ?_ NB129_130.out _; (with_reducible repeat (first | refine blk_drewN ?_ _ | refine blk_drew ?_ | refine blk_alloc ?_ _)); exact BK129.out) hb); have n3_ := Aside0.mk (blk_below (g := gb130) (o := .cells #[.int .i64 a0_0, .int .i64 a0_1, .slice none 0 0] 29 (0, 0)) (by (with_reducible repeat (first | refine blk_drewN ?_ _ | refine blk_drew ?_ | refine blk_alloc ?_ _)); refine blk_put (cs := #[.int .i64 a0_0, .int .i64 0, .slice none 0 0]) ?_ 1 _ rfl; (with_reducible repeat (first | refine blk_drewN ?_ _ | refine blk_drew ?_ | refine blk_alloc ?_ _)); refine blk_put (cs := #[.int .i64 0, .int .i64 0, .slice none 0 0]) ?_ 0 _ rfl; (with_reducible repeat (first | refine blk_drewN ?_ _ | refine blk_drew ?_ | refine blk_alloc ?_ _)); exact BK130.out) hb); have n4_ := Aside0.mk (below_step u3_1 hb); clear BK128; clear BK129; clear BK130; clear HB; have HO133 := n0_; have BK128 := n1_; have BK129 := n2_; have BK130 := n3_; have HB := n4_; clear n0_ n1_ n2_ n3_ n4_; (try clear hb); (try clear hb2); (try clear hk); (try clear hi); (try clear ho0); obtain ⟨Ao12, co12, eo12⟩ := Kd.R_slice HO133.out; subst eo12; have hcz13_0 : w11.cell? ⟨gb130, 0, none⟩ = some (.int .i64 a0_0) := (blk_cell BK130.out 0).trans rfl; have hcz13_1 : w11.cell? ⟨gb130, 1, none⟩ = some (.int .i64 a0_1) := (blk_cell BK130.out 1).trans rfl; have hcz13_2 : w11.cell? ⟨gb130, 2, none⟩ = some (.slice none 0 0) := (blk_cell BK130.out 2).trans rfl; have hfz13_0 := blk_frozen BK130.out 0; have hfz13_1 := blk_frozen BK130.out 1; have hfz13_2 := blk_frozen BK130.out 2; have hcz14_0 : w11.cell? ⟨gb129, 0, none⟩ = some (.int .i64 0) := (blk_cell BK129.out 0).trans rfl; have hcz14_1 : w11.cell? ⟨gb129, 1, none⟩ = some (.int .i64 0) := (blk_cell BK129.out 1).trans rfl; have hcz14_2 : w11.cell? ⟨gb129, 2, none⟩ = some (.slice none 0 0) := (blk_cell BK129.out 2).trans rfl; have hfz14_0 := blk_frozen BK129.out 0; have hfz14_1 := blk_frozen BK129.out 1; have hfz14_2 := blk_frozen BK129.out 2))
  refine bodyPost_ret (results_cell_row rfl _ _ gb129 29 #[.int .i64 a0_0, .int .i64 a0_1, .slice Ao12 t131.length co12] (0, 0) _ rfl (by (with_reducible repeat (first | refine blk_drewN ?_ _ | refine blk_drew ?_ | refine blk_alloc ?_ _)); refine blk_put (cs := #[.int .i64 a0_0, .int .i64 a0_1, .slice none 0 0]) ?_ 2 _ rfl; (with_reducible repeat (first | refine blk_drewN ?_ _ | refine blk_drew ?_ | refine blk_alloc ?_ _)); refine blk_put (cs := #[.int .i64 a0_0, .int .i64 0, .slice none 0 0]) ?_ 1 _ rfl; (with_reducible repeat (first | refine blk_drewN ?_ _ | refine blk_drew ?_ | refine blk_alloc ?_ _)); refine blk_put (cs := #[.int .i64 0, .int .i64 0, .slice none 0 0]) ?_ 0 _ rfl; (with_reducible repeat (first | refine blk_drewN ?_ _ | refine blk_drew ?_ | refine blk_alloc ?_ _)); refine blk_far ?_ NB129_130.out _; (with_reducible repeat (first | refine blk_drewN ?_ _ | refine blk_drew ?_ | refine blk_alloc ?_ _)); exact BK129.out) Try.underlying29 rfl (by kernel_rfl)) rfl ?_
  exact ⟨_, by first | rfl | (simp [errW_none, errW_some] <;> rfl) | (simp [*, errW_none, errW_some] <;> rfl), (by (with_reducible repeat (first | apply Kd.R_alloc | apply Kd.R_drewN | apply Kd.R_drew)); exact Kd.R_mono (Kd.R_far (p := ⟨gb129, 2, none⟩) (Kd.R_far (p := ⟨gb129, 1, none⟩) (Kd.R_far (p := ⟨gb129, 0, none⟩) (Kd.R_far (p := ⟨gb130, 2, none⟩) (Kd.R_types (Kd.R_types HO133.out BK130.out (by decide)) BK129.out (by decide)) (fun _ hk => hk.1.2) (.slice Ao12 t131.length co12)) (fun _ hk => hk.2) (.int .i64 a0_0)) (fun _ hk => hk.2) (.int .i64 a0_1)) (fun _ hk => hk.2) (.slice Ao12 t131.length co12)) (fun _ hk => trivial)), u3_1⟩

/-! ### impl_Session: function 37 -/
def impl_Session.p (a1_0 : Int) (a1_1 : Int) (a1_2 : Int) (a1_3 : ByteArray) (y : S45) : Bool := (y.f2 == a1_2)
def impl_Session.f (l0 : List S45) (a1_0 : Int) (a1_1 : Int) (a1_2 : Int) (a1_3 : ByteArray) : Option Bool := some (l0.any (impl_Session.p a1_0 a1_1 a1_2 a1_3))
set_option maxHeartbeats 400000 in
theorem impl_Session.lit (b : Nat) (a1_0 : Int) (a1_1 : Int) (a1_2 : Int) (a1_3 : ByteArray) (y : S45) (w : World) (hb : w.heap[b]? = some (.cells #[.int .i64 a1_0, .int .i64 a1_1, .int .i64 a1_2, .string a1_3] 45 (0, 0))) :
    Calls Try.prog 38 #[.agg #[.int .i64 y.f0, .int .i64 y.f1, .int .i64 y.f2, .string y.f3], .pointer (some ⟨b, 0, none⟩)] w fun e w' => e = .returned (.bool (impl_Session.p a1_0 a1_1 a1_2 a1_3 y)) ∧ Below w.heap.size w w' := by
  have hu := Try.underlying45
  have hu2 := Try.underlying45
  have hc2 : ∀ o, (w.alloc o).cell? ⟨b, 2, none⟩ = some (.int .i64 a1_2) := fun o => (blk_cell (blk_alloc hb o) 2).trans rfl
  go_enter Try.func38, Try.ntmps38
  go_wp2
  go_ret
  exact ⟨rfl, below_alloc (Below.refl _ _) _⟩
set_option maxHeartbeats 1600000 in
theorem impl_Session.idx (p : S45 → Bool) (bs : Array Value) (A0 : Option Addr) (c0 : Nat) (l0 : List S45) (w : World) (hr0 : Kd.C k45 w A0 l0.length l0) (hc0 : l0.length ≤ c0)
    (hf : ∀ (y : S45) (W : World), Below w.heap.size w W → Calls Try.prog 38 (#[.agg #[.int .i64 y.f0, .int .i64 y.f1, .int .i64 y.f2, .string y.f3]] ++ bs) W fun e w' => e = .returned (.bool (p y)) ∧ Below W.heap.size W w') :
    Calls Try.prog 40 #[.slice A0 l0.length c0, .func (.func 38) #[] bs] w fun e w' => e = .returned (.int .i64 (Go.Proofs.Ytjdpifafijcpbaa.Slc.idxB p l0)) ∧ Below w.heap.size w w' := by
  have hu45 := Try.underlying45
  have hn : l0.length ≤ 9223372036854775807 := hr0.2.1
  have HR := Aside0.mk hr0
  have HF := Aside0.mk hf
  clear hr0 hf
  go_enter Try.func40, Try.ntmps40
  go_wp2
  go_loopg [5, 8] l0.length (fun gg _ s8 wr => ∃ kk : Int, 0 ≤ kk ∧ kk ≤ l0.length ∧ l0.length - kk.toNat ≤ gg ∧ s8 = .int .i64 kk ∧ Aside0 (Below w.heap.size w wr) ∧ Aside0 (∀ j : Nat, (j : Int) < kk → p (l0.getD j z45) = false))
  case atStart => exact ⟨0, by omega, by omega, by omega, rfl, ⟨Below.refl _ w⟩, ⟨fun j hj => by omega⟩⟩
  obtain ⟨kk, h0, hk, hg, rfl, BW, HA⟩ := hrel
  by_cases hlt : kk < (l0.length : Int)
  rotate_left
  · go_wp2
    go_ret
    refine ⟨?_, BW.out⟩
    rw [Go.Proofs.Ytjdpifafijcpbaa.Slc.idxB_miss p l0 z45 (fun j hj => HA.out j (by omega))]
    rfl
  obtain ⟨ad, e, hx0, hx1, hx2, hx3⟩ := at_T45 HR.out kk h0 hlt
  cases e
  replace hx0 := (BW.out.cell (World.block_lt_of_cell? w _ hx0)).trans hx0
  replace hx1 := (BW.out.cell (World.block_lt_of_cell? w _ hx1)).trans hx1
  replace hx2 := (BW.out.cell (World.block_lt_of_cell? w _ hx2)).trans hx2
  replace hx3 := (BW.out.cell (World.block_lt_of_cell? w _ hx3)).trans hx3
  have HC := Aside0.mk (HF.out (l0.getD kk.toNat z45) wr BW.out)
  cases hq : p (l0.getD kk.toNat z45) with
  | true =>
    have HQ := Aside0.mk hq
    rw [hq] at HC
    clear hq
    go_wp2_with (go_at_call 38; refine HC.out.mono ?_; rintro e w' ⟨rfl, hb'⟩)
    go_ret
    refine ⟨?_, below_step BW.out hb'⟩
    rw [Go.Proofs.Ytjdpifafijcpbaa.Slc.idxB_hit p l0 z45 kk.toNat (by omega) HQ.out (fun j hj => HA.out j (by omega)), Int.toNat_of_nonneg h0]
    rfl
  | false =>
    have HQ := Aside0.mk hq
    rw [hq] at HC
    clear hq
    go_wp2_with (go_at_call 38; refine HC.out.mono ?_; rintro e w' ⟨rfl, hb'⟩)
    go_roundg (l0.length - (kk + 1).toNat)
    case measure => omega
    case rel =>
      refine ⟨kk + 1, by omega, by omega, by omega, by go_num, ⟨below_step BW.out hb'⟩, ⟨fun j hj => ?_⟩⟩
      by_cases e : (j : Int) = kk
      rotate_left
      · exact HA.out j (by omega)
      have := HQ.out
      rw [← e, Int.toNat_natCast] at this
      exact this
set_option maxHeartbeats 400000 in
theorem impl_Session.calls (A0 : Option Addr) (c0 : Nat) (l0 : List S45) (a1_0 : Int) (a1_1 : Int) (a1_2 : Int) (a1_3 : ByteArray) (r : Bool) (w : World) {b : Nat} (hr0 : Kd.C k45 w A0 l0.length l0) (hc0 : l0.length ≤ c0)  (hb : w.heap[b]? = some (.cells #[.int .i64 a1_0, .int .i64 a1_1, .int .i64 a1_2, .string a1_3] 45 (0, 0))) (h : impl_Session.f l0 a1_0 a1_1 a1_2 a1_3 = some r) :
    Calls Try.prog 37 #[.slice A0 l0.length c0, .func (.func 38) #[] #[.pointer (some ⟨b, 0, none⟩)]] w fun e w' => e = .returned (.bool r) ∧ Below w.heap.size w w' := by
  obtain rfl := Option.some.inj h
  have HI := Aside0.mk (impl_Session.idx (impl_Session.p a1_0 a1_1 a1_2 a1_3) #[.pointer (some ⟨b, 0, none⟩)] A0 c0 l0 w hr0 hc0 (fun y W hW => impl_Session.lit b a1_0 a1_1 a1_2 a1_3 y W ((hW.block b (blk_lt hb)).trans hb)))
  clear hr0 hc0 hb h
  go_enter Try.func37, Try.ntmps37
  go_wp2_with (go_at_call 40; refine HI.out.mono ?_; rintro e w' ⟨rfl, hb'⟩)
  go_ret
  exact ⟨(by first | (rw [← Go.Proofs.Ytjdpifafijcpbaa.Slc.idxB_any]; done) | (rw [← Go.Proofs.Ytjdpifafijcpbaa.Slc.idxB_any]; rfl)), hb'⟩


end Go.Proofs.Ytjdpifafijcpbaa.QFnExactSessionsOk
