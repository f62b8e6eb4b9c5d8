-- Printed by the session's own program wip/prx.py.
import Derived.Test.YtdbfjakhkclggaaQFnExactBookOkx0
namespace Go.Proofs.Ytdbfjakhkclggaa.QFnExactBookOk
open Go.RowKit Go.Proofs.YtdbfjakhkclggaaW.PrintWords Go.Proofs.YtdbfjakhkclggaaW.PrintLast Go.Proofs.YtdbfjakhkclggaaW.PrintMore
attribute [local go_sem] max2_int min2_int max_two min_two max_three min_three max_four min_four Go.Proofs.Ytdbfjakhkclggaa.Set.isSome_setCell Go.Proofs.Ytdbfjakhkclggaa.Add.add64   -- for this text's walks alone
set_option linter.unusedVariables false
set_option linter.unusedSimpArgs false

-- squeezed
theorem u3_0 {P : Prop} (h : P := by repeat (first | (with_reducible first | exact HB.out | apply below_alloc | apply pw_below_drewN | apply below_drew1 | refine below_set ?_ GE126.out) | exact HB.out)) : P := h
theorem u3_1 {P : Prop} (h : P := by (with_reducible repeat (first | refine blk_drewN ?_ _ | refine blk_drew ?_ | refine blk_alloc ?_ _)); exact BK126.out) : P := h
theorem u3_2 {P : Prop} (h : P := by repeat (first | (with_reducible first | exact HB.out | apply below_alloc | apply pw_below_drewN | apply below_drew1) | exact HB.out)) : P := h
theorem u3_3 {P : Prop} (h : P := by first | (with_reducible assumption) | assumption) : P := h
theorem u3_4 {P : Prop} (h : P := by first | (rw [add_block]; exact hn129_0) | (show (Addr.add _ _).block ≠ _; rw [add_block]; exact hn129_0) | exact hn129_0) : P := h
theorem u3_5 {P : Prop} (h : P := by first | (rw [add_block]; exact hn129_1) | (show (Addr.add _ _).block ≠ _; rw [add_block]; exact hn129_1) | exact hn129_1) : P := h
theorem u3_6 {P : Prop} (h : P := by first | (rw [add_block]; exact hn129_2) | (show (Addr.add _ _).block ≠ _; rw [add_block]; exact hn129_2) | exact hn129_2) : P := h
theorem u3_7 {P : Prop} (h : P := by first | (rw [add_block]; exact hn129_3) | (show (Addr.add _ _).block ≠ _; rw [add_block]; exact hn129_3) | exact hn129_3) : P := h
theorem u3_8 {P : Prop} (h : P := by first | (rw [add_block]; exact hn129_4) | (show (Addr.add _ _).block ≠ _; rw [add_block]; exact hn129_4) | exact hn129_4) : P := h
theorem u3_9 {P : Prop} (h : P := by first | (rw [add_block]; exact hn130_0) | (show (Addr.add _ _).block ≠ _; rw [add_block]; exact hn130_0) | exact hn130_0) : P := h
theorem u3_10 {P : Prop} (h : P := by first | (rw [add_block]; exact hn130_1) | (show (Addr.add _ _).block ≠ _; rw [add_block]; exact hn130_1) | exact hn130_1) : P := h
theorem u3_11 {P : Prop} (h : P := by first | (rw [add_block]; exact hn130_2) | (show (Addr.add _ _).block ≠ _; rw [add_block]; exact hn130_2) | exact hn130_2) : P := h
theorem u3_12 {P : Prop} (h : P := by first | (rw [add_block]; exact hn130_3) | (show (Addr.add _ _).block ≠ _; rw [add_block]; exact hn130_3) | exact hn130_3) : P := h
theorem u3_13 {P : Prop} (h : P := by first | (rw [add_block]; exact hn130_4) | (show (Addr.add _ _).block ≠ _; rw [add_block]; exact hn130_4) | exact hn130_4) : P := h
theorem u3_14 {P : Prop} (h : P := by have := World.block_lt_of_cell? _ _ hx129_0; first | rwa [add_block] at this | exact this) : P := h
theorem u3_15 {P : Prop} (h : P := by have := World.block_lt_of_cell? _ _ hx130_0; first | rwa [add_block] at this | exact this) : P := h
theorem u3_16 {P : Prop} (h : P := by (with_reducible repeat (first | refine blk_drewN ?_ _ | refine blk_drew ?_ | refine blk_alloc ?_ _)); exact BK120.out) : P := h
theorem u3_17 {P : Prop} (h : P := by (with_reducible repeat (first | refine blk_drewN ?_ _ | refine blk_drew ?_ | refine blk_alloc ?_ _)); exact BK107.out) : P := h
theorem u3_18 {P : Prop} (h : P := by repeat (first | (with_reducible first | exact HB.out | apply below_alloc | apply pw_below_drewN | apply below_drew1 | refine below_set ?_ GE107.out | refine below_set ?_ GE108.out) | exact HB.out)) : P := h
theorem u3_19 {P : Prop} (h : P := by repeat (first | (with_reducible first | exact HB.out | apply below_alloc | apply pw_below_drewN | apply below_drew1 | refine below_set ?_ GE120.out | refine below_set ?_ GE121.out) | exact HB.out)) : P := h
theorem u3_20 {P : Prop} (h : P := by (with_reducible repeat (first | refine blk_drewN ?_ _ | refine blk_drew ?_ | refine blk_alloc ?_ _)); exact BK121.out) : P := h
theorem u3_21 {P : Prop} (h : P := by repeat (first | (with_reducible first | exact HB.out | apply below_alloc | apply pw_below_drewN | apply below_drew1 | refine below_set ?_ GE107.out) | exact HB.out)) : P := h
theorem u3_22 {P : Prop} (h : P := by repeat (first | (with_reducible first | exact HB.out | apply below_alloc | apply pw_below_drewN | apply below_drew1 | refine below_set ?_ GE120.out) | exact HB.out)) : P := h
theorem u3_23 {P : Prop} (h : P := by (try simp only [List.map_toArray, List.map_cons, List.map_nil]); first | done | rfl | (simp only [List.length_drop, List.length_take]; rfl)) : P := h
theorem u3_24 {P : Prop} (h : P := by first | rfl | (simp; done) | (simp [*]; done)) : P := h
theorem u3_25 {P : Prop} (h : P := by (with_reducible repeat (first | refine blk_drewN ?_ _ | refine blk_drew ?_ | refine blk_alloc ?_ _)); exact BK108.out) : P := h
theorem u3_26 {P : Prop} (h : P := by repeat (first | (with_reducible first | exact HB.out | apply below_alloc | apply pw_below_drewN | apply below_drew1 | refine below_set ?_ GE120.out | refine below_set ?_ GE121.out | refine below_set ?_ GE122.out) | exact HB.out)) : P := h
theorem u3_27 {P : Prop} (h : P := by (with_reducible repeat (first | apply Kd.R_alloc | apply Kd.R_drewN | apply Kd.R_drew)); exact HO_3.out) : P := h
/-! ### laws_toAccount: function 75 -/
def laws_toAccount.f (a0_0 : Int) (a0_1 : Int) (a0_2 : Int) (a0_3 : Int) (a0_4 : Int) : Option (Int × Int × Int × Int × Int) := some (a0_0, a0_1, a0_2, a0_3, a0_4)
set_option maxHeartbeats 8000000 in
set_option maxRecDepth 100000 in
theorem laws_toAccount.calls (a0_0 : Int) (a0_1 : Int) (a0_2 : Int) (a0_3 : Int) (a0_4 : Int) (r1 : Int) (r2 : Int) (r3 : Int) (r4 : Int) (r5 : Int) (w : World) (h : laws_toAccount.f a0_0 a0_1 a0_2 a0_3 a0_4 = some (r1, r2, r3, r4, r5)) :
    Calls Try.prog 75 #[.agg #[.int .u64 a0_0, .int .u64 a0_1, .int .u64 a0_2, .int .u64 a0_3, .int .i64 a0_4]] w fun e w' => e = .returned (.agg #[.int .u64 r1, .int .u64 r2, .int .u64 r3, .int .u64 r4, .int .i64 r5]) ∧ Below w.heap.size w w' := by
  have hu77 := Try.underlying77
  have hu53 := Try.underlying53
  have HB := Aside0.mk (Below.refl w.heap.size w)
  have H : (some (a0_0, a0_1, a0_2, a0_3, a0_4)) = some (r1, r2, r3, r4, r5) := h
  clear h
  simp only [Option.some.injEq, Prod.mk.injEq] at H
  obtain ⟨rfl, rfl, rfl, rfl, rfl⟩ := H
  go_enter Try.func75, Try.ntmps75
  go_wp2_with (first | ((with_reducible refine gate_dst (N := 1) rfl ?_); refine box_event ?hg (N := 1) ?hd (cs := #[.int .u64 a0_0, .int .u64 a0_1, .int .u64 a0_2, .int .u64 a0_3, .int .i64 a0_4]) (t := 77) ?hr ?_; (case hd => rfl); (case hg => rfl); (case hr => first | (go_simp; done) | (go_simp; rfl)); intro gb107 hg w2 hbox hb; have n0_ := Aside0.mk (below_step u3_2 hb); have n1_ := Aside0.mk (hbox); have n2_ := Aside0.mk ((by rw [hg]; exact (below_size u3_2) : w.heap.size ≤ gb107)); have n3_ := Aside0.mk ((by rw [hg]; exact (below_size u3_2) : w.heap.size ≤ gb107)); clear HB; have HB := n0_; have BK107 := n1_; have GW107 := n2_; have GE107 := n3_; clear n0_ n1_ n2_ n3_; clear hb hbox hg) | ((with_reducible refine gate_dst (N := 2) rfl ?_); refine box_event ?hg (N := 2) ?hd (cs := #[.int .u64 0, .int .u64 0, .int .u64 0, .int .u64 0, .int .i64 0]) (t := 53) ?hr ?_; (case hd => rfl); (case hg => rfl); (case hr => first | (go_simp; done) | (go_simp; rfl)); intro gb108 hg w3 hbox hb; have n0_ := Aside0.mk (blk_below (g := gb107) (o := .cells #[.int .u64 a0_0, .int .u64 a0_1, .int .u64 a0_2, .int .u64 a0_3, .int .i64 a0_4] 77 (0, 0)) u3_17 hb); have n1_ := Aside0.mk (below_step u3_21 hb); have n2_ := Aside0.mk (hbox); have n3_ := Aside0.mk ((by rw [hg]; exact (below_size u3_21) : w.heap.size ≤ gb108)); have n4_ := Aside0.mk ((by rw [hg]; exact (below_size u3_21) : w.heap.size ≤ gb108)); have n5_ := Aside0.mk ((by rw [hg]; exact Nat.ne_of_lt (blk_lt (g := gb107) (o := .cells #[.int .u64 a0_0, .int .u64 a0_1, .int .u64 a0_2, .int .u64 a0_3, .int .i64 a0_4] 77 (0, 0)) u3_17) : gb107 ≠ gb108)); have n6_ := Aside0.mk ((by rw [hg]; exact Nat.ne_of_gt (blk_lt (g := gb107) (o := .cells #[.int .u64 a0_0, .int .u64 a0_1, .int .u64 a0_2, .int .u64 a0_3, .int .i64 a0_4] 77 (0, 0)) u3_17) : gb108 ≠ gb107)); clear BK107; clear HB; have BK107 := n0_; have HB := n1_; have BK108 := n2_; have GW108 := n3_; have GE108 := n4_; have NB107_108 := n5_; have NB108_107 := n6_; clear n0_ n1_ n2_ n3_ n4_ n5_ n6_; clear hb hbox hg) | ((with_reducible refine gate_dst (N := 3) rfl ?_); refine box_event ?hg (N := 3) ?hd (cs := #[.int .u64 0, .int .u64 0, .int .u64 0, .int .u64 0, .int .i64 0]) (t := 53) ?hr ?_; (case hd => rfl); (case hg => rfl); (case hr => first | (go_simp; done) | (go_simp; rfl)); intro gb109 hg w4 hbox hb; have n0_ := Aside0.mk (blk_below (g := gb107) (o := .cells #[.int .u64 a0_0, .int .u64 a0_1, .int .u64 a0_2, .int .u64 a0_3, .int .i64 a0_4] 77 (0, 0)) u3_17 hb); have n1_ := Aside0.mk (blk_below (g := gb108) (o := .cells #[.int .u64 0, .int .u64 0, .int .u64 0, .int .u64 0, .int .i64 0] 53 (0, 0)) u3_25 hb); have n2_ := Aside0.mk (below_step u3_18 hb); have n3_ := Aside0.mk (hbox); have n4_ := Aside0.mk ((by rw [hg]; exact (below_size u3_18) : w.heap.size ≤ gb109)); have n5_ := Aside0.mk ((by rw [hg]; exact (below_size u3_18) : w.heap.size ≤ gb109)); have n6_ := Aside0.mk ((by rw [hg]; exact Nat.ne_of_lt (blk_lt (g := gb107) (o := .cells #[.int .u64 a0_0, .int .u64 a0_1, .int .u64 a0_2, .int .u64 a0_3, .int .i64 a0_4] 77 (0, 0)) u3_17) : gb107 ≠ gb109)); have n7_ := Aside0.mk ((by rw [hg]; exact Nat.ne_of_gt (blk_lt (g := gb107) (o := .cells #[.int .u64 a0_0, .int .u64 a0_1, .int .u64 a0_2, .int .u64 a0_3, .int .i64 a0_4] 77 (0, 0)) u3_17) : gb109 ≠ gb107)); have n8_ := Aside0.mk ((by rw [hg]; exact Nat.ne_of_lt (blk_lt (g := gb108) (o := .cells #[.int .u64 0, .int .u64 0, .int .u64 0, .int .u64 0, .int .i64 0] 53 (0, 0)) u3_25) : gb108 ≠ gb109)); have n9_ := Aside0.mk ((by rw [hg]; exact Nat.ne_of_gt (blk_lt (g := gb108) (o := .cells #[.int .u64 0, .int .u64 0, .int .u64 0, .int .u64 0, .int .i64 0] 53 (0, 0)) u3_25) : gb109 ≠ gb108)); clear BK107; clear BK108; clear HB; have BK107 := n0_; have BK108 := n1_; have HB := n2_; have BK109 := n3_; have GW109 := n4_; have GE109 := n5_; have NB107_109 := n6_; have NB109_107 := n7_; have NB108_109 := n8_; have NB109_108 := n9_; clear n0_ n1_ n2_ n3_ n4_ n5_ n6_ n7_ n8_ n9_; clear hb hbox hg; have hnb5 := NB107_108.out; have hnc5 := NB108_107.out; have hnb6 := NB107_109.out; have hnc6 := NB109_107.out; have hcz7_0 : w4.cell? ⟨gb107, 0, none⟩ = some (.int .u64 a0_0) := (blk_cell BK107.out 0).trans rfl; have hcz7_1 : w4.cell? ⟨gb107, 1, none⟩ = some (.int .u64 a0_1) := (blk_cell BK107.out 1).trans rfl; have hcz7_2 : w4.cell? ⟨gb107, 2, none⟩ = some (.int .u64 a0_2) := (blk_cell BK107.out 2).trans rfl; have hcz7_3 : w4.cell? ⟨gb107, 3, none⟩ = some (.int .u64 a0_3) := (blk_cell BK107.out 3).trans rfl; have hcz7_4 : w4.cell? ⟨gb107, 4, none⟩ = some (.int .i64 a0_4) := (blk_cell BK107.out 4).trans rfl; have hfz7_0 := blk_frozen BK107.out 0; have hfz7_1 := blk_frozen BK107.out 1; have hfz7_2 := blk_frozen BK107.out 2; have hfz7_3 := blk_frozen BK107.out 3; have hfz7_4 := blk_frozen BK107.out 4; have hnb8 := NB109_108.out; have hnc8 := NB108_109.out; have hcz9_0 : w4.cell? ⟨gb109, 0, none⟩ = some (.int .u64 0) := (blk_cell BK109.out 0).trans rfl; have hcz9_1 : w4.cell? ⟨gb109, 1, none⟩ = some (.int .u64 0) := (blk_cell BK109.out 1).trans rfl; have hcz9_2 : w4.cell? ⟨gb109, 2, none⟩ = some (.int .u64 0) := (blk_cell BK109.out 2).trans rfl; have hcz9_3 : w4.cell? ⟨gb109, 3, none⟩ = some (.int .u64 0) := (blk_cell BK109.out 3).trans rfl; have hcz9_4 : w4.cell? ⟨gb109, 4, none⟩ = some (.int .i64 0) := (blk_cell BK109.out 4).trans rfl; have hfz9_0 := blk_frozen BK109.out 0; have hfz9_1 := blk_frozen BK109.out 1; have hfz9_2 := blk_frozen BK109.out 2; have hfz9_3 := blk_frozen BK109.out 3; have hfz9_4 := blk_frozen BK109.out 4; have hcz10_0 : w4.cell? ⟨gb108, 0, none⟩ = some (.int .u64 0) := (blk_cell BK108.out 0).trans rfl; have hcz10_1 : w4.cell? ⟨gb108, 1, none⟩ = some (.int .u64 0) := (blk_cell BK108.out 1).trans rfl; have hcz10_2 : w4.cell? ⟨gb108, 2, none⟩ = some (.int .u64 0) := (blk_cell BK108.out 2).trans rfl; have hcz10_3 : w4.cell? ⟨gb108, 3, none⟩ = some (.int .u64 0) := (blk_cell BK108.out 3).trans rfl; have hcz10_4 : w4.cell? ⟨gb108, 4, none⟩ = some (.int .i64 0) := (blk_cell BK108.out 4).trans rfl; have hfz10_0 := blk_frozen BK108.out 0; have hfz10_1 := blk_frozen BK108.out 1; have hfz10_2 := blk_frozen BK108.out 2; have hfz10_3 := blk_frozen BK108.out 3; have hfz10_4 := blk_frozen BK108.out 4))
  refine bodyPost_ret (results_cell_row rfl _ _ gb108 53 #[.int .u64 a0_0, .int .u64 a0_1, .int .u64 a0_2, .int .u64 a0_3, .int .i64 a0_4] (0, 0) _ rfl (by (with_reducible repeat (first | refine blk_drewN ?_ _ | refine blk_drew ?_ | refine blk_alloc ?_ _)); refine blk_put (cs := #[.int .u64 a0_0, .int .u64 a0_1, .int .u64 a0_2, .int .u64 a0_3, .int .i64 0]) ?_ 4 _ rfl; (with_reducible repeat (first | refine blk_drewN ?_ _ | refine blk_drew ?_ | refine blk_alloc ?_ _)); refine blk_put (cs := #[.int .u64 a0_0, .int .u64 a0_1, .int .u64 a0_2, .int .u64 0, .int .i64 0]) ?_ 3 _ rfl; (with_reducible repeat (first | refine blk_drewN ?_ _ | refine blk_drew ?_ | refine blk_alloc ?_ _)); refine blk_put (cs := #[.int .u64 a0_0, .int .u64 a0_1, .int .u64 0, .int .u64 0, .int .i64 0]) ?_ 2 _ rfl; (with_reducible repeat (first | refine blk_drewN ?_ _ | refine blk_drew ?_ | refine blk_alloc ?_ _)); refine blk_put (cs := #[.int .u64 a0_0, .int .u64 0, .int .u64 0, .int .u64 0, .int .i64 0]) ?_ 1 _ rfl; (with_reducible repeat (first | refine blk_drewN ?_ _ | refine blk_drew ?_ | refine blk_alloc ?_ _)); refine blk_put (cs := #[.int .u64 0, .int .u64 0, .int .u64 0, .int .u64 0, .int .i64 0]) ?_ 0 _ rfl; (with_reducible repeat (first | refine blk_drewN ?_ _ | refine blk_drew ?_ | refine blk_alloc ?_ _)); refine blk_far ?_ NB108_109.out _; (with_reducible repeat (first | refine blk_drewN ?_ _ | refine blk_drew ?_ | refine blk_alloc ?_ _)); refine blk_far ?_ NB108_109.out _; (with_reducible repeat (first | refine blk_drewN ?_ _ | refine blk_drew ?_ | refine blk_alloc ?_ _)); refine blk_far ?_ NB108_109.out _; (with_reducible repeat (first | refine blk_drewN ?_ _ | refine blk_drew ?_ | refine blk_alloc ?_ _)); refine blk_far ?_ NB108_109.out _; (with_reducible repeat (first | refine blk_drewN ?_ _ | refine blk_drew ?_ | refine blk_alloc ?_ _)); refine blk_far ?_ NB108_109.out _; (with_reducible repeat (first | refine blk_drewN ?_ _ | refine blk_drew ?_ | refine blk_alloc ?_ _)); exact BK108.out) Try.underlying53 rfl (by kernel_rfl)) rfl ?_
  exact ⟨by first | rfl | (simp [errW_none, errW_some] <;> rfl) | (simp [*, errW_none, errW_some] <;> rfl), by repeat (first | (with_reducible first | exact HB.out | apply below_alloc | apply pw_below_drewN | apply below_drew1 | refine below_set ?_ GE107.out | refine below_set ?_ GE108.out | refine below_set ?_ GE109.out) | exact HB.out)⟩

/-! ### laws_toAccountS: function 49 -/
def laws_toAccountS.l0 : Nat → List (S77) → List (S53) → Int → Option ((List (S53)))
  | 0, _, _, _ => none
  | k + 1, x0, x3, x4 => if x4 < (x0.length : Int) then (if 0 ≤ x4 then ((laws_toAccount.f ((rd_T77 x0 x4).f0) ((rd_T77 x0 x4).f1) ((rd_T77 x0 x4).f2) ((rd_T77 x0 x4).f3) ((rd_T77 x0 x4).f4)).bind fun bt114 => (if x4 < (x3.length : Int) then (laws_toAccountS.l0 k x0 (x3.set (x4 : Int).toNat (⟨bt114.1, bt114.2.1, bt114.2.2.1, bt114.2.2.2.1, bt114.2.2.2.2⟩ : S53)) (wrap64 (x4 + 1))) else (none))) else (none)) else (some x3)
def laws_toAccountS.f (k : Nat) (l0 : List (S77)) : Option ((List (S53))) := if 0 ≤ (l0.length : Int) then (if ((l0.length : Int) : Int).toNat ≤ 7036874417766 then (laws_toAccountS.l0 k l0 (List.replicate ((l0.length : Int) : Int).toNat z53) 0) else (none)) else (none)
theorem laws_toAccountS.mono_l : ∀ k, (∀ y0 y1 y2, LeO (laws_toAccountS.l0 k y0 y1 y2) (laws_toAccountS.l0 (k + 1) y0 y1 y2))
  | 0 => fun _ _ _ r h => by simp [laws_toAccountS.l0] at h
  | k + 1 => by
    have ih0 := laws_toAccountS.mono_l k
    · intro y0 y1 y2
      unfold laws_toAccountS.l0
      repeat' first
      | (with_reducible exact ih0 _ _ _)
      | (with_reducible exact LeO.refl _)
      | (with_reducible exact LeO.none _)
      | (with_reducible refine LeO.ite ?_ ?_)
      | (with_reducible refine LeO.bind ?_ (fun _ => ?_))
      | exact ih0 _ _ _
      | exact LeO.none _
      | refine LeO.ite ?_ ?_
      | refine LeO.bind ?_ (fun _ => ?_)
theorem laws_toAccountS.mono : ∀ a0 k, LeO (laws_toAccountS.f k a0) (laws_toAccountS.f (k + 1) a0) := by
  intro a0 k
  have ih0 := laws_toAccountS.mono_l k
  unfold laws_toAccountS.f
  repeat' first
      | (with_reducible exact ih0 _ _ _)
      | (with_reducible exact LeO.refl _)
      | (with_reducible exact LeO.none _)
      | (with_reducible refine LeO.ite ?_ ?_)
      | (with_reducible refine LeO.bind ?_ (fun _ => ?_))
      | exact ih0 _ _ _
      | exact LeO.none _
      | refine LeO.ite ?_ ?_
      | refine LeO.bind ?_ (fun _ => ?_)
set_option maxHeartbeats 8000000 in
set_option maxRecDepth 100000 in
theorem laws_toAccountS.calls (k : Nat) (A0 : Option Addr) (c0 : Nat) (l0 : List (S77)) (r : List (S53)) (w : World) (hr0 : Kd.C k77 w A0 l0.length l0) (hc0 : l0.length ≤ c0) (h : laws_toAccountS.f k l0 = some r) :
    Calls Try.prog 49 #[.slice A0 l0.length c0] w fun e w' => ∃ v0_ : Value, e = .returned (v0_) ∧ Kd.R k53 53 w' w.heap.size (fun _ => True) v0_ r ∧ Below w.heap.size w w' := by
  have hu77 := Try.underlying77
  have hu53 := Try.underlying53
  have HR0 := Aside0.mk hr0
  have HC0 := Aside0.mk hc0
  clear hr0 hc0
  have HB := Aside0.mk (Below.refl w.heap.size w)
  have H : (if 0 ≤ (l0.length : Int) then (if ((l0.length : Int) : Int).toNat ≤ 7036874417766 then (laws_toAccountS.l0 k l0 (List.replicate ((l0.length : Int) : Int).toNat z53) 0) else (none)) else (none)) = some r := h
  clear h
  by_cases c2 : 0 ≤ (l0.length : Int)
  · rw [if_pos c2] at H
    have c2b0 := eq_true c2
    have c2b1 : decide (0 ≤ (l0.length : Int)) = true := decide_eq_true c2
    clear c2
    by_cases c3 : ((l0.length : Int) : Int).toNat ≤ 7036874417766
    · rw [if_pos c3] at H
      have c3b0 := eq_true c3
      have c3b1 : decide (((l0.length : Int) : Int).toNat ≤ 7036874417766) = true := decide_eq_true c3
      clear c3
      obtain ⟨y110, hy110⟩ : ∃ y_ : List (S53), y_ = (List.replicate ((l0.length : Int) : Int).toNat z53) := ⟨_, rfl⟩
      replace H : (laws_toAccountS.l0 k l0 y110 0) = some r := by first | (rw [hy110]; with_reducible exact H) | (have H2_ := (Option.bind_some _ _).symm.trans H; rw [hy110]; with_reducible exact H2_) | (have H2_ := (Option.bind_some _ _).symm.trans H; with_reducible exact H2_) | with_reducible exact H | (rw [hy110]; exact H) | exact H
      have Ny110 := Aside0.mk hy110
      clear hy110
      have H' := Aside0.mk H
      clear H
      go_enter Try.func49, Try.ntmps49
      go_wp2_with (first | ((with_reducible refine gate_dst (N := 7) rfl ?_); refine Kd.R_make k53 _ 53 rfl (N := 7) rfl 27 _ _ rfl (l0.length : Int) rfl rfl Try.underlying27 (.agg #[(.int .u64 0), (.int .u64 0), (.int .u64 0), (.int .u64 0), (.int .i64 0)]) 40 info53 rfl (by decide) (by omega) z53 (ok := fun _ => True) (okp := fun _ => True) (k53_mkM _ _ _ z53 ) (fun _ hk => hk) trivial (of_decide_eq_true u3_3) (Nat.le_trans (Nat.mul_le_mul_right _ (of_decide_eq_true u3_3 : (l0.length : Int).toNat ≤ 7036874417766)) (by omega)) (Below.refl _ _) (Nat.le_refl _) ?_; intro v111 w4 ho5 hb hg_ hnew_; clear hg_ hnew_; (first | rw [← Ny110.out] at ho5 | (simp only [Int.reduceToNat] at ho5; rw [← Ny110.out] at ho5)); have n0_ := Aside0.mk (Kd.R_lower ho5 (below_size u3_2)); have n1_ := Aside0.mk (below_step u3_2 hb); clear HB; have HO112 := n0_; have HB := n1_; clear n0_ n1_; clear hb ho5))
      go_loopg [4] k (fun kq v4 w' => ∃ (x3_1 : List (S53)) (x4_1 : Int), v4 = .int .i64 x4_1 ∧ Aside0 (laws_toAccountS.l0 kq l0 x3_1 x4_1 = some r) ∧ Aside0 (kq ≤ k) ∧ Aside0 (Kd.R k53 53 w' w.heap.size (fun _ => True) v111 x3_1) ∧ Aside0 (Below w.heap.size w w'))
      case atStart => exact ⟨(y110), (0), u3_24, H', ⟨Nat.le_refl _⟩, ⟨by (with_reducible repeat (first | apply Kd.R_alloc | apply Kd.R_drewN | apply Kd.R_drew)); exact HO112.out⟩, ⟨by repeat (first | (with_reducible first | exact HB.out | apply below_alloc | apply pw_below_drewN | apply below_drew1) | exact HB.out)⟩⟩
      case round =>
        clear H'
        try clear c2
        try clear c2b0
        try clear c2b1
        try clear p2
        try clear c3
        try clear c3b0
        try clear c3b1
        try clear c4
        obtain ⟨x3_1, x4_1, rfl, HA, HK1, HO_3, HB⟩ := hrel
        cases gk with
        | zero => exact absurd HA.out (by simp [laws_toAccountS.l0])
        | succ k1 =>
          have H := HA.out
          clear HA
          simp only [laws_toAccountS.l0] at H
          by_cases c6 : x4_1 < (l0.length : Int)
          · rw [if_pos c6] at H
            have c6b0 : decide (x4_1 < (l0.length : Int)) = true := decide_eq_true c6
            clear c6
            by_cases c7 : 0 ≤ x4_1
            · rw [if_pos c7] at H
              have c7b0 : decide (0 ≤ x4_1) = true := decide_eq_true c7
              clear c7
              replace H := Option.bind_eq_some_iff.mp H
              obtain ⟨⟨t114, t115, t116, t117, t118⟩, A80, H⟩ := H
              replace H : (if x4_1 < (x3_1.length : Int) then (laws_toAccountS.l0 k1 l0 (x3_1.set (x4_1 : Int).toNat (⟨t114, t115, t116, t117, t118⟩ : S53)) (wrap64 (x4_1 + 1))) else (none)) = some r := H
              have A8 := Aside0.mk A80
              clear A80
              by_cases c9 : x4_1 < (x3_1.length : Int)
              · rw [if_pos c9] at H
                have c9b0 : decide (x4_1 < (x3_1.length : Int)) = true := decide_eq_true c9
                clear c9
                obtain ⟨y119, hy119⟩ : ∃ y_ : List (S53), y_ = (x3_1.set (x4_1 : Int).toNat (⟨t114, t115, t116, t117, t118⟩ : S53)) := ⟨_, rfl⟩
                replace H : (laws_toAccountS.l0 k1 l0 y119 (wrap64 (x4_1 + 1))) = some r := by first | (rw [hy119]; with_reducible exact H) | (have H2_ := (Option.bind_some _ _).symm.trans H; rw [hy119]; with_reducible exact H2_) | (have H2_ := (Option.bind_some _ _).symm.trans H; with_reducible exact H2_) | with_reducible exact H | (rw [hy119]; exact H) | exact H
                have Ny119 := Aside0.mk hy119
                clear hy119
                have H' := Aside0.mk H
                clear H
                have p113 : 0 ≤ (x4_1 : Int) := of_decide_eq_true u3_3
                have q113 : x4_1 < (l0.length : Int) := of_decide_eq_true u3_3
                obtain ⟨ad113, e113, hx113_0, hx113_1, hx113_2, hx113_3, hx113_4⟩ := at_T77 HR0.out x4_1 p113 q113
                cases e113
                replace hx113_0 := (HB.out.cell (World.block_lt_of_cell? w _ hx113_0)).trans hx113_0
                replace hx113_1 := (HB.out.cell (World.block_lt_of_cell? w _ hx113_1)).trans hx113_1
                replace hx113_2 := (HB.out.cell (World.block_lt_of_cell? w _ hx113_2)).trans hx113_2
                replace hx113_3 := (HB.out.cell (World.block_lt_of_cell? w _ hx113_3)).trans hx113_3
                replace hx113_4 := (HB.out.cell (World.block_lt_of_cell? w _ hx113_4)).trans hx113_4
                replace p113 := eq_true p113
                replace q113 := eq_true q113
                go_wp2_with (first | ((with_reducible refine gate_callee (f := 75) rfl ?_); refine goesL_ (some 20) rfl rfl Try.func75 (by kernel_rfl) rfl #[.agg #[.int .u64 ((rd_T77 l0 x4_1).f0), .int .u64 ((rd_T77 l0 x4_1).f1), .int .u64 ((rd_T77 l0 x4_1).f2), .int .u64 ((rd_T77 l0 x4_1).f3), .int .i64 ((rd_T77 l0 x4_1).f4)]] rfl u3_23 ?_; (with_reducible refine (laws_toAccount.calls ((rd_T77 l0 x4_1).f0) ((rd_T77 l0 x4_1).f1) ((rd_T77 l0 x4_1).f2) ((rd_T77 l0 x4_1).f3) ((rd_T77 l0 x4_1).f4) t114 t115 t116 t117 t118 _ A8.out).mono ?_); rintro e w11 ⟨rfl, hb⟩; refine ⟨_, rfl, ?_⟩; have n0_ := Aside0.mk (Kd.R_below u3_27 hb); have n1_ := Aside0.mk (below_step u3_2 hb); clear HO_3; clear HB; have HO_3 := n0_; have HB := n1_; clear n0_ n1_; (try clear hb); (try clear hb2); (try clear hk); (try clear hi); have p10 : 0 ≤ (x4_1 : Int) := of_decide_eq_true u3_3; have q10 : (x4_1 : Int) < ((x3_1.length : Int) : Int) := of_decide_eq_true u3_3; obtain ⟨go10, co10, eo10, gb10, gl10, cl10, HG10⟩ := Kd.R_form HO_3.out (by omega); (first | cases eo10 | (injection eo10 with ea_ en_ ec_; (first | subst ea_ | (injection ea_ with ea_; subst ea_)); subst ec_; clear en_)); have GB10 := Aside0.mk gb10; have GG10 := Aside0.mk HG10; clear gb10 gl10 HG10; obtain ⟨ce10, hcl10, hM10, hcc10, hfr10⟩ := Kd.R_elem HO_3.out z53 (x4_1 : Int) p10 q10; obtain rfl := k53_openM hM10; have hx10_0 : w11.cell? ⟨go10, (x4_1 : Int).toNat * 5, none⟩ = some (.int .u64 ((rd_T53 x3_1 x4_1).f0)) := hcc10 0 _ rfl; have hx10_1 : w11.cell? ⟨go10, (x4_1 : Int).toNat * 5 + 1, none⟩ = some (.int .u64 ((rd_T53 x3_1 x4_1).f1)) := hcc10 1 _ rfl; have hx10_2 : w11.cell? ⟨go10, (x4_1 : Int).toNat * 5 + 2, none⟩ = some (.int .u64 ((rd_T53 x3_1 x4_1).f2)) := hcc10 2 _ rfl; have hx10_3 : w11.cell? ⟨go10, (x4_1 : Int).toNat * 5 + 3, none⟩ = some (.int .u64 ((rd_T53 x3_1 x4_1).f3)) := hcc10 3 _ rfl; have hx10_4 : w11.cell? ⟨go10, (x4_1 : Int).toNat * 5 + 4, none⟩ = some (.int .i64 ((rd_T53 x3_1 x4_1).f4)) := hcc10 4 _ rfl; have hf10_0 : w11.frozen? ⟨go10, (x4_1 : Int).toNat * 5, none⟩ = false := hfr10 0; have hf10_1 : w11.frozen? ⟨go10, (x4_1 : Int).toNat * 5 + 1, none⟩ = false := hfr10 1; have hf10_2 : w11.frozen? ⟨go10, (x4_1 : Int).toNat * 5 + 2, none⟩ = false := hfr10 2; have hf10_3 : w11.frozen? ⟨go10, (x4_1 : Int).toNat * 5 + 3, none⟩ = false := hfr10 3; have hf10_4 : w11.frozen? ⟨go10, (x4_1 : Int).toNat * 5 + 4, none⟩ = false := hfr10 4; clear hcl10 hcc10 hfr10 hM10; replace p10 := eq_true p10; replace q10 := eq_true q10; have HX12 := Aside0.mk (show Kd.R k53 53 w11 w.heap.size (fun _ => True) (.slice (some ⟨go10, 0, none⟩) x3_1.length co10) x3_1 from u3_27); obtain ⟨ce12, hcl12, hM12, hcc12, hfr12⟩ := Kd.R_elem HX12.out z53 (x4_1 : Int) (of_decide_eq_true u3_3) (by have h_ : (x4_1 : Int) < ((x3_1.length : Int) : Int) := of_decide_eq_true u3_3; first | exact h_ | (have e_ := (Kd.R_reads' HO_3.out).1; omega) | simpa using h_); obtain rfl := k53_openM hM12; have HP12 := Kd.R_seg HX12.out (x4_1 : Int) (of_decide_eq_true u3_3) (by have h_ : (x4_1 : Int) < ((x3_1.length : Int) : Int) := of_decide_eq_true u3_3; first | exact h_ | (have e_ := (Kd.R_reads' HO_3.out).1; omega) | simpa using h_) (seg := [.int .u64 t114, .int .u64 t115, .int .u64 t116, .int .u64 t117, .int .i64 t118]) (j := 0) hcl12 hcc12 (show 5 ≤ 5 from by decide) (x' := (⟨t114, t115, t116, t117, t118⟩ : S53)) (k53_mkM _ _ _ (⟨t114, t115, t116, t117, t118⟩ : S53) ) (fun _ hk => hk); have hx12_0 := hcc12 0 _ rfl; (try simp only [show (k53).sz = 5 from rfl, Nat.mul_one, Nat.add_zero] at hx12_0); have hf12_0 := hfr12 0; (try simp only [show (k53).sz = 5 from rfl, Nat.mul_one, Nat.add_zero] at hf12_0); have hx12_1 := hcc12 1 _ rfl; (try simp only [show (k53).sz = 5 from rfl, Nat.mul_one, Nat.add_zero] at hx12_1); have hf12_1 := hfr12 1; (try simp only [show (k53).sz = 5 from rfl, Nat.mul_one, Nat.add_zero] at hf12_1); have hx12_2 := hcc12 2 _ rfl; (try simp only [show (k53).sz = 5 from rfl, Nat.mul_one, Nat.add_zero] at hx12_2); have hf12_2 := hfr12 2; (try simp only [show (k53).sz = 5 from rfl, Nat.mul_one, Nat.add_zero] at hf12_2); have hx12_3 := hcc12 3 _ rfl; (try simp only [show (k53).sz = 5 from rfl, Nat.mul_one, Nat.add_zero] at hx12_3); have hf12_3 := hfr12 3; (try simp only [show (k53).sz = 5 from rfl, Nat.mul_one, Nat.add_zero] at hf12_3); have hx12_4 := hcc12 4 _ rfl; (try simp only [show (k53).sz = 5 from rfl, Nat.mul_one, Nat.add_zero] at hx12_4); have hf12_4 := hfr12 4; (try simp only [show (k53).sz = 5 from rfl, Nat.mul_one, Nat.add_zero] at hf12_4); clear hcl12 hcc12 hfr12 hM12) | ((with_reducible refine gate_store (t := 53) (p := 21) rfl ?_); refine store_event (t := 53) (p := 21) (v := ?vo_w13) (w1 := (((((w11.setCell ⟨go10, (x4_1 : Int).toNat * 5, none⟩ (.int .u64 t114)).setCell ⟨go10, (x4_1 : Int).toNat * 5 + 1, none⟩ (.int .u64 t115)).setCell ⟨go10, (x4_1 : Int).toNat * 5 + 2, none⟩ (.int .u64 t116)).setCell ⟨go10, (x4_1 : Int).toNat * 5 + 3, none⟩ (.int .u64 t117)).setCell ⟨go10, (x4_1 : Int).toNat * 5 + 4, none⟩ (.int .i64 t118))) ?hg ?ho ?hn ?hr ?_; (case ho => rfl); (case hg => rfl); (case hn => rfl); (case hr => first | (go_simp; done) | (go_simp; rfl)); intro w13 hw; have hg : w11.grownBy w13 (some go10) := (by rw [hw]; exact HP12.2); have hp_ : Kd.R k53 53 w13 w.heap.size (fun _ => True) (.slice (some ⟨go10, 0, none⟩) x3_1.length co10) y119 := (by rw [hw, Ny119.out]; exact HP12.1); clear HP12; have n0_ := Aside0.mk (hp_); have n1_ := Aside0.mk ((by rw [hw]; exact below_set (below_set (below_set (below_set (below_set (HB.out) GB10.out) GB10.out) GB10.out) GB10.out) GB10.out : Below w.heap.size w w13)); clear HO_3; clear HB; have HO_3 := n0_; have HB := n1_; clear n0_ n1_; clear hg hw hp_))
                go_roundg k1
                case measure => have := HK1.out; omega
                case rel => exact ⟨(y119), (wrap64 (x4_1 + 1)), u3_24, H', ⟨by have := HK1.out; omega⟩, ⟨by (with_reducible repeat (first | apply Kd.R_alloc | apply Kd.R_drewN | apply Kd.R_drew)); exact HO_3.out⟩, ⟨by repeat (first | (with_reducible first | exact HB.out | apply below_alloc | apply pw_below_drewN | apply below_drew1) | exact HB.out)⟩⟩
              · rw [if_neg c9] at H
                exact absurd H (by simp)
            · rw [if_neg c7] at H
              exact absurd H (by simp)
          · rw [if_neg c6] at H
            have c6b0 : decide (x4_1 < (l0.length : Int)) = false := decide_eq_false c6
            clear c6
            obtain rfl := Option.some.inj H
            go_wp2
            go_ret
            exact ⟨_, by first | rfl | (simp [errW_none, errW_some] <;> rfl) | (simp [*, errW_none, errW_some] <;> rfl), by (with_reducible repeat (first | apply Kd.R_alloc | apply Kd.R_drewN | apply Kd.R_drew)); exact HO_3.out, by repeat (first | (with_reducible first | exact HB.out | apply below_alloc | apply pw_below_drewN | apply below_drew1) | exact HB.out)⟩
    · rw [if_neg c3] at H
      exact absurd H (by simp)
  · rw [if_neg c2] at H
    exact absurd H (by simp)

/-! ### laws_toBook: function 19 -/
def laws_toBook.f (k : Nat) (l0_0 : List (S77)) : Option ((List (S53))) := (laws_toAccountS.f k l0_0).bind fun t123 => (some t123)
theorem laws_toBook.mono : ∀ a0 k, LeO (laws_toBook.f k a0) (laws_toBook.f (k + 1) a0) := by
  intro a0 k
  unfold laws_toBook.f
  repeat' first
      | (with_reducible exact laws_toAccountS.mono _ _)
      | (with_reducible exact LeO.refl _)
      | (with_reducible exact LeO.none _)
      | (with_reducible refine LeO.ite ?_ ?_)
      | (with_reducible refine LeO.bind ?_ (fun _ => ?_))
      | exact laws_toAccountS.mono _ _
      | exact LeO.none _
      | refine LeO.ite ?_ ?_
      | refine LeO.bind ?_ (fun _ => ?_)
set_option maxHeartbeats 8000000 in
set_option maxRecDepth 100000 in
theorem laws_toBook.calls (k : Nat) (A0_0 : Option Addr) (c0_0 : Nat) (l0_0 : List (S77)) (r : List (S53)) (w : World) (hr0_0 : Kd.C k77 w A0_0 l0_0.length l0_0) (hc0_0 : l0_0.length ≤ c0_0) (h : laws_toBook.f k l0_0 = some r) :
    Calls Try.prog 19 #[.agg #[.slice A0_0 l0_0.length c0_0]] w fun e w' => ∃ v0_ : Value, e = .returned (.agg #[v0_]) ∧ Kd.R k53 53 w' w.heap.size (fun _ => True) v0_ r ∧ Below w.heap.size w w' := by
  have hu24 := Try.underlying24
  have hu29 := Try.underlying29
  have HR0_0 := Aside0.mk hr0_0
  have HC0_0 := Aside0.mk hc0_0
  clear hr0_0 hc0_0
  have HB := Aside0.mk (Below.refl w.heap.size w)
  have H : ((laws_toAccountS.f k l0_0).bind fun t123 => (some t123)) = some r := h
  clear h
  replace H := Option.bind_eq_some_iff.mp H
  obtain ⟨t123, A20, H⟩ := H
  replace H : (some t123) = some r := H
  have A2 := Aside0.mk A20
  clear A20
  obtain rfl := Option.some.inj H
  go_enter Try.func19, Try.ntmps19
  go_wp2_with (first | ((with_reducible refine gate_dst (N := 1) rfl ?_); refine box_event ?hg (N := 1) ?hd (cs := #[.slice A0_0 l0_0.length c0_0]) (t := 24) ?hr ?_; (case hd => rfl); (case hg => rfl); (case hr => first | (go_simp; done) | (go_simp; rfl)); intro gb120 hg w3 hbox hb; have n0_ := Aside0.mk (below_step u3_2 hb); have n1_ := Aside0.mk (hbox); have n2_ := Aside0.mk ((by rw [hg]; exact (below_size u3_2) : w.heap.size ≤ gb120)); have n3_ := Aside0.mk ((by rw [hg]; exact (below_size u3_2) : w.heap.size ≤ gb120)); clear HB; have HB := n0_; have BK120 := n1_; have GW120 := n2_; have GE120 := n3_; clear n0_ n1_ n2_ n3_; clear hb hbox hg) | ((with_reducible refine gate_dst (N := 2) rfl ?_); refine box_event ?hg (N := 2) ?hd (cs := #[.slice none 0 0]) (t := 29) ?hr ?_; (case hd => rfl); (case hg => rfl); (case hr => first | (go_simp; done) | (go_simp; rfl)); intro gb121 hg w4 hbox hb; have n0_ := Aside0.mk (blk_below (g := gb120) (o := .cells #[.slice A0_0 l0_0.length c0_0] 24 (0, 0)) u3_16 hb); have n1_ := Aside0.mk (below_step u3_22 hb); have n2_ := Aside0.mk (hbox); have n3_ := Aside0.mk ((by rw [hg]; exact (below_size u3_22) : w.heap.size ≤ gb121)); have n4_ := Aside0.mk ((by rw [hg]; exact (below_size u3_22) : w.heap.size ≤ gb121)); have n5_ := Aside0.mk ((by rw [hg]; exact Nat.ne_of_lt (blk_lt (g := gb120) (o := .cells #[.slice A0_0 l0_0.length c0_0] 24 (0, 0)) u3_16) : gb120 ≠ gb121)); have n6_ := Aside0.mk ((by rw [hg]; exact Nat.ne_of_gt (blk_lt (g := gb120) (o := .cells #[.slice A0_0 l0_0.length c0_0] 24 (0, 0)) u3_16) : gb121 ≠ gb120)); clear BK120; clear HB; have BK120 := n0_; have HB := n1_; have BK121 := n2_; have GW121 := n3_; have GE121 := n4_; have NB120_121 := n5_; have NB121_120 := n6_; clear n0_ n1_ n2_ n3_ n4_ n5_ n6_; clear hb hbox hg) | ((with_reducible refine gate_dst (N := 3) rfl ?_); refine box_event ?hg (N := 3) ?hd (cs := #[.slice none 0 0]) (t := 29) ?hr ?_; (case hd => rfl); (case hg => rfl); (case hr => first | (go_simp; done) | (go_simp; rfl)); intro gb122 hg w5 hbox hb; have n0_ := Aside0.mk (blk_below (g := gb120) (o := .cells #[.slice A0_0 l0_0.length c0_0] 24 (0, 0)) u3_16 hb); have n1_ := Aside0.mk (blk_below (g := gb121) (o := .cells #[.slice none 0 0] 29 (0, 0)) u3_20 hb); have n2_ := Aside0.mk (below_step u3_19 hb); have n3_ := Aside0.mk (hbox); have n4_ := Aside0.mk ((by rw [hg]; exact (below_size u3_19) : w.heap.size ≤ gb122)); have n5_ := Aside0.mk ((by rw [hg]; exact (below_size u3_19) : w.heap.size ≤ gb122)); have n6_ := Aside0.mk ((by rw [hg]; exact Nat.ne_of_lt (blk_lt (g := gb120) (o := .cells #[.slice A0_0 l0_0.length c0_0] 24 (0, 0)) u3_16) : gb120 ≠ gb122)); have n7_ := Aside0.mk ((by rw [hg]; exact Nat.ne_of_gt (blk_lt (g := gb120) (o := .cells #[.slice A0_0 l0_0.length c0_0] 24 (0, 0)) u3_16) : gb122 ≠ gb120)); have n8_ := Aside0.mk ((by rw [hg]; exact Nat.ne_of_lt (blk_lt (g := gb121) (o := .cells #[.slice none 0 0] 29 (0, 0)) u3_20) : gb121 ≠ gb122)); have n9_ := Aside0.mk ((by rw [hg]; exact Nat.ne_of_gt (blk_lt (g := gb121) (o := .cells #[.slice none 0 0] 29 (0, 0)) u3_20) : gb122 ≠ gb121)); clear BK120; clear BK121; clear HB; have BK120 := n0_; have BK121 := n1_; have HB := n2_; have BK122 := n3_; have GW122 := n4_; have GE122 := n5_; have NB120_122 := n6_; have NB122_120 := n7_; have NB121_122 := n8_; have NB122_121 := n9_; clear n0_ n1_ n2_ n3_ n4_ n5_ n6_ n7_ n8_ n9_; clear hb hbox hg; have hnb6 := NB120_121.out; have hnc6 := NB121_120.out; have hnb7 := NB120_122.out; have hnc7 := NB122_120.out; have hcz8_0 : w5.cell? ⟨gb120, 0, none⟩ = some (.slice A0_0 l0_0.length c0_0) := (blk_cell BK120.out 0).trans rfl; have hfz8_0 := blk_frozen BK120.out 0) | ((with_reducible refine gate_callee (f := 49) rfl ?_); refine goesL_ (some 6) rfl rfl Try.func49 (by kernel_rfl) rfl #[.slice A0_0 l0_0.length c0_0] rfl u3_23 ?_; (with_reducible refine (laws_toAccountS.calls k _ _ l0_0 t123 _ ?side1 ?side2 A2.out).mono ?_); (case side1 => repeat (first | exact (Kd.C_below HR0_0.out HB.out) | (with_reducible refine Kd.C_alloc ?_ _) | (with_reducible refine Kd.C_drewN ?_ _) | (with_reducible refine Kd.C_drew ?_))); (case side2 => exact HC0_0.out); rintro e w9 ⟨v124, rfl, ho0, hb⟩; refine ⟨_, rfl, ?_⟩; have n0_ := Aside0.mk (Kd.R_lower ho0 (below_size u3_26)); have n1_ := Aside0.mk (blk_below (g := gb120) (o := .cells #[.slice A0_0 l0_0.length c0_0] 24 (0, 0)) u3_16 hb); have n2_ := Aside0.mk (blk_below (g := gb121) (o := .cells #[.slice none 0 0] 29 (0, 0)) u3_20 hb); have n3_ := Aside0.mk (blk_below (g := gb122) (o := .cells #[.slice none 0 0] 29 (0, 0)) (by (with_reducible repeat (first | refine blk_drewN ?_ _ | refine blk_drew ?_ | refine blk_alloc ?_ _)); exact BK122.out) hb); have n4_ := Aside0.mk (below_step u3_26 hb); clear BK120; clear BK121; clear BK122; clear HB; have HO125 := n0_; have BK120 := n1_; have BK121 := n2_; have BK122 := n3_; have HB := n4_; clear n0_ n1_ n2_ n3_ n4_; (try clear hb); (try clear hb2); (try clear hk); (try clear hi); (try clear ho0); obtain ⟨Ao10, co10, eo10⟩ := Kd.R_slice HO125.out; subst eo10; have hnb11 := NB122_121.out; have hnc11 := NB121_122.out; have hcz12_0 : w9.cell? ⟨gb122, 0, none⟩ = some (.slice none 0 0) := (blk_cell BK122.out 0).trans rfl; have hfz12_0 := blk_frozen BK122.out 0; have hcz13_0 : w9.cell? ⟨gb121, 0, none⟩ = some (.slice none 0 0) := (blk_cell BK121.out 0).trans rfl; have hfz13_0 := blk_frozen BK121.out 0))
  refine bodyPost_ret (results_cell_row rfl _ _ gb121 29 #[.slice Ao10 t123.length co10] (0, 0) _ rfl (by (with_reducible repeat (first | refine blk_drewN ?_ _ | refine blk_drew ?_ | refine blk_alloc ?_ _)); refine blk_put (cs := #[.slice none 0 0]) ?_ 0 _ rfl; (with_reducible repeat (first | refine blk_drewN ?_ _ | refine blk_drew ?_ | refine blk_alloc ?_ _)); refine blk_far ?_ NB121_122.out _; (with_reducible repeat (first | refine blk_drewN ?_ _ | refine blk_drew ?_ | refine blk_alloc ?_ _)); exact BK121.out) Try.underlying29 rfl (by kernel_rfl)) rfl ?_
  exact ⟨_, by first | rfl | (simp [errW_none, errW_some] <;> rfl) | (simp [*, errW_none, errW_some] <;> rfl), by (with_reducible repeat (first | apply Kd.R_alloc | apply Kd.R_drewN | apply Kd.R_drew)); exact Kd.R_mono (Kd.R_far (p := ⟨gb121, 0, none⟩) (Kd.R_far (p := ⟨gb122, 0, none⟩) (Kd.R_types (Kd.R_types HO125.out BK122.out (by decide)) BK121.out (by decide)) (fun _ hk => hk.1.2) (.slice Ao10 t123.length co10)) (fun _ hk => hk.2) (.slice Ao10 t123.length co10)) (fun _ hk => trivial), by repeat (first | (with_reducible first | exact HB.out | apply below_alloc | apply pw_below_drewN | apply below_drew1 | refine below_set ?_ GE120.out | refine below_set ?_ GE121.out | refine below_set ?_ GE122.out) | exact HB.out)⟩

-- NOT PRINTED: function 76 (bits_Add64)

/-! ### impl_isBook: function 50 -/
def impl_isBook.l0 : Nat → List (S53) → Int → Int → List (S53) → Option (Bool)
  | 0, _, _, _, _ => none
  | k + 1, x10, x11, x12, x127000 => if x12 < x11 then (if 0 ≤ x12 then (if x12 < (x10.length : Int) then (if 0 ≤ ((rd_T53 x10 x12).f1) then (if 0 ≤ ((rd_T53 x10 x12).f2) then (if 0 ≤ (IntKind.u64.wrap (((rd_T53 x10 x12).f1) + ((rd_T53 x10 x12).f2))) then (if 0 ≤ ((rd_T53 x10 x12).f3) then (if (IntKind.u64.wrap (((((rd_T53 x10 x12).f1) + ((rd_T53 x10 x12).f2)) / 18446744073709551616) + (((IntKind.u64.wrap (((rd_T53 x10 x12).f1) + ((rd_T53 x10 x12).f2))) + ((rd_T53 x10 x12).f3)) / 18446744073709551616))) > 0 then (some false) else (if ((rd_T53 x10 x12).f4) < 0 then (some false) else (if ((rd_T53 x10 x12).f4) = 0 then (if ((rd_T53 x10 x12).f2) = 0 then (if ((rd_T53 x10 x12).f3) = 0 then (if x12 > 0 then (if 0 ≤ (wrap64 (x12 - 1)) then (if (wrap64 (x12 - 1)) < (x127000.length : Int) then (if ((rd_T53 x127000 (wrap64 (x12 - 1))).f0) ≥ ((rd_T53 x10 x12).f0) then (some false) else (impl_isBook.l0 k x10 x11 (wrap64 (x12 + 1)) x127000)) else (none)) else (none)) else (impl_isBook.l0 k x10 x11 (wrap64 (x12 + 1)) x127000)) else (some false)) else (some false)) else (if x12 > 0 then (if 0 ≤ (wrap64 (x12 - 1)) then (if (wrap64 (x12 - 1)) < (x127000.length : Int) then (if ((rd_T53 x127000 (wrap64 (x12 - 1))).f0) ≥ ((rd_T53 x10 x12).f0) then (some false) else (impl_isBook.l0 k x10 x11 (wrap64 (x12 + 1)) x127000)) else (none)) else (none)) else (impl_isBook.l0 k x10 x11 (wrap64 (x12 + 1)) x127000))))) else (none)) else (none)) else (none)) else (none)) else (none)) else (none)) else (some (decide ((x127000.length : Int) ≤ 40)))
def impl_isBook.f (k : Nat) (l0_0 : List (S53)) : Option (Bool) := impl_isBook.l0 k l0_0 (l0_0.length : Int) 0 l0_0
theorem impl_isBook.mono_l : ∀ k, (∀ y0 y1 y2 y3, LeO (impl_isBook.l0 k y0 y1 y2 y3) (impl_isBook.l0 (k + 1) y0 y1 y2 y3))
  | 0 => fun _ _ _ _ r h => by simp [impl_isBook.l0] at h
  | k + 1 => by
    have ih0 := impl_isBook.mono_l k
    · intro y0 y1 y2 y3
      unfold impl_isBook.l0
      repeat' first
      | (with_reducible exact ih0 _ _ _ _)
      | (with_reducible exact LeO.refl _)
      | (with_reducible exact LeO.none _)
      | (with_reducible refine LeO.ite ?_ ?_)
      | (with_reducible refine LeO.bind ?_ (fun _ => ?_))
      | exact ih0 _ _ _ _
      | exact LeO.none _
      | refine LeO.ite ?_ ?_
      | refine LeO.bind ?_ (fun _ => ?_)
theorem impl_isBook.mono : ∀ a0 k, LeO (impl_isBook.f k a0) (impl_isBook.f (k + 1) a0) := by
  intro a0 k
  have ih0 := impl_isBook.mono_l k
  unfold impl_isBook.f
  repeat' first
      | (with_reducible exact ih0 _ _ _ _)
      | (with_reducible exact LeO.refl _)
      | (with_reducible exact LeO.none _)
      | (with_reducible refine LeO.ite ?_ ?_)
      | (with_reducible refine LeO.bind ?_ (fun _ => ?_))
      | exact ih0 _ _ _ _
      | exact LeO.none _
      | refine LeO.ite ?_ ?_
      | refine LeO.bind ?_ (fun _ => ?_)
set_option maxHeartbeats 8000000 in
set_option maxRecDepth 100000 in
theorem impl_isBook.calls (k : Nat) (A0_0 : Option Addr) (c0_0 : Nat) (l0_0 : List (S53)) (r : Bool) (w : World) (hr0_0 : Kd.C k53 w A0_0 l0_0.length l0_0) (hc0_0 : l0_0.length ≤ c0_0) (h : impl_isBook.f k l0_0 = some r) :
    Calls Try.prog 50 #[.agg #[.slice A0_0 l0_0.length c0_0]] w fun e w' => e = .returned (.bool r) ∧ Below w.heap.size w w' := by
  have hu29 := Try.underlying29
  have hu53 := Try.underlying53
  have HR0_0 := Aside0.mk hr0_0
  have HC0_0 := Aside0.mk hc0_0
  clear hr0_0 hc0_0
  have HB := Aside0.mk (Below.refl w.heap.size w)
  have H : (impl_isBook.l0 k l0_0 (l0_0.length : Int) 0 l0_0) = some r := h
  clear h
  have H' := Aside0.mk H
  clear H
  go_enter Try.func50, Try.ntmps50
  go_wp2_with (first | (first | ((with_reducible refine gate_dst (N := 1) rfl ?_); refine box_event ?hg (N := 1) ?hd (cs := #[.slice A0_0 l0_0.length c0_0]) (t := 29) ?hr ?_; (case hd => rfl); (case hg => rfl); (case hr => first | (go_simp; done) | (go_simp; rfl)); intro gb126 hg w2 hbox hb; have n0_ := Aside0.mk (below_step u3_2 hb); have n1_ := Aside0.mk (hbox); have n2_ := Aside0.mk ((by rw [hg]; exact (below_size u3_2) : w.heap.size ≤ gb126)); have n3_ := Aside0.mk ((by rw [hg]; exact (below_size u3_2) : w.heap.size ≤ gb126)); clear HB; have HB := n0_; have BK126 := n1_; have GW126 := n2_; have GE126 := n3_; clear n0_ n1_ n2_ n3_; clear hb hbox hg; have hcz3_0 : w2.cell? ⟨gb126, 0, none⟩ = some (.slice A0_0 l0_0.length c0_0) := (blk_cell BK126.out 0).trans rfl; have hfz3_0 := blk_frozen BK126.out 0)) | go_quiet (fail))
  go_loopg [12] k (fun kq v12 w' => ∃ (x12_1 : Int), v12 = .int .i64 x12_1 ∧ Aside0 (impl_isBook.l0 kq l0_0 (l0_0.length : Int) x12_1 l0_0 = some r) ∧ Aside0 (kq ≤ k) ∧ Aside0 (w'.heap[gb126]? = some (.cells #[(.slice A0_0 l0_0.length c0_0)] 29 (0, 0))) ∧ Aside0 (Below w.heap.size w w'))
  case atStart => exact ⟨(0), u3_24, H', ⟨Nat.le_refl _⟩, ⟨by (with_reducible repeat (first | refine blk_drewN ?_ _ | refine blk_drew ?_ | refine blk_alloc ?_ _)); exact BK126.out⟩, ⟨by repeat (first | (with_reducible first | exact HB.out | apply below_alloc | apply pw_below_drewN | apply below_drew1 | refine below_set ?_ GE126.out) | exact HB.out)⟩⟩
  case round =>
    clear H'
    try clear p2
    try clear hcz3_0
    try clear hfz3_0
    obtain ⟨x12_1, rfl, HA, HK1, BK126, HB⟩ := hrel
    cases gk with
    | zero => exact absurd HA.out (by simp [impl_isBook.l0])
    | succ k1 =>
      have H := HA.out
      clear HA
      simp only [impl_isBook.l0] at H
      by_cases c4 : x12_1 < (l0_0.length : Int)
      · rw [if_pos c4] at H
        have c4b0 : decide (x12_1 < (l0_0.length : Int)) = true := decide_eq_true c4
        clear c4
        by_cases c5 : 0 ≤ x12_1
        · rw [if_pos c5] at H
          have c5b0 : decide (0 ≤ x12_1) = true := decide_eq_true c5
          clear c5
          by_cases c6 : x12_1 < (l0_0.length : Int)
          · rw [if_pos c6] at H
            have c6b0 : decide (x12_1 < (l0_0.length : Int)) = true := decide_eq_true c6
            clear c6
            by_cases c7 : 0 ≤ ((rd_T53 l0_0 x12_1).f1)
            · rw [if_pos c7] at H
              have c7b0 := eq_true c7
              have c7b1 : decide (0 ≤ ((rd_T53 l0_0 x12_1).f1)) = true := decide_eq_true c7
              clear c7
              by_cases c8 : 0 ≤ ((rd_T53 l0_0 x12_1).f2)
              · rw [if_pos c8] at H
                have c8b0 := eq_true c8
                have c8b1 : decide (0 ≤ ((rd_T53 l0_0 x12_1).f2)) = true := decide_eq_true c8
                clear c8
                obtain ⟨ji9, hji9⟩ : ∃ j_ : Int, (IntKind.u64.wrap (((rd_T53 l0_0 x12_1).f1) + ((rd_T53 l0_0 x12_1).f2))) = j_ := ⟨_, rfl⟩
                replace H : (if 0 ≤ (ji9) then (if 0 ≤ ((rd_T53 l0_0 x12_1).f3) then (if (IntKind.u64.wrap (((((rd_T53 l0_0 x12_1).f1) + ((rd_T53 l0_0 x12_1).f2)) / 18446744073709551616) + (((ji9) + ((rd_T53 l0_0 x12_1).f3)) / 18446744073709551616))) > 0 then (some false) else (if ((rd_T53 l0_0 x12_1).f4) < 0 then (some false) else (if ((rd_T53 l0_0 x12_1).f4) = 0 then (if ((rd_T53 l0_0 x12_1).f2) = 0 then (if ((rd_T53 l0_0 x12_1).f3) = 0 then (if x12_1 > 0 then (if 0 ≤ (wrap64 (x12_1 - 1)) then (if (wrap64 (x12_1 - 1)) < (l0_0.length : Int) then (if ((rd_T53 l0_0 (wrap64 (x12_1 - 1))).f0) ≥ ((rd_T53 l0_0 x12_1).f0) then (some false) else (impl_isBook.l0 k1 l0_0 (l0_0.length : Int) (wrap64 (x12_1 + 1)) l0_0)) else (none)) else (none)) else (impl_isBook.l0 k1 l0_0 (l0_0.length : Int) (wrap64 (x12_1 + 1)) l0_0)) else (some false)) else (some false)) else (if x12_1 > 0 then (if 0 ≤ (wrap64 (x12_1 - 1)) then (if (wrap64 (x12_1 - 1)) < (l0_0.length : Int) then (if ((rd_T53 l0_0 (wrap64 (x12_1 - 1))).f0) ≥ ((rd_T53 l0_0 x12_1).f0) then (some false) else (impl_isBook.l0 k1 l0_0 (l0_0.length : Int) (wrap64 (x12_1 + 1)) l0_0)) else (none)) else (none)) else (impl_isBook.l0 k1 l0_0 (l0_0.length : Int) (wrap64 (x12_1 + 1)) l0_0))))) else (none)) else (none)) = some r := by first | (rw [hji9] at H; exact H) | (simp only [hji9] at H ⊢; exact H)
                by_cases c10 : 0 ≤ (ji9)
                · rw [if_pos c10] at H
                  have c10b0 := eq_true c10
                  have c10b1 : decide (0 ≤ (ji9)) = true := decide_eq_true c10
                  clear c10
                  by_cases c11 : 0 ≤ ((rd_T53 l0_0 x12_1).f3)
                  · rw [if_pos c11] at H
                    have c11b0 := eq_true c11
                    have c11b1 : decide (0 ≤ ((rd_T53 l0_0 x12_1).f3)) = true := decide_eq_true c11
                    clear c11
                    by_cases c12 : (IntKind.u64.wrap (((((rd_T53 l0_0 x12_1).f1) + ((rd_T53 l0_0 x12_1).f2)) / 18446744073709551616) + (((ji9) + ((rd_T53 l0_0 x12_1).f3)) / 18446744073709551616))) > 0
                    · rw [if_pos c12] at H
                      have c12b0 : decide (0 < (IntKind.u64.wrap (((((rd_T53 l0_0 x12_1).f1) + ((rd_T53 l0_0 x12_1).f2)) / 18446744073709551616) + (((ji9) + ((rd_T53 l0_0 x12_1).f3)) / 18446744073709551616)))) = true := decide_eq_true c12
                      clear c12
                      obtain rfl := Option.some.inj H
                      have p127 : 0 ≤ (x12_1 : Int) := of_decide_eq_true u3_3
                      have q127 : x12_1 < (l0_0.length : Int) := of_decide_eq_true u3_3
                      obtain ⟨ad127, e127, hx127_0, hx127_1, hx127_2, hx127_3, hx127_4⟩ := at_T53 HR0_0.out x12_1 p127 q127
                      cases e127
                      replace hx127_0 := (HB.out.cell (World.block_lt_of_cell? w _ hx127_0)).trans hx127_0
                      replace hx127_1 := (HB.out.cell (World.block_lt_of_cell? w _ hx127_1)).trans hx127_1
                      replace hx127_2 := (HB.out.cell (World.block_lt_of_cell? w _ hx127_2)).trans hx127_2
                      replace hx127_3 := (HB.out.cell (World.block_lt_of_cell? w _ hx127_3)).trans hx127_3
                      replace hx127_4 := (HB.out.cell (World.block_lt_of_cell? w _ hx127_4)).trans hx127_4
                      replace p127 := eq_true p127
                      replace q127 := eq_true q127
                      go_wp2_with (first | (first | ((with_reducible refine gate_dst (N := 4) rfl ?_); refine box_event ?hg (N := 4) ?hd (cs := #[.int .u64 0, .int .u64 0, .int .u64 0, .int .u64 0, .int .i64 0]) (t := 53) ?hr ?_; (case hd => rfl); (case hg => rfl); (case hr => first | (go_simp; done) | (go_simp; rfl)); intro gb128 hg w13 hbox hb; have n0_ := Aside0.mk (blk_below (g := gb126) (o := .cells #[.slice (some ad127) l0_0.length c0_0] 29 (0, 0)) u3_1 hb); have n1_ := Aside0.mk (below_step u3_0 hb); have n2_ := Aside0.mk (hbox); have n3_ := Aside0.mk ((by rw [hg]; exact (below_size u3_0) : w.heap.size ≤ gb128)); have n4_ := Aside0.mk ((by rw [hg]; exact (below_size u3_0) : w.heap.size ≤ gb128)); have n5_ := Aside0.mk ((by rw [hg]; exact Nat.ne_of_lt (blk_lt (g := gb126) (o := .cells #[.slice (some ad127) l0_0.length c0_0] 29 (0, 0)) u3_1) : gb126 ≠ gb128)); have n6_ := Aside0.mk ((by rw [hg]; exact Nat.ne_of_gt (blk_lt (g := gb126) (o := .cells #[.slice (some ad127) l0_0.length c0_0] 29 (0, 0)) u3_1) : gb128 ≠ gb126)); clear BK126; clear HB; have BK126 := n0_; have HB := n1_; have BK128 := n2_; have GW128 := n3_; have GE128 := n4_; have NB126_128 := n5_; have NB128_126 := n6_; clear n0_ n1_ n2_ n3_ n4_ n5_ n6_; clear hb hbox hg; have hnb14 := NB128_126.out; have hnc14 := NB126_128.out; have hcz15_0 : w13.cell? ⟨gb128, 0, none⟩ = some (.int .u64 0) := (blk_cell BK128.out 0).trans rfl; have hcz15_1 : w13.cell? ⟨gb128, 1, none⟩ = some (.int .u64 0) := (blk_cell BK128.out 1).trans rfl; have hcz15_2 : w13.cell? ⟨gb128, 2, none⟩ = some (.int .u64 0) := (blk_cell BK128.out 2).trans rfl; have hcz15_3 : w13.cell? ⟨gb128, 3, none⟩ = some (.int .u64 0) := (blk_cell BK128.out 3).trans rfl; have hcz15_4 : w13.cell? ⟨gb128, 4, none⟩ = some (.int .i64 0) := (blk_cell BK128.out 4).trans rfl; have hfz15_0 := blk_frozen BK128.out 0; have hfz15_1 := blk_frozen BK128.out 1; have hfz15_2 := blk_frozen BK128.out 2; have hfz15_3 := blk_frozen BK128.out 3; have hfz15_4 := blk_frozen BK128.out 4)) | go_quiet (fail))
                      go_ret
                      exact ⟨by first | rfl | (simp [errW_none, errW_some] <;> rfl) | (simp only [← hji9]; first | rfl | (simp [errW_none, errW_some] <;> rfl)) | (simp [*, errW_none, errW_some] <;> rfl), by repeat (first | (with_reducible first | exact HB.out | apply below_alloc | apply pw_below_drewN | apply below_drew1 | refine below_set ?_ GE126.out | refine below_set ?_ GE128.out) | exact HB.out)⟩
                    · rw [if_neg c12] at H
                      have c12b0 : decide (0 < (IntKind.u64.wrap (((((rd_T53 l0_0 x12_1).f1) + ((rd_T53 l0_0 x12_1).f2)) / 18446744073709551616) + (((ji9) + ((rd_T53 l0_0 x12_1).f3)) / 18446744073709551616)))) = false := decide_eq_false c12
                      clear c12
                      by_cases c16 : ((rd_T53 l0_0 x12_1).f4) < 0
                      · rw [if_pos c16] at H
                        have c16b0 : decide (((rd_T53 l0_0 x12_1).f4) < 0) = true := decide_eq_true c16
                        clear c16
                        obtain rfl := Option.some.inj H
                        have p127 : 0 ≤ (x12_1 : Int) := of_decide_eq_true u3_3
                        have q127 : x12_1 < (l0_0.length : Int) := of_decide_eq_true u3_3
                        obtain ⟨ad127, e127, hx127_0, hx127_1, hx127_2, hx127_3, hx127_4⟩ := at_T53 HR0_0.out x12_1 p127 q127
                        cases e127
                        replace hx127_0 := (HB.out.cell (World.block_lt_of_cell? w _ hx127_0)).trans hx127_0
                        replace hx127_1 := (HB.out.cell (World.block_lt_of_cell? w _ hx127_1)).trans hx127_1
                        replace hx127_2 := (HB.out.cell (World.block_lt_of_cell? w _ hx127_2)).trans hx127_2
                        replace hx127_3 := (HB.out.cell (World.block_lt_of_cell? w _ hx127_3)).trans hx127_3
                        replace hx127_4 := (HB.out.cell (World.block_lt_of_cell? w _ hx127_4)).trans hx127_4
                        replace p127 := eq_true p127
                        replace q127 := eq_true q127
                        go_wp2_with (first | (first | ((with_reducible refine gate_dst (N := 4) rfl ?_); refine box_event ?hg (N := 4) ?hd (cs := #[.int .u64 0, .int .u64 0, .int .u64 0, .int .u64 0, .int .i64 0]) (t := 53) ?hr ?_; (case hd => rfl); (case hg => rfl); (case hr => first | (go_simp; done) | (go_simp; rfl)); intro gb128 hg w17 hbox hb; have n0_ := Aside0.mk (blk_below (g := gb126) (o := .cells #[.slice (some ad127) l0_0.length c0_0] 29 (0, 0)) u3_1 hb); have n1_ := Aside0.mk (below_step u3_0 hb); have n2_ := Aside0.mk (hbox); have n3_ := Aside0.mk ((by rw [hg]; exact (below_size u3_0) : w.heap.size ≤ gb128)); have n4_ := Aside0.mk ((by rw [hg]; exact (below_size u3_0) : w.heap.size ≤ gb128)); have n5_ := Aside0.mk ((by rw [hg]; exact Nat.ne_of_lt (blk_lt (g := gb126) (o := .cells #[.slice (some ad127) l0_0.length c0_0] 29 (0, 0)) u3_1) : gb126 ≠ gb128)); have n6_ := Aside0.mk ((by rw [hg]; exact Nat.ne_of_gt (blk_lt (g := gb126) (o := .cells #[.slice (some ad127) l0_0.length c0_0] 29 (0, 0)) u3_1) : gb128 ≠ gb126)); clear BK126; clear HB; have BK126 := n0_; have HB := n1_; have BK128 := n2_; have GW128 := n3_; have GE128 := n4_; have NB126_128 := n5_; have NB128_126 := n6_; clear n0_ n1_ n2_ n3_ n4_ n5_ n6_; clear hb hbox hg; have hnb18 := NB128_126.out; have hnc18 := NB126_128.out; have hcz19_0 : w17.cell? ⟨gb128, 0, none⟩ = some (.int .u64 0) := (blk_cell BK128.out 0).trans rfl; have hcz19_1 : w17.cell? ⟨gb128, 1, none⟩ = some (.int .u64 0) := (blk_cell BK128.out 1).trans rfl; have hcz19_2 : w17.cell? ⟨gb128, 2, none⟩ = some (.int .u64 0) := (blk_cell BK128.out 2).trans rfl; have hcz19_3 : w17.cell? ⟨gb128, 3, none⟩ = some (.int .u64 0) := (blk_cell BK128.out 3).trans rfl; have hcz19_4 : w17.cell? ⟨gb128, 4, none⟩ = some (.int .i64 0) := (blk_cell BK128.out 4).trans rfl; have hfz19_0 := blk_frozen BK128.out 0; have hfz19_1 := blk_frozen BK128.out 1; have hfz19_2 := blk_frozen BK128.out 2; have hfz19_3 := blk_frozen BK128.out 3; have hfz19_4 := blk_frozen BK128.out 4)) | go_quiet (fail))
                        go_ret
                        exact ⟨by first | rfl | (simp [errW_none, errW_some] <;> rfl) | (simp only [← hji9]; first | rfl | (simp [errW_none, errW_some] <;> rfl)) | (simp [*, errW_none, errW_some] <;> rfl), by repeat (first | (with_reducible first | exact HB.out | apply below_alloc | apply pw_below_drewN | apply below_drew1 | refine below_set ?_ GE126.out | refine below_set ?_ GE128.out) | exact HB.out)⟩
                      · rw [if_neg c16] at H
                        have c16b0 : decide (((rd_T53 l0_0 x12_1).f4) < 0) = false := decide_eq_false c16
                        clear c16
                        by_cases c20 : ((rd_T53 l0_0 x12_1).f4) = 0
                        · rw [if_pos c20] at H
                          have c20b0 : (((rd_T53 l0_0 x12_1).f4) == 0) = true := beq_iff_eq.mpr c20
                          have c20b1 : (((rd_T53 l0_0 x12_1).f4) != 0) = false := bne_eq_false_iff_eq.mpr c20
                          clear c20
                          by_cases c21 : ((rd_T53 l0_0 x12_1).f2) = 0
                          · rw [if_pos c21] at H
                            have c21b0 : (((rd_T53 l0_0 x12_1).f2) == 0) = true := beq_iff_eq.mpr c21
                            have c21b1 : (((rd_T53 l0_0 x12_1).f2) != 0) = false := bne_eq_false_iff_eq.mpr c21
                            clear c21
                            by_cases c22 : ((rd_T53 l0_0 x12_1).f3) = 0
                            · rw [if_pos c22] at H
                              have c22b0 : (((rd_T53 l0_0 x12_1).f3) == 0) = true := beq_iff_eq.mpr c22
                              have c22b1 : (((rd_T53 l0_0 x12_1).f3) != 0) = false := bne_eq_false_iff_eq.mpr c22
                              clear c22
                              by_cases c23 : x12_1 > 0
                              · rw [if_pos c23] at H
                                have c23b0 : decide (0 < x12_1) = true := decide_eq_true c23
                                clear c23
                                obtain ⟨ji24, hji24⟩ : ∃ j_ : Int, (wrap64 (x12_1 - 1)) = j_ := ⟨_, rfl⟩
                                replace H : (if 0 ≤ (ji24) then (if (ji24) < (l0_0.length : Int) then (if ((rd_T53 l0_0 (ji24)).f0) ≥ ((rd_T53 l0_0 x12_1).f0) then (some false) else (impl_isBook.l0 k1 l0_0 (l0_0.length : Int) (wrap64 (x12_1 + 1)) l0_0)) else (none)) else (none)) = some r := by first | (rw [hji24] at H; exact H) | (simp only [hji24] at H ⊢; exact H)
                                have hji24w : (IntKind.i64.wrap (x12_1 - 1)) = ji24 := (i64_w _).trans hji24
                                by_cases c25 : 0 ≤ (ji24)
                                · rw [if_pos c25] at H
                                  have c25b0 : decide (0 ≤ (ji24)) = true := decide_eq_true c25
                                  clear c25
                                  by_cases c26 : (ji24) < (l0_0.length : Int)
                                  · rw [if_pos c26] at H
                                    have c26b0 : decide ((ji24) < (l0_0.length : Int)) = true := decide_eq_true c26
                                    clear c26
                                    by_cases c27 : ((rd_T53 l0_0 (ji24)).f0) ≥ ((rd_T53 l0_0 x12_1).f0)
                                    · rw [if_pos c27] at H
                                      have c27b0 : decide (((rd_T53 l0_0 x12_1).f0) ≤ ((rd_T53 l0_0 (ji24)).f0)) = true := decide_eq_true c27
                                      clear c27
                                      obtain rfl := Option.some.inj H
                                      have p127 : 0 ≤ (x12_1 : Int) := of_decide_eq_true u3_3
                                      have q127 : x12_1 < (l0_0.length : Int) := of_decide_eq_true u3_3
                                      obtain ⟨ad127, e127, hx127_0, hx127_1, hx127_2, hx127_3, hx127_4⟩ := at_T53 HR0_0.out x12_1 p127 q127
                                      cases e127
                                      replace hx127_0 := (HB.out.cell (World.block_lt_of_cell? w _ hx127_0)).trans hx127_0
                                      replace hx127_1 := (HB.out.cell (World.block_lt_of_cell? w _ hx127_1)).trans hx127_1
                                      replace hx127_2 := (HB.out.cell (World.block_lt_of_cell? w _ hx127_2)).trans hx127_2
                                      replace hx127_3 := (HB.out.cell (World.block_lt_of_cell? w _ hx127_3)).trans hx127_3
                                      replace hx127_4 := (HB.out.cell (World.block_lt_of_cell? w _ hx127_4)).trans hx127_4
                                      replace p127 := eq_true p127
                                      replace q127 := eq_true q127
                                      go_wp2_with (first | (first | ((with_reducible refine gate_dst (N := 4) rfl ?_); refine box_event ?hg (N := 4) ?hd (cs := #[.int .u64 0, .int .u64 0, .int .u64 0, .int .u64 0, .int .i64 0]) (t := 53) ?hr ?_; (case hd => rfl); (case hg => rfl); (case hr => first | (go_simp; done) | (go_simp; rfl)); intro gb128 hg w28 hbox hb; have n0_ := Aside0.mk (blk_below (g := gb126) (o := .cells #[.slice (some ad127) l0_0.length c0_0] 29 (0, 0)) u3_1 hb); have n1_ := Aside0.mk (below_step u3_0 hb); have n2_ := Aside0.mk (hbox); have n3_ := Aside0.mk ((by rw [hg]; exact (below_size u3_0) : w.heap.size ≤ gb128)); have n4_ := Aside0.mk ((by rw [hg]; exact (below_size u3_0) : w.heap.size ≤ gb128)); have n5_ := Aside0.mk ((by rw [hg]; exact Nat.ne_of_lt (blk_lt (g := gb126) (o := .cells #[.slice (some ad127) l0_0.length c0_0] 29 (0, 0)) u3_1) : gb126 ≠ gb128)); have n6_ := Aside0.mk ((by rw [hg]; exact Nat.ne_of_gt (blk_lt (g := gb126) (o := .cells #[.slice (some ad127) l0_0.length c0_0] 29 (0, 0)) u3_1) : gb128 ≠ gb126)); clear BK126; clear HB; have BK126 := n0_; have HB := n1_; have BK128 := n2_; have GW128 := n3_; have GE128 := n4_; have NB126_128 := n5_; have NB128_126 := n6_; clear n0_ n1_ n2_ n3_ n4_ n5_ n6_; clear hb hbox hg; have hnb29 := NB128_126.out; have hnc29 := NB126_128.out; have hcz30_0 : w28.cell? ⟨gb128, 0, none⟩ = some (.int .u64 0) := (blk_cell BK128.out 0).trans rfl; have hcz30_1 : w28.cell? ⟨gb128, 1, none⟩ = some (.int .u64 0) := (blk_cell BK128.out 1).trans rfl; have hcz30_2 : w28.cell? ⟨gb128, 2, none⟩ = some (.int .u64 0) := (blk_cell BK128.out 2).trans rfl; have hcz30_3 : w28.cell? ⟨gb128, 3, none⟩ = some (.int .u64 0) := (blk_cell BK128.out 3).trans rfl; have hcz30_4 : w28.cell? ⟨gb128, 4, none⟩ = some (.int .i64 0) := (blk_cell BK128.out 4).trans rfl; have hfz30_0 := blk_frozen BK128.out 0; have hfz30_1 := blk_frozen BK128.out 1; have hfz30_2 := blk_frozen BK128.out 2; have hfz30_3 := blk_frozen BK128.out 3; have hfz30_4 := blk_frozen BK128.out 4; have hcz31_0 : w28.cell? ⟨gb126, 0, none⟩ = some (.slice (some ad127) l0_0.length c0_0) := (blk_cell BK126.out 0).trans rfl; have hfz31_0 := blk_frozen BK126.out 0; have p129 : 0 ≤ ((ji24) : Int) := of_decide_eq_true u3_3; have q129 : (ji24) < (l0_0.length : Int) := of_decide_eq_true u3_3; obtain ⟨ad129, e129, hx129_0, hx129_1, hx129_2, hx129_3, hx129_4⟩ := at_T53 HR0_0.out (ji24) p129 q129; obtain rfl : ad127 = ad129 := (by injection e129); have hn129_0 : ad127.block ≠ gb128 := Nat.ne_of_lt (Nat.lt_of_lt_of_le u3_14 GW128.out); have hn129_1 : ad127.block ≠ gb128 := Nat.ne_of_lt (Nat.lt_of_lt_of_le u3_14 GW128.out); have hn129_2 : ad127.block ≠ gb128 := Nat.ne_of_lt (Nat.lt_of_lt_of_le u3_14 GW128.out); have hn129_3 : ad127.block ≠ gb128 := Nat.ne_of_lt (Nat.lt_of_lt_of_le u3_14 GW128.out); have hn129_4 : ad127.block ≠ gb128 := Nat.ne_of_lt (Nat.lt_of_lt_of_le u3_14 GW128.out); replace hx129_0 := (HB.out.cell (World.block_lt_of_cell? w _ hx129_0)).trans hx129_0; replace hx129_1 := (HB.out.cell (World.block_lt_of_cell? w _ hx129_1)).trans hx129_1; replace hx129_2 := (HB.out.cell (World.block_lt_of_cell? w _ hx129_2)).trans hx129_2; replace hx129_3 := (HB.out.cell (World.block_lt_of_cell? w _ hx129_3)).trans hx129_3; replace hx129_4 := (HB.out.cell (World.block_lt_of_cell? w _ hx129_4)).trans hx129_4; replace hx129_0 := (cell_far (p := ⟨gb128, 0, none⟩) u3_4 (.int .u64 ((rd_T53 l0_0 x12_1).f0))).trans hx129_0; replace hx129_1 := (cell_far (p := ⟨gb128, 0, none⟩) u3_4 (.int .u64 ((rd_T53 l0_0 x12_1).f0))).trans hx129_1; replace hx129_2 := (cell_far (p := ⟨gb128, 0, none⟩) u3_4 (.int .u64 ((rd_T53 l0_0 x12_1).f0))).trans hx129_2; replace hx129_3 := (cell_far (p := ⟨gb128, 0, none⟩) u3_4 (.int .u64 ((rd_T53 l0_0 x12_1).f0))).trans hx129_3; replace hx129_4 := (cell_far (p := ⟨gb128, 0, none⟩) u3_4 (.int .u64 ((rd_T53 l0_0 x12_1).f0))).trans hx129_4; replace hx129_0 := (cell_far (p := ⟨gb128, 1, none⟩) u3_5 (.int .u64 ((rd_T53 l0_0 x12_1).f1))).trans hx129_0; replace hx129_1 := (cell_far (p := ⟨gb128, 1, none⟩) u3_5 (.int .u64 ((rd_T53 l0_0 x12_1).f1))).trans hx129_1; replace hx129_2 := (cell_far (p := ⟨gb128, 1, none⟩) u3_5 (.int .u64 ((rd_T53 l0_0 x12_1).f1))).trans hx129_2; replace hx129_3 := (cell_far (p := ⟨gb128, 1, none⟩) u3_5 (.int .u64 ((rd_T53 l0_0 x12_1).f1))).trans hx129_3; replace hx129_4 := (cell_far (p := ⟨gb128, 1, none⟩) u3_5 (.int .u64 ((rd_T53 l0_0 x12_1).f1))).trans hx129_4; replace hx129_0 := (cell_far (p := ⟨gb128, 2, none⟩) u3_6 (.int .u64 ((rd_T53 l0_0 x12_1).f2))).trans hx129_0; replace hx129_1 := (cell_far (p := ⟨gb128, 2, none⟩) u3_6 (.int .u64 ((rd_T53 l0_0 x12_1).f2))).trans hx129_1; replace hx129_2 := (cell_far (p := ⟨gb128, 2, none⟩) u3_6 (.int .u64 ((rd_T53 l0_0 x12_1).f2))).trans hx129_2; replace hx129_3 := (cell_far (p := ⟨gb128, 2, none⟩) u3_6 (.int .u64 ((rd_T53 l0_0 x12_1).f2))).trans hx129_3; replace hx129_4 := (cell_far (p := ⟨gb128, 2, none⟩) u3_6 (.int .u64 ((rd_T53 l0_0 x12_1).f2))).trans hx129_4; replace hx129_0 := (cell_far (p := ⟨gb128, 3, none⟩) u3_7 (.int .u64 ((rd_T53 l0_0 x12_1).f3))).trans hx129_0; replace hx129_1 := (cell_far (p := ⟨gb128, 3, none⟩) u3_7 (.int .u64 ((rd_T53 l0_0 x12_1).f3))).trans hx129_1; replace hx129_2 := (cell_far (p := ⟨gb128, 3, none⟩) u3_7 (.int .u64 ((rd_T53 l0_0 x12_1).f3))).trans hx129_2; replace hx129_3 := (cell_far (p := ⟨gb128, 3, none⟩) u3_7 (.int .u64 ((rd_T53 l0_0 x12_1).f3))).trans hx129_3; replace hx129_4 := (cell_far (p := ⟨gb128, 3, none⟩) u3_7 (.int .u64 ((rd_T53 l0_0 x12_1).f3))).trans hx129_4; replace hx129_0 := (cell_far (p := ⟨gb128, 4, none⟩) u3_8 (.int .i64 ((rd_T53 l0_0 x12_1).f4))).trans hx129_0; replace hx129_1 := (cell_far (p := ⟨gb128, 4, none⟩) u3_8 (.int .i64 ((rd_T53 l0_0 x12_1).f4))).trans hx129_1; replace hx129_2 := (cell_far (p := ⟨gb128, 4, none⟩) u3_8 (.int .i64 ((rd_T53 l0_0 x12_1).f4))).trans hx129_2; replace hx129_3 := (cell_far (p := ⟨gb128, 4, none⟩) u3_8 (.int .i64 ((rd_T53 l0_0 x12_1).f4))).trans hx129_3; replace hx129_4 := (cell_far (p := ⟨gb128, 4, none⟩) u3_8 (.int .i64 ((rd_T53 l0_0 x12_1).f4))).trans hx129_4; (try have hch_ := fun (n_ : Nat) => (show (((((((w28.drewN n_).setCell ⟨gb128, 0, none⟩ (.int .u64 ((rd_T53 l0_0 x12_1).f0))).setCell ⟨gb128, 1, none⟩ (.int .u64 ((rd_T53 l0_0 x12_1).f1))).setCell ⟨gb128, 2, none⟩ (.int .u64 ((rd_T53 l0_0 x12_1).f2))).setCell ⟨gb128, 3, none⟩ (.int .u64 ((rd_T53 l0_0 x12_1).f3))).setCell ⟨gb128, 4, none⟩ (.int .i64 ((rd_T53 l0_0 x12_1).f4)))) = World.drewN ((((((w28.setCell ⟨gb128, 0, none⟩ (.int .u64 ((rd_T53 l0_0 x12_1).f0))).setCell ⟨gb128, 1, none⟩ (.int .u64 ((rd_T53 l0_0 x12_1).f1))).setCell ⟨gb128, 2, none⟩ (.int .u64 ((rd_T53 l0_0 x12_1).f2))).setCell ⟨gb128, 3, none⟩ (.int .u64 ((rd_T53 l0_0 x12_1).f3))).setCell ⟨gb128, 4, none⟩ (.int .i64 ((rd_T53 l0_0 x12_1).f4)))) n_ from by simp only [Go.Proofs.Ytdbfjakhkclggaa.Slc.setCell_drewN])); (try have hy129_0 := fun (n_ : Nat) => Go.Proofs.Ytdbfjakhkclggaa.Slc.cell_of (hch_ n_) hx129_0); (try have hy129_1 := fun (n_ : Nat) => Go.Proofs.Ytdbfjakhkclggaa.Slc.cell_of (hch_ n_) hx129_1); (try have hy129_2 := fun (n_ : Nat) => Go.Proofs.Ytdbfjakhkclggaa.Slc.cell_of (hch_ n_) hx129_2); (try have hy129_3 := fun (n_ : Nat) => Go.Proofs.Ytdbfjakhkclggaa.Slc.cell_of (hch_ n_) hx129_3); (try have hy129_4 := fun (n_ : Nat) => Go.Proofs.Ytdbfjakhkclggaa.Slc.cell_of (hch_ n_) hx129_4); clear hn129_0; clear hn129_1; clear hn129_2; clear hn129_3; clear hn129_4; replace p129 := eq_true p129; replace q129 := eq_true q129)) | go_quiet (fail))
                                      go_ret
                                      exact ⟨by first | rfl | (simp [errW_none, errW_some] <;> rfl) | (simp only [← hji9, ← hji24]; first | rfl | (simp [errW_none, errW_some] <;> rfl)) | (simp [*, errW_none, errW_some] <;> rfl), by repeat (first | (with_reducible first | exact HB.out | apply below_alloc | apply pw_below_drewN | apply below_drew1 | refine below_set ?_ GE126.out | refine below_set ?_ GE128.out) | exact HB.out)⟩
                                    · rw [if_neg c27] at H
                                      have c27b0 : decide (((rd_T53 l0_0 x12_1).f0) ≤ ((rd_T53 l0_0 (ji24)).f0)) = false := decide_eq_false c27
                                      clear c27
                                      have H' := Aside0.mk H
                                      clear H
                                      have p127 : 0 ≤ (x12_1 : Int) := of_decide_eq_true u3_3
                                      have q127 : x12_1 < (l0_0.length : Int) := of_decide_eq_true u3_3
                                      obtain ⟨ad127, e127, hx127_0, hx127_1, hx127_2, hx127_3, hx127_4⟩ := at_T53 HR0_0.out x12_1 p127 q127
                                      cases e127
                                      replace hx127_0 := (HB.out.cell (World.block_lt_of_cell? w _ hx127_0)).trans hx127_0
                                      replace hx127_1 := (HB.out.cell (World.block_lt_of_cell? w _ hx127_1)).trans hx127_1
                                      replace hx127_2 := (HB.out.cell (World.block_lt_of_cell? w _ hx127_2)).trans hx127_2
                                      replace hx127_3 := (HB.out.cell (World.block_lt_of_cell? w _ hx127_3)).trans hx127_3
                                      replace hx127_4 := (HB.out.cell (World.block_lt_of_cell? w _ hx127_4)).trans hx127_4
                                      replace p127 := eq_true p127
                                      replace q127 := eq_true q127
                                      go_wp2_with (first | (first | ((with_reducible refine gate_dst (N := 4) rfl ?_); refine box_event ?hg (N := 4) ?hd (cs := #[.int .u64 0, .int .u64 0, .int .u64 0, .int .u64 0, .int .i64 0]) (t := 53) ?hr ?_; (case hd => rfl); (case hg => rfl); (case hr => first | (go_simp; done) | (go_simp; rfl)); intro gb128 hg w32 hbox hb; have n0_ := Aside0.mk (blk_below (g := gb126) (o := .cells #[.slice (some ad127) l0_0.length c0_0] 29 (0, 0)) u3_1 hb); have n1_ := Aside0.mk (below_step u3_0 hb); have n2_ := Aside0.mk (hbox); have n3_ := Aside0.mk ((by rw [hg]; exact (below_size u3_0) : w.heap.size ≤ gb128)); have n4_ := Aside0.mk ((by rw [hg]; exact (below_size u3_0) : w.heap.size ≤ gb128)); have n5_ := Aside0.mk ((by rw [hg]; exact Nat.ne_of_lt (blk_lt (g := gb126) (o := .cells #[.slice (some ad127) l0_0.length c0_0] 29 (0, 0)) u3_1) : gb126 ≠ gb128)); have n6_ := Aside0.mk ((by rw [hg]; exact Nat.ne_of_gt (blk_lt (g := gb126) (o := .cells #[.slice (some ad127) l0_0.length c0_0] 29 (0, 0)) u3_1) : gb128 ≠ gb126)); clear BK126; clear HB; have BK126 := n0_; have HB := n1_; have BK128 := n2_; have GW128 := n3_; have GE128 := n4_; have NB126_128 := n5_; have NB128_126 := n6_; clear n0_ n1_ n2_ n3_ n4_ n5_ n6_; clear hb hbox hg; have hnb33 := NB128_126.out; have hnc33 := NB126_128.out; have hcz34_0 : w32.cell? ⟨gb128, 0, none⟩ = some (.int .u64 0) := (blk_cell BK128.out 0).trans rfl; have hcz34_1 : w32.cell? ⟨gb128, 1, none⟩ = some (.int .u64 0) := (blk_cell BK128.out 1).trans rfl; have hcz34_2 : w32.cell? ⟨gb128, 2, none⟩ = some (.int .u64 0) := (blk_cell BK128.out 2).trans rfl; have hcz34_3 : w32.cell? ⟨gb128, 3, none⟩ = some (.int .u64 0) := (blk_cell BK128.out 3).trans rfl; have hcz34_4 : w32.cell? ⟨gb128, 4, none⟩ = some (.int .i64 0) := (blk_cell BK128.out 4).trans rfl; have hfz34_0 := blk_frozen BK128.out 0; have hfz34_1 := blk_frozen BK128.out 1; have hfz34_2 := blk_frozen BK128.out 2; have hfz34_3 := blk_frozen BK128.out 3; have hfz34_4 := blk_frozen BK128.out 4; have hcz35_0 : w32.cell? ⟨gb126, 0, none⟩ = some (.slice (some ad127) l0_0.length c0_0) := (blk_cell BK126.out 0).trans rfl; have hfz35_0 := blk_frozen BK126.out 0; have p129 : 0 ≤ ((ji24) : Int) := of_decide_eq_true u3_3; have q129 : (ji24) < (l0_0.length : Int) := of_decide_eq_true u3_3; obtain ⟨ad129, e129, hx129_0, hx129_1, hx129_2, hx129_3, hx129_4⟩ := at_T53 HR0_0.out (ji24) p129 q129; obtain rfl : ad127 = ad129 := (by injection e129); have hn129_0 : ad127.block ≠ gb128 := Nat.ne_of_lt (Nat.lt_of_lt_of_le u3_14 GW128.out); have hn129_1 : ad127.block ≠ gb128 := Nat.ne_of_lt (Nat.lt_of_lt_of_le u3_14 GW128.out); have hn129_2 : ad127.block ≠ gb128 := Nat.ne_of_lt (Nat.lt_of_lt_of_le u3_14 GW128.out); have hn129_3 : ad127.block ≠ gb128 := Nat.ne_of_lt (Nat.lt_of_lt_of_le u3_14 GW128.out); have hn129_4 : ad127.block ≠ gb128 := Nat.ne_of_lt (Nat.lt_of_lt_of_le u3_14 GW128.out); replace hx129_0 := (HB.out.cell (World.block_lt_of_cell? w _ hx129_0)).trans hx129_0; replace hx129_1 := (HB.out.cell (World.block_lt_of_cell? w _ hx129_1)).trans hx129_1; replace hx129_2 := (HB.out.cell (World.block_lt_of_cell? w _ hx129_2)).trans hx129_2; replace hx129_3 := (HB.out.cell (World.block_lt_of_cell? w _ hx129_3)).trans hx129_3; replace hx129_4 := (HB.out.cell (World.block_lt_of_cell? w _ hx129_4)).trans hx129_4; replace hx129_0 := (cell_far (p := ⟨gb128, 0, none⟩) u3_4 (.int .u64 ((rd_T53 l0_0 x12_1).f0))).trans hx129_0; replace hx129_1 := (cell_far (p := ⟨gb128, 0, none⟩) u3_4 (.int .u64 ((rd_T53 l0_0 x12_1).f0))).trans hx129_1; replace hx129_2 := (cell_far (p := ⟨gb128, 0, none⟩) u3_4 (.int .u64 ((rd_T53 l0_0 x12_1).f0))).trans hx129_2; replace hx129_3 := (cell_far (p := ⟨gb128, 0, none⟩) u3_4 (.int .u64 ((rd_T53 l0_0 x12_1).f0))).trans hx129_3; replace hx129_4 := (cell_far (p := ⟨gb128, 0, none⟩) u3_4 (.int .u64 ((rd_T53 l0_0 x12_1).f0))).trans hx129_4; replace hx129_0 := (cell_far (p := ⟨gb128, 1, none⟩) u3_5 (.int .u64 ((rd_T53 l0_0 x12_1).f1))).trans hx129_0; replace hx129_1 := (cell_far (p := ⟨gb128, 1, none⟩) u3_5 (.int .u64 ((rd_T53 l0_0 x12_1).f1))).trans hx129_1; replace hx129_2 := (cell_far (p := ⟨gb128, 1, none⟩) u3_5 (.int .u64 ((rd_T53 l0_0 x12_1).f1))).trans hx129_2; replace hx129_3 := (cell_far (p := ⟨gb128, 1, none⟩) u3_5 (.int .u64 ((rd_T53 l0_0 x12_1).f1))).trans hx129_3; replace hx129_4 := (cell_far (p := ⟨gb128, 1, none⟩) u3_5 (.int .u64 ((rd_T53 l0_0 x12_1).f1))).trans hx129_4; replace hx129_0 := (cell_far (p := ⟨gb128, 2, none⟩) u3_6 (.int .u64 ((rd_T53 l0_0 x12_1).f2))).trans hx129_0; replace hx129_1 := (cell_far (p := ⟨gb128, 2, none⟩) u3_6 (.int .u64 ((rd_T53 l0_0 x12_1).f2))).trans hx129_1; replace hx129_2 := (cell_far (p := ⟨gb128, 2, none⟩) u3_6 (.int .u64 ((rd_T53 l0_0 x12_1).f2))).trans hx129_2; replace hx129_3 := (cell_far (p := ⟨gb128, 2, none⟩) u3_6 (.int .u64 ((rd_T53 l0_0 x12_1).f2))).trans hx129_3; replace hx129_4 := (cell_far (p := ⟨gb128, 2, none⟩) u3_6 (.int .u64 ((rd_T53 l0_0 x12_1).f2))).trans hx129_4; replace hx129_0 := (cell_far (p := ⟨gb128, 3, none⟩) u3_7 (.int .u64 ((rd_T53 l0_0 x12_1).f3))).trans hx129_0; replace hx129_1 := (cell_far (p := ⟨gb128, 3, none⟩) u3_7 (.int .u64 ((rd_T53 l0_0 x12_1).f3))).trans hx129_1; replace hx129_2 := (cell_far (p := ⟨gb128, 3, none⟩) u3_7 (.int .u64 ((rd_T53 l0_0 x12_1).f3))).trans hx129_2; replace hx129_3 := (cell_far (p := ⟨gb128, 3, none⟩) u3_7 (.int .u64 ((rd_T53 l0_0 x12_1).f3))).trans hx129_3; replace hx129_4 := (cell_far (p := ⟨gb128, 3, none⟩) u3_7 (.int .u64 ((rd_T53 l0_0 x12_1).f3))).trans hx129_4; replace hx129_0 := (cell_far (p := ⟨gb128, 4, none⟩) u3_8 (.int .i64 ((rd_T53 l0_0 x12_1).f4))).trans hx129_0; replace hx129_1 := (cell_far (p := ⟨gb128, 4, none⟩) u3_8 (.int .i64 ((rd_T53 l0_0 x12_1).f4))).trans hx129_1; replace hx129_2 := (cell_far (p := ⟨gb128, 4, none⟩) u3_8 (.int .i64 ((rd_T53 l0_0 x12_1).f4))).trans hx129_2; replace hx129_3 := (cell_far (p := ⟨gb128, 4, none⟩) u3_8 (.int .i64 ((rd_T53 l0_0 x12_1).f4))).trans hx129_3; replace hx129_4 := (cell_far (p := ⟨gb128, 4, none⟩) u3_8 (.int .i64 ((rd_T53 l0_0 x12_1).f4))).trans hx129_4; (try have hch_ := fun (n_ : Nat) => (show (((((((w32.drewN n_).setCell ⟨gb128, 0, none⟩ (.int .u64 ((rd_T53 l0_0 x12_1).f0))).setCell ⟨gb128, 1, none⟩ (.int .u64 ((rd_T53 l0_0 x12_1).f1))).setCell ⟨gb128, 2, none⟩ (.int .u64 ((rd_T53 l0_0 x12_1).f2))).setCell ⟨gb128, 3, none⟩ (.int .u64 ((rd_T53 l0_0 x12_1).f3))).setCell ⟨gb128, 4, none⟩ (.int .i64 ((rd_T53 l0_0 x12_1).f4)))) = World.drewN ((((((w32.setCell ⟨gb128, 0, none⟩ (.int .u64 ((rd_T53 l0_0 x12_1).f0))).setCell ⟨gb128, 1, none⟩ (.int .u64 ((rd_T53 l0_0 x12_1).f1))).setCell ⟨gb128, 2, none⟩ (.int .u64 ((rd_T53 l0_0 x12_1).f2))).setCell ⟨gb128, 3, none⟩ (.int .u64 ((rd_T53 l0_0 x12_1).f3))).setCell ⟨gb128, 4, none⟩ (.int .i64 ((rd_T53 l0_0 x12_1).f4)))) n_ from by simp only [Go.Proofs.Ytdbfjakhkclggaa.Slc.setCell_drewN])); (try have hy129_0 := fun (n_ : Nat) => Go.Proofs.Ytdbfjakhkclggaa.Slc.cell_of (hch_ n_) hx129_0); (try have hy129_1 := fun (n_ : Nat) => Go.Proofs.Ytdbfjakhkclggaa.Slc.cell_of (hch_ n_) hx129_1); (try have hy129_2 := fun (n_ : Nat) => Go.Proofs.Ytdbfjakhkclggaa.Slc.cell_of (hch_ n_) hx129_2); (try have hy129_3 := fun (n_ : Nat) => Go.Proofs.Ytdbfjakhkclggaa.Slc.cell_of (hch_ n_) hx129_3); (try have hy129_4 := fun (n_ : Nat) => Go.Proofs.Ytdbfjakhkclggaa.Slc.cell_of (hch_ n_) hx129_4); clear hn129_0; clear hn129_1; clear hn129_2; clear hn129_3; clear hn129_4; replace p129 := eq_true p129; replace q129 := eq_true q129)) | go_quiet (fail))
                                      go_roundg k1
                                      case measure => have := HK1.out; omega
                                      case rel => exact ⟨(wrap64 (x12_1 + 1)), u3_24, H', ⟨by have := HK1.out; omega⟩, ⟨by (with_reducible repeat (first | refine blk_drewN ?_ _ | refine blk_drew ?_ | refine blk_alloc ?_ _)); refine blk_far ?_ NB126_128.out _; (with_reducible repeat (first | refine blk_drewN ?_ _ | refine blk_drew ?_ | refine blk_alloc ?_ _)); refine blk_far ?_ NB126_128.out _; (with_reducible repeat (first | refine blk_drewN ?_ _ | refine blk_drew ?_ | refine blk_alloc ?_ _)); refine blk_far ?_ NB126_128.out _; (with_reducible repeat (first | refine blk_drewN ?_ _ | refine blk_drew ?_ | refine blk_alloc ?_ _)); refine blk_far ?_ NB126_128.out _; (with_reducible repeat (first | refine blk_drewN ?_ _ | refine blk_drew ?_ | refine blk_alloc ?_ _)); refine blk_far ?_ NB126_128.out _; (with_reducible repeat (first | refine blk_drewN ?_ _ | refine blk_drew ?_ | refine blk_alloc ?_ _)); exact BK126.out⟩, ⟨by repeat (first | (with_reducible first | exact HB.out | apply below_alloc | apply pw_below_drewN | apply below_drew1 | refine below_set ?_ GE126.out | refine below_set ?_ GE128.out) | exact HB.out)⟩⟩
                                  · rw [if_neg c26] at H
                                    exact absurd H (by simp)
                                · rw [if_neg c25] at H
                                  exact absurd H (by simp)
                              · rw [if_neg c23] at H
                                have c23b0 : decide (0 < x12_1) = false := decide_eq_false c23
                                clear c23
                                have H' := Aside0.mk H
                                clear H
                                have p127 : 0 ≤ (x12_1 : Int) := of_decide_eq_true u3_3
                                have q127 : x12_1 < (l0_0.length : Int) := of_decide_eq_true u3_3
                                obtain ⟨ad127, e127, hx127_0, hx127_1, hx127_2, hx127_3, hx127_4⟩ := at_T53 HR0_0.out x12_1 p127 q127
                                cases e127
                                replace hx127_0 := (HB.out.cell (World.block_lt_of_cell? w _ hx127_0)).trans hx127_0
                                replace hx127_1 := (HB.out.cell (World.block_lt_of_cell? w _ hx127_1)).trans hx127_1
                                replace hx127_2 := (HB.out.cell (World.block_lt_of_cell? w _ hx127_2)).trans hx127_2
                                replace hx127_3 := (HB.out.cell (World.block_lt_of_cell? w _ hx127_3)).trans hx127_3
                                replace hx127_4 := (HB.out.cell (World.block_lt_of_cell? w _ hx127_4)).trans hx127_4
                                replace p127 := eq_true p127
                                replace q127 := eq_true q127
                                go_wp2_with (first | (first | ((with_reducible refine gate_dst (N := 4) rfl ?_); refine box_event ?hg (N := 4) ?hd (cs := #[.int .u64 0, .int .u64 0, .int .u64 0, .int .u64 0, .int .i64 0]) (t := 53) ?hr ?_; (case hd => rfl); (case hg => rfl); (case hr => first | (go_simp; done) | (go_simp; rfl)); intro gb128 hg w36 hbox hb; have n0_ := Aside0.mk (blk_below (g := gb126) (o := .cells #[.slice (some ad127) l0_0.length c0_0] 29 (0, 0)) u3_1 hb); have n1_ := Aside0.mk (below_step u3_0 hb); have n2_ := Aside0.mk (hbox); have n3_ := Aside0.mk ((by rw [hg]; exact (below_size u3_0) : w.heap.size ≤ gb128)); have n4_ := Aside0.mk ((by rw [hg]; exact (below_size u3_0) : w.heap.size ≤ gb128)); have n5_ := Aside0.mk ((by rw [hg]; exact Nat.ne_of_lt (blk_lt (g := gb126) (o := .cells #[.slice (some ad127) l0_0.length c0_0] 29 (0, 0)) u3_1) : gb126 ≠ gb128)); have n6_ := Aside0.mk ((by rw [hg]; exact Nat.ne_of_gt (blk_lt (g := gb126) (o := .cells #[.slice (some ad127) l0_0.length c0_0] 29 (0, 0)) u3_1) : gb128 ≠ gb126)); clear BK126; clear HB; have BK126 := n0_; have HB := n1_; have BK128 := n2_; have GW128 := n3_; have GE128 := n4_; have NB126_128 := n5_; have NB128_126 := n6_; clear n0_ n1_ n2_ n3_ n4_ n5_ n6_; clear hb hbox hg; have hnb37 := NB128_126.out; have hnc37 := NB126_128.out; have hcz38_0 : w36.cell? ⟨gb128, 0, none⟩ = some (.int .u64 0) := (blk_cell BK128.out 0).trans rfl; have hcz38_1 : w36.cell? ⟨gb128, 1, none⟩ = some (.int .u64 0) := (blk_cell BK128.out 1).trans rfl; have hcz38_2 : w36.cell? ⟨gb128, 2, none⟩ = some (.int .u64 0) := (blk_cell BK128.out 2).trans rfl; have hcz38_3 : w36.cell? ⟨gb128, 3, none⟩ = some (.int .u64 0) := (blk_cell BK128.out 3).trans rfl; have hcz38_4 : w36.cell? ⟨gb128, 4, none⟩ = some (.int .i64 0) := (blk_cell BK128.out 4).trans rfl; have hfz38_0 := blk_frozen BK128.out 0; have hfz38_1 := blk_frozen BK128.out 1; have hfz38_2 := blk_frozen BK128.out 2; have hfz38_3 := blk_frozen BK128.out 3; have hfz38_4 := blk_frozen BK128.out 4)) | go_quiet (fail))
                                go_roundg k1
                                case measure => have := HK1.out; omega
                                case rel => exact ⟨(wrap64 (x12_1 + 1)), u3_24, H', ⟨by have := HK1.out; omega⟩, ⟨by (with_reducible repeat (first | refine blk_drewN ?_ _ | refine blk_drew ?_ | refine blk_alloc ?_ _)); refine blk_far ?_ NB126_128.out _; (with_reducible repeat (first | refine blk_drewN ?_ _ | refine blk_drew ?_ | refine blk_alloc ?_ _)); refine blk_far ?_ NB126_128.out _; (with_reducible repeat (first | refine blk_drewN ?_ _ | refine blk_drew ?_ | refine blk_alloc ?_ _)); refine blk_far ?_ NB126_128.out _; (with_reducible repeat (first | refine blk_drewN ?_ _ | refine blk_drew ?_ | refine blk_alloc ?_ _)); refine blk_far ?_ NB126_128.out _; (with_reducible repeat (first | refine blk_drewN ?_ _ | refine blk_drew ?_ | refine blk_alloc ?_ _)); refine blk_far ?_ NB126_128.out _; (with_reducible repeat (first | refine blk_drewN ?_ _ | refine blk_drew ?_ | refine blk_alloc ?_ _)); exact BK126.out⟩, ⟨by repeat (first | (with_reducible first | exact HB.out | apply below_alloc | apply pw_below_drewN | apply below_drew1 | refine below_set ?_ GE126.out | refine below_set ?_ GE128.out) | exact HB.out)⟩⟩
                            · rw [if_neg c22] at H
                              have c22b0 : (((rd_T53 l0_0 x12_1).f3) == 0) = false := beq_eq_false_iff_ne.mpr c22
                              have c22b1 : (((rd_T53 l0_0 x12_1).f3) != 0) = true := bne_iff_ne.mpr c22
                              obtain rfl := Option.some.inj H
                              have p127 : 0 ≤ (x12_1 : Int) := of_decide_eq_true u3_3
                              have q127 : x12_1 < (l0_0.length : Int) := of_decide_eq_true u3_3
                              obtain ⟨ad127, e127, hx127_0, hx127_1, hx127_2, hx127_3, hx127_4⟩ := at_T53 HR0_0.out x12_1 p127 q127
                              cases e127
                              replace hx127_0 := (HB.out.cell (World.block_lt_of_cell? w _ hx127_0)).trans hx127_0
                              replace hx127_1 := (HB.out.cell (World.block_lt_of_cell? w _ hx127_1)).trans hx127_1
                              replace hx127_2 := (HB.out.cell (World.block_lt_of_cell? w _ hx127_2)).trans hx127_2
                              replace hx127_3 := (HB.out.cell (World.block_lt_of_cell? w _ hx127_3)).trans hx127_3
                              replace hx127_4 := (HB.out.cell (World.block_lt_of_cell? w _ hx127_4)).trans hx127_4
                              replace p127 := eq_true p127
                              replace q127 := eq_true q127
                              go_wp2_with (first | (first | ((with_reducible refine gate_dst (N := 4) rfl ?_); refine box_event ?hg (N := 4) ?hd (cs := #[.int .u64 0, .int .u64 0, .int .u64 0, .int .u64 0, .int .i64 0]) (t := 53) ?hr ?_; (case hd => rfl); (case hg => rfl); (case hr => first | (go_simp; done) | (go_simp; rfl)); intro gb128 hg w39 hbox hb; have n0_ := Aside0.mk (blk_below (g := gb126) (o := .cells #[.slice (some ad127) l0_0.length c0_0] 29 (0, 0)) u3_1 hb); have n1_ := Aside0.mk (below_step u3_0 hb); have n2_ := Aside0.mk (hbox); have n3_ := Aside0.mk ((by rw [hg]; exact (below_size u3_0) : w.heap.size ≤ gb128)); have n4_ := Aside0.mk ((by rw [hg]; exact (below_size u3_0) : w.heap.size ≤ gb128)); have n5_ := Aside0.mk ((by rw [hg]; exact Nat.ne_of_lt (blk_lt (g := gb126) (o := .cells #[.slice (some ad127) l0_0.length c0_0] 29 (0, 0)) u3_1) : gb126 ≠ gb128)); have n6_ := Aside0.mk ((by rw [hg]; exact Nat.ne_of_gt (blk_lt (g := gb126) (o := .cells #[.slice (some ad127) l0_0.length c0_0] 29 (0, 0)) u3_1) : gb128 ≠ gb126)); clear BK126; clear HB; have BK126 := n0_; have HB := n1_; have BK128 := n2_; have GW128 := n3_; have GE128 := n4_; have NB126_128 := n5_; have NB128_126 := n6_; clear n0_ n1_ n2_ n3_ n4_ n5_ n6_; clear hb hbox hg; have hnb40 := NB128_126.out; have hnc40 := NB126_128.out; have hcz41_0 : w39.cell? ⟨gb128, 0, none⟩ = some (.int .u64 0) := (blk_cell BK128.out 0).trans rfl; have hcz41_1 : w39.cell? ⟨gb128, 1, none⟩ = some (.int .u64 0) := (blk_cell BK128.out 1).trans rfl; have hcz41_2 : w39.cell? ⟨gb128, 2, none⟩ = some (.int .u64 0) := (blk_cell BK128.out 2).trans rfl; have hcz41_3 : w39.cell? ⟨gb128, 3, none⟩ = some (.int .u64 0) := (blk_cell BK128.out 3).trans rfl; have hcz41_4 : w39.cell? ⟨gb128, 4, none⟩ = some (.int .i64 0) := (blk_cell BK128.out 4).trans rfl; have hfz41_0 := blk_frozen BK128.out 0; have hfz41_1 := blk_frozen BK128.out 1; have hfz41_2 := blk_frozen BK128.out 2; have hfz41_3 := blk_frozen BK128.out 3; have hfz41_4 := blk_frozen BK128.out 4)) | go_quiet (fail))
                              go_ret
                              exact ⟨by first | rfl | (simp [errW_none, errW_some] <;> rfl) | (simp only [← hji9]; first | rfl | (simp [errW_none, errW_some] <;> rfl)) | (simp [*, errW_none, errW_some] <;> rfl), by repeat (first | (with_reducible first | exact HB.out | apply below_alloc | apply pw_below_drewN | apply below_drew1 | refine below_set ?_ GE126.out | refine below_set ?_ GE128.out) | exact HB.out)⟩
                          · rw [if_neg c21] at H
                            have c21b0 : (((rd_T53 l0_0 x12_1).f2) == 0) = false := beq_eq_false_iff_ne.mpr c21
                            have c21b1 : (((rd_T53 l0_0 x12_1).f2) != 0) = true := bne_iff_ne.mpr c21
                            obtain rfl := Option.some.inj H
                            have p127 : 0 ≤ (x12_1 : Int) := of_decide_eq_true u3_3
                            have q127 : x12_1 < (l0_0.length : Int) := of_decide_eq_true u3_3
                            obtain ⟨ad127, e127, hx127_0, hx127_1, hx127_2, hx127_3, hx127_4⟩ := at_T53 HR0_0.out x12_1 p127 q127
                            cases e127
                            replace hx127_0 := (HB.out.cell (World.block_lt_of_cell? w _ hx127_0)).trans hx127_0
                            replace hx127_1 := (HB.out.cell (World.block_lt_of_cell? w _ hx127_1)).trans hx127_1
                            replace hx127_2 := (HB.out.cell (World.block_lt_of_cell? w _ hx127_2)).trans hx127_2
                            replace hx127_3 := (HB.out.cell (World.block_lt_of_cell? w _ hx127_3)).trans hx127_3
                            replace hx127_4 := (HB.out.cell (World.block_lt_of_cell? w _ hx127_4)).trans hx127_4
                            replace p127 := eq_true p127
                            replace q127 := eq_true q127
                            go_wp2_with (first | (first | ((with_reducible refine gate_dst (N := 4) rfl ?_); refine box_event ?hg (N := 4) ?hd (cs := #[.int .u64 0, .int .u64 0, .int .u64 0, .int .u64 0, .int .i64 0]) (t := 53) ?hr ?_; (case hd => rfl); (case hg => rfl); (case hr => first | (go_simp; done) | (go_simp; rfl)); intro gb128 hg w42 hbox hb; have n0_ := Aside0.mk (blk_below (g := gb126) (o := .cells #[.slice (some ad127) l0_0.length c0_0] 29 (0, 0)) u3_1 hb); have n1_ := Aside0.mk (below_step u3_0 hb); have n2_ := Aside0.mk (hbox); have n3_ := Aside0.mk ((by rw [hg]; exact (below_size u3_0) : w.heap.size ≤ gb128)); have n4_ := Aside0.mk ((by rw [hg]; exact (below_size u3_0) : w.heap.size ≤ gb128)); have n5_ := Aside0.mk ((by rw [hg]; exact Nat.ne_of_lt (blk_lt (g := gb126) (o := .cells #[.slice (some ad127) l0_0.length c0_0] 29 (0, 0)) u3_1) : gb126 ≠ gb128)); have n6_ := Aside0.mk ((by rw [hg]; exact Nat.ne_of_gt (blk_lt (g := gb126) (o := .cells #[.slice (some ad127) l0_0.length c0_0] 29 (0, 0)) u3_1) : gb128 ≠ gb126)); clear BK126; clear HB; have BK126 := n0_; have HB := n1_; have BK128 := n2_; have GW128 := n3_; have GE128 := n4_; have NB126_128 := n5_; have NB128_126 := n6_; clear n0_ n1_ n2_ n3_ n4_ n5_ n6_; clear hb hbox hg; have hnb43 := NB128_126.out; have hnc43 := NB126_128.out; have hcz44_0 : w42.cell? ⟨gb128, 0, none⟩ = some (.int .u64 0) := (blk_cell BK128.out 0).trans rfl; have hcz44_1 : w42.cell? ⟨gb128, 1, none⟩ = some (.int .u64 0) := (blk_cell BK128.out 1).trans rfl; have hcz44_2 : w42.cell? ⟨gb128, 2, none⟩ = some (.int .u64 0) := (blk_cell BK128.out 2).trans rfl; have hcz44_3 : w42.cell? ⟨gb128, 3, none⟩ = some (.int .u64 0) := (blk_cell BK128.out 3).trans rfl; have hcz44_4 : w42.cell? ⟨gb128, 4, none⟩ = some (.int .i64 0) := (blk_cell BK128.out 4).trans rfl; have hfz44_0 := blk_frozen BK128.out 0; have hfz44_1 := blk_frozen BK128.out 1; have hfz44_2 := blk_frozen BK128.out 2; have hfz44_3 := blk_frozen BK128.out 3; have hfz44_4 := blk_frozen BK128.out 4)) | go_quiet (fail))
                            go_ret
                            exact ⟨by first | rfl | (simp [errW_none, errW_some] <;> rfl) | (simp only [← hji9]; first | rfl | (simp [errW_none, errW_some] <;> rfl)) | (simp [*, errW_none, errW_some] <;> rfl), by repeat (first | (with_reducible first | exact HB.out | apply below_alloc | apply pw_below_drewN | apply below_drew1 | refine below_set ?_ GE126.out | refine below_set ?_ GE128.out) | exact HB.out)⟩
                        · rw [if_neg c20] at H
                          have c20b0 : (((rd_T53 l0_0 x12_1).f4) == 0) = false := beq_eq_false_iff_ne.mpr c20
                          have c20b1 : (((rd_T53 l0_0 x12_1).f4) != 0) = true := bne_iff_ne.mpr c20
                          by_cases c45 : x12_1 > 0
                          · rw [if_pos c45] at H
                            have c45b0 : decide (0 < x12_1) = true := decide_eq_true c45
                            clear c45
                            obtain ⟨ji46, hji46⟩ : ∃ j_ : Int, (wrap64 (x12_1 - 1)) = j_ := ⟨_, rfl⟩
                            replace H : (if 0 ≤ (ji46) then (if (ji46) < (l0_0.length : Int) then (if ((rd_T53 l0_0 (ji46)).f0) ≥ ((rd_T53 l0_0 x12_1).f0) then (some false) else (impl_isBook.l0 k1 l0_0 (l0_0.length : Int) (wrap64 (x12_1 + 1)) l0_0)) else (none)) else (none)) = some r := by first | (rw [hji46] at H; exact H) | (simp only [hji46] at H ⊢; exact H)
                            have hji46w : (IntKind.i64.wrap (x12_1 - 1)) = ji46 := (i64_w _).trans hji46
                            by_cases c47 : 0 ≤ (ji46)
                            · rw [if_pos c47] at H
                              have c47b0 : decide (0 ≤ (ji46)) = true := decide_eq_true c47
                              clear c47
                              by_cases c48 : (ji46) < (l0_0.length : Int)
                              · rw [if_pos c48] at H
                                have c48b0 : decide ((ji46) < (l0_0.length : Int)) = true := decide_eq_true c48
                                clear c48
                                by_cases c49 : ((rd_T53 l0_0 (ji46)).f0) ≥ ((rd_T53 l0_0 x12_1).f0)
                                · rw [if_pos c49] at H
                                  have c49b0 : decide (((rd_T53 l0_0 x12_1).f0) ≤ ((rd_T53 l0_0 (ji46)).f0)) = true := decide_eq_true c49
                                  clear c49
                                  obtain rfl := Option.some.inj H
                                  have p127 : 0 ≤ (x12_1 : Int) := of_decide_eq_true u3_3
                                  have q127 : x12_1 < (l0_0.length : Int) := of_decide_eq_true u3_3
                                  obtain ⟨ad127, e127, hx127_0, hx127_1, hx127_2, hx127_3, hx127_4⟩ := at_T53 HR0_0.out x12_1 p127 q127
                                  cases e127
                                  replace hx127_0 := (HB.out.cell (World.block_lt_of_cell? w _ hx127_0)).trans hx127_0
                                  replace hx127_1 := (HB.out.cell (World.block_lt_of_cell? w _ hx127_1)).trans hx127_1
                                  replace hx127_2 := (HB.out.cell (World.block_lt_of_cell? w _ hx127_2)).trans hx127_2
                                  replace hx127_3 := (HB.out.cell (World.block_lt_of_cell? w _ hx127_3)).trans hx127_3
                                  replace hx127_4 := (HB.out.cell (World.block_lt_of_cell? w _ hx127_4)).trans hx127_4
                                  replace p127 := eq_true p127
                                  replace q127 := eq_true q127
                                  go_wp2_with (first | (first | ((with_reducible refine gate_dst (N := 4) rfl ?_); refine box_event ?hg (N := 4) ?hd (cs := #[.int .u64 0, .int .u64 0, .int .u64 0, .int .u64 0, .int .i64 0]) (t := 53) ?hr ?_; (case hd => rfl); (case hg => rfl); (case hr => first | (go_simp; done) | (go_simp; rfl)); intro gb128 hg w50 hbox hb; have n0_ := Aside0.mk (blk_below (g := gb126) (o := .cells #[.slice (some ad127) l0_0.length c0_0] 29 (0, 0)) u3_1 hb); have n1_ := Aside0.mk (below_step u3_0 hb); have n2_ := Aside0.mk (hbox); have n3_ := Aside0.mk ((by rw [hg]; exact (below_size u3_0) : w.heap.size ≤ gb128)); have n4_ := Aside0.mk ((by rw [hg]; exact (below_size u3_0) : w.heap.size ≤ gb128)); have n5_ := Aside0.mk ((by rw [hg]; exact Nat.ne_of_lt (blk_lt (g := gb126) (o := .cells #[.slice (some ad127) l0_0.length c0_0] 29 (0, 0)) u3_1) : gb126 ≠ gb128)); have n6_ := Aside0.mk ((by rw [hg]; exact Nat.ne_of_gt (blk_lt (g := gb126) (o := .cells #[.slice (some ad127) l0_0.length c0_0] 29 (0, 0)) u3_1) : gb128 ≠ gb126)); clear BK126; clear HB; have BK126 := n0_; have HB := n1_; have BK128 := n2_; have GW128 := n3_; have GE128 := n4_; have NB126_128 := n5_; have NB128_126 := n6_; clear n0_ n1_ n2_ n3_ n4_ n5_ n6_; clear hb hbox hg; have hnb51 := NB128_126.out; have hnc51 := NB126_128.out; have hcz52_0 : w50.cell? ⟨gb128, 0, none⟩ = some (.int .u64 0) := (blk_cell BK128.out 0).trans rfl; have hcz52_1 : w50.cell? ⟨gb128, 1, none⟩ = some (.int .u64 0) := (blk_cell BK128.out 1).trans rfl; have hcz52_2 : w50.cell? ⟨gb128, 2, none⟩ = some (.int .u64 0) := (blk_cell BK128.out 2).trans rfl; have hcz52_3 : w50.cell? ⟨gb128, 3, none⟩ = some (.int .u64 0) := (blk_cell BK128.out 3).trans rfl; have hcz52_4 : w50.cell? ⟨gb128, 4, none⟩ = some (.int .i64 0) := (blk_cell BK128.out 4).trans rfl; have hfz52_0 := blk_frozen BK128.out 0; have hfz52_1 := blk_frozen BK128.out 1; have hfz52_2 := blk_frozen BK128.out 2; have hfz52_3 := blk_frozen BK128.out 3; have hfz52_4 := blk_frozen BK128.out 4; have hcz53_0 : w50.cell? ⟨gb126, 0, none⟩ = some (.slice (some ad127) l0_0.length c0_0) := (blk_cell BK126.out 0).trans rfl; have hfz53_0 := blk_frozen BK126.out 0; have p130 : 0 ≤ ((ji46) : Int) := of_decide_eq_true u3_3; have q130 : (ji46) < (l0_0.length : Int) := of_decide_eq_true u3_3; obtain ⟨ad130, e130, hx130_0, hx130_1, hx130_2, hx130_3, hx130_4⟩ := at_T53 HR0_0.out (ji46) p130 q130; obtain rfl : ad127 = ad130 := (by injection e130); have hn130_0 : ad127.block ≠ gb128 := Nat.ne_of_lt (Nat.lt_of_lt_of_le u3_15 GW128.out); have hn130_1 : ad127.block ≠ gb128 := Nat.ne_of_lt (Nat.lt_of_lt_of_le u3_15 GW128.out); have hn130_2 : ad127.block ≠ gb128 := Nat.ne_of_lt (Nat.lt_of_lt_of_le u3_15 GW128.out); have hn130_3 : ad127.block ≠ gb128 := Nat.ne_of_lt (Nat.lt_of_lt_of_le u3_15 GW128.out); have hn130_4 : ad127.block ≠ gb128 := Nat.ne_of_lt (Nat.lt_of_lt_of_le u3_15 GW128.out); replace hx130_0 := (HB.out.cell (World.block_lt_of_cell? w _ hx130_0)).trans hx130_0; replace hx130_1 := (HB.out.cell (World.block_lt_of_cell? w _ hx130_1)).trans hx130_1; replace hx130_2 := (HB.out.cell (World.block_lt_of_cell? w _ hx130_2)).trans hx130_2; replace hx130_3 := (HB.out.cell (World.block_lt_of_cell? w _ hx130_3)).trans hx130_3; replace hx130_4 := (HB.out.cell (World.block_lt_of_cell? w _ hx130_4)).trans hx130_4; replace hx130_0 := (cell_far (p := ⟨gb128, 0, none⟩) u3_9 (.int .u64 ((rd_T53 l0_0 x12_1).f0))).trans hx130_0; replace hx130_1 := (cell_far (p := ⟨gb128, 0, none⟩) u3_9 (.int .u64 ((rd_T53 l0_0 x12_1).f0))).trans hx130_1; replace hx130_2 := (cell_far (p := ⟨gb128, 0, none⟩) u3_9 (.int .u64 ((rd_T53 l0_0 x12_1).f0))).trans hx130_2; replace hx130_3 := (cell_far (p := ⟨gb128, 0, none⟩) u3_9 (.int .u64 ((rd_T53 l0_0 x12_1).f0))).trans hx130_3; replace hx130_4 := (cell_far (p := ⟨gb128, 0, none⟩) u3_9 (.int .u64 ((rd_T53 l0_0 x12_1).f0))).trans hx130_4; replace hx130_0 := (cell_far (p := ⟨gb128, 1, none⟩) u3_10 (.int .u64 ((rd_T53 l0_0 x12_1).f1))).trans hx130_0; replace hx130_1 := (cell_far (p := ⟨gb128, 1, none⟩) u3_10 (.int .u64 ((rd_T53 l0_0 x12_1).f1))).trans hx130_1; replace hx130_2 := (cell_far (p := ⟨gb128, 1, none⟩) u3_10 (.int .u64 ((rd_T53 l0_0 x12_1).f1))).trans hx130_2; replace hx130_3 := (cell_far (p := ⟨gb128, 1, none⟩) u3_10 (.int .u64 ((rd_T53 l0_0 x12_1).f1))).trans hx130_3; replace hx130_4 := (cell_far (p := ⟨gb128, 1, none⟩) u3_10 (.int .u64 ((rd_T53 l0_0 x12_1).f1))).trans hx130_4; replace hx130_0 := (cell_far (p := ⟨gb128, 2, none⟩) u3_11 (.int .u64 ((rd_T53 l0_0 x12_1).f2))).trans hx130_0; replace hx130_1 := (cell_far (p := ⟨gb128, 2, none⟩) u3_11 (.int .u64 ((rd_T53 l0_0 x12_1).f2))).trans hx130_1; replace hx130_2 := (cell_far (p := ⟨gb128, 2, none⟩) u3_11 (.int .u64 ((rd_T53 l0_0 x12_1).f2))).trans hx130_2; replace hx130_3 := (cell_far (p := ⟨gb128, 2, none⟩) u3_11 (.int .u64 ((rd_T53 l0_0 x12_1).f2))).trans hx130_3; replace hx130_4 := (cell_far (p := ⟨gb128, 2, none⟩) u3_11 (.int .u64 ((rd_T53 l0_0 x12_1).f2))).trans hx130_4; replace hx130_0 := (cell_far (p := ⟨gb128, 3, none⟩) u3_12 (.int .u64 ((rd_T53 l0_0 x12_1).f3))).trans hx130_0; replace hx130_1 := (cell_far (p := ⟨gb128, 3, none⟩) u3_12 (.int .u64 ((rd_T53 l0_0 x12_1).f3))).trans hx130_1; replace hx130_2 := (cell_far (p := ⟨gb128, 3, none⟩) u3_12 (.int .u64 ((rd_T53 l0_0 x12_1).f3))).trans hx130_2; replace hx130_3 := (cell_far (p := ⟨gb128, 3, none⟩) u3_12 (.int .u64 ((rd_T53 l0_0 x12_1).f3))).trans hx130_3; replace hx130_4 := (cell_far (p := ⟨gb128, 3, none⟩) u3_12 (.int .u64 ((rd_T53 l0_0 x12_1).f3))).trans hx130_4; replace hx130_0 := (cell_far (p := ⟨gb128, 4, none⟩) u3_13 (.int .i64 ((rd_T53 l0_0 x12_1).f4))).trans hx130_0; replace hx130_1 := (cell_far (p := ⟨gb128, 4, none⟩) u3_13 (.int .i64 ((rd_T53 l0_0 x12_1).f4))).trans hx130_1; replace hx130_2 := (cell_far (p := ⟨gb128, 4, none⟩) u3_13 (.int .i64 ((rd_T53 l0_0 x12_1).f4))).trans hx130_2; replace hx130_3 := (cell_far (p := ⟨gb128, 4, none⟩) u3_13 (.int .i64 ((rd_T53 l0_0 x12_1).f4))).trans hx130_3; replace hx130_4 := (cell_far (p := ⟨gb128, 4, none⟩) u3_13 (.int .i64 ((rd_T53 l0_0 x12_1).f4))).trans hx130_4; (try have hch_ := fun (n_ : Nat) => (show (((((((w50.drewN n_).setCell ⟨gb128, 0, none⟩ (.int .u64 ((rd_T53 l0_0 x12_1).f0))).setCell ⟨gb128, 1, none⟩ (.int .u64 ((rd_T53 l0_0 x12_1).f1))).setCell ⟨gb128, 2, none⟩ (.int .u64 ((rd_T53 l0_0 x12_1).f2))).setCell ⟨gb128, 3, none⟩ (.int .u64 ((rd_T53 l0_0 x12_1).f3))).setCell ⟨gb128, 4, none⟩ (.int .i64 ((rd_T53 l0_0 x12_1).f4)))) = World.drewN ((((((w50.setCell ⟨gb128, 0, none⟩ (.int .u64 ((rd_T53 l0_0 x12_1).f0))).setCell ⟨gb128, 1, none⟩ (.int .u64 ((rd_T53 l0_0 x12_1).f1))).setCell ⟨gb128, 2, none⟩ (.int .u64 ((rd_T53 l0_0 x12_1).f2))).setCell ⟨gb128, 3, none⟩ (.int .u64 ((rd_T53 l0_0 x12_1).f3))).setCell ⟨gb128, 4, none⟩ (.int .i64 ((rd_T53 l0_0 x12_1).f4)))) n_ from by simp only [Go.Proofs.Ytdbfjakhkclggaa.Slc.setCell_drewN])); (try have hy130_0 := fun (n_ : Nat) => Go.Proofs.Ytdbfjakhkclggaa.Slc.cell_of (hch_ n_) hx130_0); (try have hy130_1 := fun (n_ : Nat) => Go.Proofs.Ytdbfjakhkclggaa.Slc.cell_of (hch_ n_) hx130_1); (try have hy130_2 := fun (n_ : Nat) => Go.Proofs.Ytdbfjakhkclggaa.Slc.cell_of (hch_ n_) hx130_2); (try have hy130_3 := fun (n_ : Nat) => Go.Proofs.Ytdbfjakhkclggaa.Slc.cell_of (hch_ n_) hx130_3); (try have hy130_4 := fun (n_ : Nat) => Go.Proofs.Ytdbfjakhkclggaa.Slc.cell_of (hch_ n_) hx130_4); clear hn130_0; clear hn130_1; clear hn130_2; clear hn130_3; clear hn130_4; replace p130 := eq_true p130; replace q130 := eq_true q130)) | go_quiet (fail))
                                  go_ret
                                  exact ⟨by first | rfl | (simp [errW_none, errW_some] <;> rfl) | (simp only [← hji9, ← hji46]; first | rfl | (simp [errW_none, errW_some] <;> rfl)) | (simp [*, errW_none, errW_some] <;> rfl), by repeat (first | (with_reducible first | exact HB.out | apply below_alloc | apply pw_below_drewN | apply below_drew1 | refine below_set ?_ GE126.out | refine below_set ?_ GE128.out) | exact HB.out)⟩
                                · rw [if_neg c49] at H
                                  have c49b0 : decide (((rd_T53 l0_0 x12_1).f0) ≤ ((rd_T53 l0_0 (ji46)).f0)) = false := decide_eq_false c49
                                  clear c49
                                  have H' := Aside0.mk H
                                  clear H
                                  have p127 : 0 ≤ (x12_1 : Int) := of_decide_eq_true u3_3
                                  have q127 : x12_1 < (l0_0.length : Int) := of_decide_eq_true u3_3
                                  obtain ⟨ad127, e127, hx127_0, hx127_1, hx127_2, hx127_3, hx127_4⟩ := at_T53 HR0_0.out x12_1 p127 q127
                                  cases e127
                                  replace hx127_0 := (HB.out.cell (World.block_lt_of_cell? w _ hx127_0)).trans hx127_0
                                  replace hx127_1 := (HB.out.cell (World.block_lt_of_cell? w _ hx127_1)).trans hx127_1
                                  replace hx127_2 := (HB.out.cell (World.block_lt_of_cell? w _ hx127_2)).trans hx127_2
                                  replace hx127_3 := (HB.out.cell (World.block_lt_of_cell? w _ hx127_3)).trans hx127_3
                                  replace hx127_4 := (HB.out.cell (World.block_lt_of_cell? w _ hx127_4)).trans hx127_4
                                  replace p127 := eq_true p127
                                  replace q127 := eq_true q127
                                  go_wp2_with (first | (first | ((with_reducible refine gate_dst (N := 4) rfl ?_); refine box_event ?hg (N := 4) ?hd (cs := #[.int .u64 0, .int .u64 0, .int .u64 0, .int .u64 0, .int .i64 0]) (t := 53) ?hr ?_; (case hd => rfl); (case hg => rfl); (case hr => first | (go_simp; done) | (go_simp; rfl)); intro gb128 hg w54 hbox hb; have n0_ := Aside0.mk (blk_below (g := gb126) (o := .cells #[.slice (some ad127) l0_0.length c0_0] 29 (0, 0)) u3_1 hb); have n1_ := Aside0.mk (below_step u3_0 hb); have n2_ := Aside0.mk (hbox); have n3_ := Aside0.mk ((by rw [hg]; exact (below_size u3_0) : w.heap.size ≤ gb128)); have n4_ := Aside0.mk ((by rw [hg]; exact (below_size u3_0) : w.heap.size ≤ gb128)); have n5_ := Aside0.mk ((by rw [hg]; exact Nat.ne_of_lt (blk_lt (g := gb126) (o := .cells #[.slice (some ad127) l0_0.length c0_0] 29 (0, 0)) u3_1) : gb126 ≠ gb128)); have n6_ := Aside0.mk ((by rw [hg]; exact Nat.ne_of_gt (blk_lt (g := gb126) (o := .cells #[.slice (some ad127) l0_0.length c0_0] 29 (0, 0)) u3_1) : gb128 ≠ gb126)); clear BK126; clear HB; have BK126 := n0_; have HB := n1_; have BK128 := n2_; have GW128 := n3_; have GE128 := n4_; have NB126_128 := n5_; have NB128_126 := n6_; clear n0_ n1_ n2_ n3_ n4_ n5_ n6_; clear hb hbox hg; have hnb55 := NB128_126.out; have hnc55 := NB126_128.out; have hcz56_0 : w54.cell? ⟨gb128, 0, none⟩ = some (.int .u64 0) := (blk_cell BK128.out 0).trans rfl; have hcz56_1 : w54.cell? ⟨gb128, 1, none⟩ = some (.int .u64 0) := (blk_cell BK128.out 1).trans rfl; have hcz56_2 : w54.cell? ⟨gb128, 2, none⟩ = some (.int .u64 0) := (blk_cell BK128.out 2).trans rfl; have hcz56_3 : w54.cell? ⟨gb128, 3, none⟩ = some (.int .u64 0) := (blk_cell BK128.out 3).trans rfl; have hcz56_4 : w54.cell? ⟨gb128, 4, none⟩ = some (.int .i64 0) := (blk_cell BK128.out 4).trans rfl; have hfz56_0 := blk_frozen BK128.out 0; have hfz56_1 := blk_frozen BK128.out 1; have hfz56_2 := blk_frozen BK128.out 2; have hfz56_3 := blk_frozen BK128.out 3; have hfz56_4 := blk_frozen BK128.out 4; have hcz57_0 : w54.cell? ⟨gb126, 0, none⟩ = some (.slice (some ad127) l0_0.length c0_0) := (blk_cell BK126.out 0).trans rfl; have hfz57_0 := blk_frozen BK126.out 0; have p130 : 0 ≤ ((ji46) : Int) := of_decide_eq_true u3_3; have q130 : (ji46) < (l0_0.length : Int) := of_decide_eq_true u3_3; obtain ⟨ad130, e130, hx130_0, hx130_1, hx130_2, hx130_3, hx130_4⟩ := at_T53 HR0_0.out (ji46) p130 q130; obtain rfl : ad127 = ad130 := (by injection e130); have hn130_0 : ad127.block ≠ gb128 := Nat.ne_of_lt (Nat.lt_of_lt_of_le u3_15 GW128.out); have hn130_1 : ad127.block ≠ gb128 := Nat.ne_of_lt (Nat.lt_of_lt_of_le u3_15 GW128.out); have hn130_2 : ad127.block ≠ gb128 := Nat.ne_of_lt (Nat.lt_of_lt_of_le u3_15 GW128.out); have hn130_3 : ad127.block ≠ gb128 := Nat.ne_of_lt (Nat.lt_of_lt_of_le u3_15 GW128.out); have hn130_4 : ad127.block ≠ gb128 := Nat.ne_of_lt (Nat.lt_of_lt_of_le u3_15 GW128.out); replace hx130_0 := (HB.out.cell (World.block_lt_of_cell? w _ hx130_0)).trans hx130_0; replace hx130_1 := (HB.out.cell (World.block_lt_of_cell? w _ hx130_1)).trans hx130_1; replace hx130_2 := (HB.out.cell (World.block_lt_of_cell? w _ hx130_2)).trans hx130_2; replace hx130_3 := (HB.out.cell (World.block_lt_of_cell? w _ hx130_3)).trans hx130_3; replace hx130_4 := (HB.out.cell (World.block_lt_of_cell? w _ hx130_4)).trans hx130_4; replace hx130_0 := (cell_far (p := ⟨gb128, 0, none⟩) u3_9 (.int .u64 ((rd_T53 l0_0 x12_1).f0))).trans hx130_0; replace hx130_1 := (cell_far (p := ⟨gb128, 0, none⟩) u3_9 (.int .u64 ((rd_T53 l0_0 x12_1).f0))).trans hx130_1; replace hx130_2 := (cell_far (p := ⟨gb128, 0, none⟩) u3_9 (.int .u64 ((rd_T53 l0_0 x12_1).f0))).trans hx130_2; replace hx130_3 := (cell_far (p := ⟨gb128, 0, none⟩) u3_9 (.int .u64 ((rd_T53 l0_0 x12_1).f0))).trans hx130_3; replace hx130_4 := (cell_far (p := ⟨gb128, 0, none⟩) u3_9 (.int .u64 ((rd_T53 l0_0 x12_1).f0))).trans hx130_4; replace hx130_0 := (cell_far (p := ⟨gb128, 1, none⟩) u3_10 (.int .u64 ((rd_T53 l0_0 x12_1).f1))).trans hx130_0; replace hx130_1 := (cell_far (p := ⟨gb128, 1, none⟩) u3_10 (.int .u64 ((rd_T53 l0_0 x12_1).f1))).trans hx130_1; replace hx130_2 := (cell_far (p := ⟨gb128, 1, none⟩) u3_10 (.int .u64 ((rd_T53 l0_0 x12_1).f1))).trans hx130_2; replace hx130_3 := (cell_far (p := ⟨gb128, 1, none⟩) u3_10 (.int .u64 ((rd_T53 l0_0 x12_1).f1))).trans hx130_3; replace hx130_4 := (cell_far (p := ⟨gb128, 1, none⟩) u3_10 (.int .u64 ((rd_T53 l0_0 x12_1).f1))).trans hx130_4; replace hx130_0 := (cell_far (p := ⟨gb128, 2, none⟩) u3_11 (.int .u64 ((rd_T53 l0_0 x12_1).f2))).trans hx130_0; replace hx130_1 := (cell_far (p := ⟨gb128, 2, none⟩) u3_11 (.int .u64 ((rd_T53 l0_0 x12_1).f2))).trans hx130_1; replace hx130_2 := (cell_far (p := ⟨gb128, 2, none⟩) u3_11 (.int .u64 ((rd_T53 l0_0 x12_1).f2))).trans hx130_2; replace hx130_3 := (cell_far (p := ⟨gb128, 2, none⟩) u3_11 (.int .u64 ((rd_T53 l0_0 x12_1).f2))).trans hx130_3; replace hx130_4 := (cell_far (p := ⟨gb128, 2, none⟩) u3_11 (.int .u64 ((rd_T53 l0_0 x12_1).f2))).trans hx130_4; replace hx130_0 := (cell_far (p := ⟨gb128, 3, none⟩) u3_12 (.int .u64 ((rd_T53 l0_0 x12_1).f3))).trans hx130_0; replace hx130_1 := (cell_far (p := ⟨gb128, 3, none⟩) u3_12 (.int .u64 ((rd_T53 l0_0 x12_1).f3))).trans hx130_1; replace hx130_2 := (cell_far (p := ⟨gb128, 3, none⟩) u3_12 (.int .u64 ((rd_T53 l0_0 x12_1).f3))).trans hx130_2; replace hx130_3 := (cell_far (p := ⟨gb128, 3, none⟩) u3_12 (.int .u64 ((rd_T53 l0_0 x12_1).f3))).trans hx130_3; replace hx130_4 := (cell_far (p := ⟨gb128, 3, none⟩) u3_12 (.int .u64 ((rd_T53 l0_0 x12_1).f3))).trans hx130_4; replace hx130_0 := (cell_far (p := ⟨gb128, 4, none⟩) u3_13 (.int .i64 ((rd_T53 l0_0 x12_1).f4))).trans hx130_0; replace hx130_1 := (cell_far (p := ⟨gb128, 4, none⟩) u3_13 (.int .i64 ((rd_T53 l0_0 x12_1).f4))).trans hx130_1; replace hx130_2 := (cell_far (p := ⟨gb128, 4, none⟩) u3_13 (.int .i64 ((rd_T53 l0_0 x12_1).f4))).trans hx130_2; replace hx130_3 := (cell_far (p := ⟨gb128, 4, none⟩) u3_13 (.int .i64 ((rd_T53 l0_0 x12_1).f4))).trans hx130_3; replace hx130_4 := (cell_far (p := ⟨gb128, 4, none⟩) u3_13 (.int .i64 ((rd_T53 l0_0 x12_1).f4))).trans hx130_4; (try have hch_ := fun (n_ : Nat) => (show (((((((w54.drewN n_).setCell ⟨gb128, 0, none⟩ (.int .u64 ((rd_T53 l0_0 x12_1).f0))).setCell ⟨gb128, 1, none⟩ (.int .u64 ((rd_T53 l0_0 x12_1).f1))).setCell ⟨gb128, 2, none⟩ (.int .u64 ((rd_T53 l0_0 x12_1).f2))).setCell ⟨gb128, 3, none⟩ (.int .u64 ((rd_T53 l0_0 x12_1).f3))).setCell ⟨gb128, 4, none⟩ (.int .i64 ((rd_T53 l0_0 x12_1).f4)))) = World.drewN ((((((w54.setCell ⟨gb128, 0, none⟩ (.int .u64 ((rd_T53 l0_0 x12_1).f0))).setCell ⟨gb128, 1, none⟩ (.int .u64 ((rd_T53 l0_0 x12_1).f1))).setCell ⟨gb128, 2, none⟩ (.int .u64 ((rd_T53 l0_0 x12_1).f2))).setCell ⟨gb128, 3, none⟩ (.int .u64 ((rd_T53 l0_0 x12_1).f3))).setCell ⟨gb128, 4, none⟩ (.int .i64 ((rd_T53 l0_0 x12_1).f4)))) n_ from by simp only [Go.Proofs.Ytdbfjakhkclggaa.Slc.setCell_drewN])); (try have hy130_0 := fun (n_ : Nat) => Go.Proofs.Ytdbfjakhkclggaa.Slc.cell_of (hch_ n_) hx130_0); (try have hy130_1 := fun (n_ : Nat) => Go.Proofs.Ytdbfjakhkclggaa.Slc.cell_of (hch_ n_) hx130_1); (try have hy130_2 := fun (n_ : Nat) => Go.Proofs.Ytdbfjakhkclggaa.Slc.cell_of (hch_ n_) hx130_2); (try have hy130_3 := fun (n_ : Nat) => Go.Proofs.Ytdbfjakhkclggaa.Slc.cell_of (hch_ n_) hx130_3); (try have hy130_4 := fun (n_ : Nat) => Go.Proofs.Ytdbfjakhkclggaa.Slc.cell_of (hch_ n_) hx130_4); clear hn130_0; clear hn130_1; clear hn130_2; clear hn130_3; clear hn130_4; replace p130 := eq_true p130; replace q130 := eq_true q130)) | go_quiet (fail))
                                  go_roundg k1
                                  case measure => have := HK1.out; omega
                                  case rel => exact ⟨(wrap64 (x12_1 + 1)), u3_24, H', ⟨by have := HK1.out; omega⟩, ⟨by (with_reducible repeat (first | refine blk_drewN ?_ _ | refine blk_drew ?_ | refine blk_alloc ?_ _)); refine blk_far ?_ NB126_128.out _; (with_reducible repeat (first | refine blk_drewN ?_ _ | refine blk_drew ?_ | refine blk_alloc ?_ _)); refine blk_far ?_ NB126_128.out _; (with_reducible repeat (first | refine blk_drewN ?_ _ | refine blk_drew ?_ | refine blk_alloc ?_ _)); refine blk_far ?_ NB126_128.out _; (with_reducible repeat (first | refine blk_drewN ?_ _ | refine blk_drew ?_ | refine blk_alloc ?_ _)); refine blk_far ?_ NB126_128.out _; (with_reducible repeat (first | refine blk_drewN ?_ _ | refine blk_drew ?_ | refine blk_alloc ?_ _)); refine blk_far ?_ NB126_128.out _; (with_reducible repeat (first | refine blk_drewN ?_ _ | refine blk_drew ?_ | refine blk_alloc ?_ _)); exact BK126.out⟩, ⟨by repeat (first | (with_reducible first | exact HB.out | apply below_alloc | apply pw_below_drewN | apply below_drew1 | refine below_set ?_ GE126.out | refine below_set ?_ GE128.out) | exact HB.out)⟩⟩
                              · rw [if_neg c48] at H
                                exact absurd H (by simp)
                            · rw [if_neg c47] at H
                              exact absurd H (by simp)
                          · rw [if_neg c45] at H
                            have c45b0 : decide (0 < x12_1) = false := decide_eq_false c45
                            clear c45
                            have H' := Aside0.mk H
                            clear H
                            have p127 : 0 ≤ (x12_1 : Int) := of_decide_eq_true u3_3
                            have q127 : x12_1 < (l0_0.length : Int) := of_decide_eq_true u3_3
                            obtain ⟨ad127, e127, hx127_0, hx127_1, hx127_2, hx127_3, hx127_4⟩ := at_T53 HR0_0.out x12_1 p127 q127
                            cases e127
                            replace hx127_0 := (HB.out.cell (World.block_lt_of_cell? w _ hx127_0)).trans hx127_0
                            replace hx127_1 := (HB.out.cell (World.block_lt_of_cell? w _ hx127_1)).trans hx127_1
                            replace hx127_2 := (HB.out.cell (World.block_lt_of_cell? w _ hx127_2)).trans hx127_2
                            replace hx127_3 := (HB.out.cell (World.block_lt_of_cell? w _ hx127_3)).trans hx127_3
                            replace hx127_4 := (HB.out.cell (World.block_lt_of_cell? w _ hx127_4)).trans hx127_4
                            replace p127 := eq_true p127
                            replace q127 := eq_true q127
                            go_wp2_with (first | (first | ((with_reducible refine gate_dst (N := 4) rfl ?_); refine box_event ?hg (N := 4) ?hd (cs := #[.int .u64 0, .int .u64 0, .int .u64 0, .int .u64 0, .int .i64 0]) (t := 53) ?hr ?_; (case hd => rfl); (case hg => rfl); (case hr => first | (go_simp; done) | (go_simp; rfl)); intro gb128 hg w58 hbox hb; have n0_ := Aside0.mk (blk_below (g := gb126) (o := .cells #[.slice (some ad127) l0_0.length c0_0] 29 (0, 0)) u3_1 hb); have n1_ := Aside0.mk (below_step u3_0 hb); have n2_ := Aside0.mk (hbox); have n3_ := Aside0.mk ((by rw [hg]; exact (below_size u3_0) : w.heap.size ≤ gb128)); have n4_ := Aside0.mk ((by rw [hg]; exact (below_size u3_0) : w.heap.size ≤ gb128)); have n5_ := Aside0.mk ((by rw [hg]; exact Nat.ne_of_lt (blk_lt (g := gb126) (o := .cells #[.slice (some ad127) l0_0.length c0_0] 29 (0, 0)) u3_1) : gb126 ≠ gb128)); have n6_ := Aside0.mk ((by rw [hg]; exact Nat.ne_of_gt (blk_lt (g := gb126) (o := .cells #[.slice (some ad127) l0_0.length c0_0] 29 (0, 0)) u3_1) : gb128 ≠ gb126)); clear BK126; clear HB; have BK126 := n0_; have HB := n1_; have BK128 := n2_; have GW128 := n3_; have GE128 := n4_; have NB126_128 := n5_; have NB128_126 := n6_; clear n0_ n1_ n2_ n3_ n4_ n5_ n6_; clear hb hbox hg; have hnb59 := NB128_126.out; have hnc59 := NB126_128.out; have hcz60_0 : w58.cell? ⟨gb128, 0, none⟩ = some (.int .u64 0) := (blk_cell BK128.out 0).trans rfl; have hcz60_1 : w58.cell? ⟨gb128, 1, none⟩ = some (.int .u64 0) := (blk_cell BK128.out 1).trans rfl; have hcz60_2 : w58.cell? ⟨gb128, 2, none⟩ = some (.int .u64 0) := (blk_cell BK128.out 2).trans rfl; have hcz60_3 : w58.cell? ⟨gb128, 3, none⟩ = some (.int .u64 0) := (blk_cell BK128.out 3).trans rfl; have hcz60_4 : w58.cell? ⟨gb128, 4, none⟩ = some (.int .i64 0) := (blk_cell BK128.out 4).trans rfl; have hfz60_0 := blk_frozen BK128.out 0; have hfz60_1 := blk_frozen BK128.out 1; have hfz60_2 := blk_frozen BK128.out 2; have hfz60_3 := blk_frozen BK128.out 3; have hfz60_4 := blk_frozen BK128.out 4)) | go_quiet (fail))
                            go_roundg k1
                            case measure => have := HK1.out; omega
                            case rel => exact ⟨(wrap64 (x12_1 + 1)), u3_24, H', ⟨by have := HK1.out; omega⟩, ⟨by (with_reducible repeat (first | refine blk_drewN ?_ _ | refine blk_drew ?_ | refine blk_alloc ?_ _)); refine blk_far ?_ NB126_128.out _; (with_reducible repeat (first | refine blk_drewN ?_ _ | refine blk_drew ?_ | refine blk_alloc ?_ _)); refine blk_far ?_ NB126_128.out _; (with_reducible repeat (first | refine blk_drewN ?_ _ | refine blk_drew ?_ | refine blk_alloc ?_ _)); refine blk_far ?_ NB126_128.out _; (with_reducible repeat (first | refine blk_drewN ?_ _ | refine blk_drew ?_ | refine blk_alloc ?_ _)); refine blk_far ?_ NB126_128.out _; (with_reducible repeat (first | refine blk_drewN ?_ _ | refine blk_drew ?_ | refine blk_alloc ?_ _)); refine blk_far ?_ NB126_128.out _; (with_reducible repeat (first | refine blk_drewN ?_ _ | refine blk_drew ?_ | refine blk_alloc ?_ _)); exact BK126.out⟩, ⟨by repeat (first | (with_reducible first | exact HB.out | apply below_alloc | apply pw_below_drewN | apply below_drew1 | refine below_set ?_ GE126.out | refine below_set ?_ GE128.out) | exact HB.out)⟩⟩
                  · rw [if_neg c11] at H
                    exact absurd H (by simp)
                · rw [if_neg c10] at H
                  exact absurd H (by simp)
              · rw [if_neg c8] at H
                exact absurd H (by simp)
            · rw [if_neg c7] at H
              exact absurd H (by simp)
          · rw [if_neg c6] at H
            exact absurd H (by simp)
        · rw [if_neg c5] at H
          exact absurd H (by simp)
      · rw [if_neg c4] at H
        have c4b0 : decide (x12_1 < (l0_0.length : Int)) = false := decide_eq_false c4
        clear c4
        obtain rfl := Option.some.inj H
        have hcz61_0 : wr.cell? ⟨gb126, 0, none⟩ = some (.slice A0_0 l0_0.length c0_0) := (blk_cell BK126.out 0).trans rfl
        have hfz61_0 := blk_frozen BK126.out 0
        go_wp2
        repeat (go_quiet (fail); try go_wp2)
        go_ret
        exact ⟨by first | rfl | (simp [errW_none, errW_some] <;> rfl) | (simp [*, errW_none, errW_some] <;> rfl), by repeat (first | (with_reducible first | exact HB.out | apply below_alloc | apply pw_below_drewN | apply below_drew1 | refine below_set ?_ GE126.out) | exact HB.out)⟩

/-! ### impl_BookOk: function 20 -/
def impl_BookOk.f (k : Nat) (l0_0 : List (S53)) : Option (Bool) := (impl_isBook.f k l0_0).bind fun t132 => (some t132)
theorem impl_BookOk.mono : ∀ a0 k, LeO (impl_BookOk.f k a0) (impl_BookOk.f (k + 1) a0) := by
  intro a0 k
  unfold impl_BookOk.f
  repeat' first
      | (with_reducible exact impl_isBook.mono _ _)
      | (with_reducible exact LeO.refl _)
      | (with_reducible exact LeO.none _)
      | (with_reducible refine LeO.ite ?_ ?_)
      | (with_reducible refine LeO.bind ?_ (fun _ => ?_))
      | exact impl_isBook.mono _ _
      | exact LeO.none _
      | refine LeO.ite ?_ ?_
      | refine LeO.bind ?_ (fun _ => ?_)
set_option maxHeartbeats 8000000 in
set_option maxRecDepth 100000 in
theorem impl_BookOk.calls (k : Nat) (A0_0 : Option Addr) (c0_0 : Nat) (l0_0 : List (S53)) (r : Bool) (w : World) (hr0_0 : Kd.C k53 w A0_0 l0_0.length l0_0) (hc0_0 : l0_0.length ≤ c0_0) (h : impl_BookOk.f k l0_0 = some r) :
    Calls Try.prog 20 #[.agg #[.slice A0_0 l0_0.length c0_0]] w fun e w' => e = .returned (.bool r) ∧ Below w.heap.size w w' := by
  have hu29 := Try.underlying29
  have HR0_0 := Aside0.mk hr0_0
  have HC0_0 := Aside0.mk hc0_0
  clear hr0_0 hc0_0
  have HB := Aside0.mk (Below.refl w.heap.size w)
  have H : ((impl_isBook.f k l0_0).bind fun t132 => (some t132)) = some r := h
  clear h
  replace H := Option.bind_eq_some_iff.mp H
  obtain ⟨t132, A20, H⟩ := H
  replace H : (some t132) = some r := H
  have A2 := Aside0.mk A20
  clear A20
  obtain rfl := Option.some.inj H
  go_enter Try.func20, Try.ntmps20
  go_wp2_with (first | ((with_reducible refine gate_dst (N := 1) rfl ?_); refine box_event ?hg (N := 1) ?hd (cs := #[.slice A0_0 l0_0.length c0_0]) (t := 29) ?hr ?_; (case hd => rfl); (case hg => rfl); (case hr => first | (go_simp; done) | (go_simp; rfl)); intro gb131 hg w3 hbox hb; have n0_ := Aside0.mk (below_step u3_2 hb); have n1_ := Aside0.mk (hbox); have n2_ := Aside0.mk ((by rw [hg]; exact (below_size u3_2) : w.heap.size ≤ gb131)); have n3_ := Aside0.mk ((by rw [hg]; exact (below_size u3_2) : w.heap.size ≤ gb131)); clear HB; have HB := n0_; have BK131 := n1_; have GW131 := n2_; have GE131 := n3_; clear n0_ n1_ n2_ n3_; clear hb hbox hg; have hcz4_0 : w3.cell? ⟨gb131, 0, none⟩ = some (.slice A0_0 l0_0.length c0_0) := (blk_cell BK131.out 0).trans rfl; have hfz4_0 := blk_frozen BK131.out 0) | ((with_reducible refine gate_callee (f := 50) rfl ?_); refine goesL_ (some 4) rfl rfl Try.func50 (by kernel_rfl) rfl #[.agg #[.slice A0_0 l0_0.length c0_0]] rfl u3_23 ?_; (with_reducible refine (impl_isBook.calls k _ _ l0_0 t132 _ ?side1 ?side2 A2.out).mono ?_); (case side1 => repeat (first | exact (Kd.C_below HR0_0.out HB.out) | (with_reducible refine Kd.C_alloc ?_ _) | (with_reducible refine Kd.C_drewN ?_ _) | (with_reducible refine Kd.C_drew ?_))); (case side2 => exact HC0_0.out); rintro e w5 ⟨rfl, hb⟩; refine ⟨_, rfl, ?_⟩; have n0_ := Aside0.mk (blk_below (g := gb131) (o := .cells #[.slice A0_0 l0_0.length c0_0] 29 (0, 0)) (by (with_reducible repeat (first | refine blk_drewN ?_ _ | refine blk_drew ?_ | refine blk_alloc ?_ _)); exact BK131.out) hb); have n1_ := Aside0.mk (below_step (by repeat (first | (with_reducible first | exact HB.out | apply below_alloc | apply pw_below_drewN | apply below_drew1 | refine below_set ?_ GE131.out) | exact HB.out)) hb); clear BK131; clear HB; have BK131 := n0_; have HB := n1_; clear n0_ n1_; (try clear hb); (try clear hb2); (try clear hk); (try clear hi)))
  go_ret
  exact ⟨by first | rfl | (simp [errW_none, errW_some] <;> rfl) | (simp [*, errW_none, errW_some] <;> rfl), by repeat (first | (with_reducible first | exact HB.out | apply below_alloc | apply pw_below_drewN | apply below_drew1 | refine below_set ?_ GE131.out) | exact HB.out)⟩

end Go.Proofs.Ytdbfjakhkclggaa.QFnExactBookOk
