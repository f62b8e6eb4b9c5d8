-- Printed by the session's own program wip/prx.py.
import Derived.Test.YtjdpifafijcpbaaDoorSqFnExactOnceEach
import Derived.Test.YtjdpifafijcpbaaDoorQFnExactOnceEachx0
import Derived.Test.YtjdpifafijcpbaaDoorQFnExactOnceEachx1
import Derived.Test.YtjdpifafijcpbaaDoorQFnExactOnceEachx2
namespace Go.Proofs.YtjdpifafijcpbaaDoor.QFnExactOnceEach
open Go.RowKit Go.Proofs.YtjdpifafijcpbaaDoorW.PrintWords Go.Proofs.YtjdpifafijcpbaaDoorW.PrintLast Go.Proofs.YtjdpifafijcpbaaDoorW.PrintMore Go.Proofs.YtjdpifafijcpbaaDoor.SqFnExactOnceEach
attribute [local go_sem] max2_int min2_int max_two min_two max_three min_three max_four min_four Go.Proofs.YtjdpifafijcpbaaDoor.Set.isSome_setCell
set_option linter.unusedVariables false
set_option linter.unusedSimpArgs false

-- squeezed
theorem u3_1 {P : Prop} (h : P := by (with_reducible repeat (first | refine blk_drewN ?_ _ | refine blk_drew ?_ | refine blk_alloc ?_ _)); exact BK130.out) : P := h
theorem u3_5 {P : Prop} (h : P := by (with_reducible repeat (first | refine blk_drewN ?_ _ | refine blk_drew ?_ | refine blk_alloc ?_ _)); exact BK119.out) : P := h
theorem u3_8 {P : Prop} (h : P := by (with_reducible repeat (first | refine blk_drewN ?_ _ | refine blk_drew ?_ | refine blk_alloc ?_ _)); exact BK126.out) : P := h
theorem u3_10 {P : Prop} (h : P := by (with_reducible repeat (first | refine blk_drewN ?_ _ | refine blk_drew ?_ | refine blk_alloc ?_ _)); exact BK120.out) : P := h
theorem u3_15 {P : Prop} (h : P := by (with_reducible repeat (first | refine blk_drewN ?_ _ | refine blk_drew ?_ | refine blk_alloc ?_ _)); exact BK127.out) : P := h
/-! ### spec_l09Copy: function 28 -/
def spec_l09Copy.l0 : Nat → Int → Int → Int → List (S54) → Int → Int → List (S54) → Option (Int × Int × (List (S54)))
 | 0, _, _, _, _, _, _, _ => none
 | k + 1, x4, x120000, x120001, x120002, x122000, x122001, x122002 => if x4 < (x120002.length : Int) then (if 0 ≤ x4 then (if x122002.length < 3518437208883 then (spec_l09Copy.l0 k (wrap64 (x4 + 1)) x120000 x120001 x120002 x122000 x122001 (x122002 ++ [(⟨(rd_T54 x120002 x4).f0, (rd_T54 x120002 x4).f1, (rd_T54 x120002 x4).f2, (rd_T54 x120002 x4).f3⟩ : S54)])) else (none)) else (none)) else (some (x122000, x122001, x122002))
def spec_l09Copy.f (k : Nat) (a0_0 : Int) (a0_1 : Int) (l0_2 : List (S54)) : Option (Int × Int × (List (S54))) := spec_l09Copy.l0 k 0 a0_0 a0_1 l0_2 a0_0 a0_1 ([] : List (S54))
theorem spec_l09Copy.mono_l : ∀ k, (∀ y0 y1 y2 y3 y4 y5 y6, LeO (spec_l09Copy.l0 k y0 y1 y2 y3 y4 y5 y6) (spec_l09Copy.l0 (k + 1) y0 y1 y2 y3 y4 y5 y6))
 | 0 => fun _ _ _ _ _ _ _ r h => by simp [spec_l09Copy.l0] at h
 | k + 1 => by
   have ih0 := spec_l09Copy.mono_l k
   · intro y0 y1 y2 y3 y4 y5 y6
     unfold spec_l09Copy.l0
     repeat' first
     | (with_reducible exact ih0 _ _ _ _ _ _ _)
     | (with_reducible exact LeO.refl _)
     | (with_reducible exact LeO.none _)
     | (with_reducible refine LeO.ite ?_ ?_)
     | (with_reducible refine LeO.bind ?_ (fun _ => ?_))
     | exact ih0 _ _ _ _ _ _ _
     | exact LeO.none _
     | refine LeO.ite ?_ ?_
     | refine LeO.bind ?_ (fun _ => ?_)
theorem spec_l09Copy.mono : ∀ a0 a1 a2 k, LeO (spec_l09Copy.f k a0 a1 a2) (spec_l09Copy.f (k + 1) a0 a1 a2) := by
 intro a0 a1 a2 k
 have ih0 := spec_l09Copy.mono_l k
 unfold spec_l09Copy.f
 repeat' first
     | (with_reducible exact ih0 _ _ _ _ _ _ _)
     | (with_reducible exact LeO.refl _)
     | (with_reducible exact LeO.none _)
     | (with_reducible refine LeO.ite ?_ ?_)
     | (with_reducible refine LeO.bind ?_ (fun _ => ?_))
     | exact ih0 _ _ _ _ _ _ _
     | exact LeO.none _
     | refine LeO.ite ?_ ?_
     | refine LeO.bind ?_ (fun _ => ?_)
def spec_l09Copy.T5 : Bool × List (List Nat × List Nat) := (true, [([], []), ([0], [0]), ([], []), ([2], [2]), ([], []), ([3, 4], [3, 4]), ([5], [5]), ([6], [6]), ([1, 7], [1, 7]), ([0, 1, 2, 3, 4, 5, 6, 7, 8], []), ([9, 8, 8, 0, 1, 2, 3, 4, 5, 6, 7, 8], [8, 9])])
def spec_l09Copy.B5 : List Nat := [0, 1, 0, 4, 0, 28, 60, 124, 255, 511, 1023]
theorem spec_l09Copy.tab5 : rtab .any (opsOf Tryd.f28 5) = spec_l09Copy.T5 := by kernel_rfl
theorem spec_l09Copy.bits5 : waitsOk spec_l09Copy.T5.2 spec_l09Copy.B5 = true := by kernel_rfl
set_option maxHeartbeats 8000000 in
set_option maxRecDepth 100000 in
theorem spec_l09Copy.calls (k : Nat) (a0_0 : Int) (a0_1 : Int) (A0_2 : Option Addr) (c0_2 : Nat) (l0_2 : List (S54)) (r1 : Int) (r2 : Int) (r3 : List (S54)) (w : World) (hr0_2 : Kd.C k54 w A0_2 l0_2.length l0_2) (hc0_2 : l0_2.length ≤ c0_2) (h : spec_l09Copy.f k a0_0 a0_1 l0_2 = some (r1, r2, r3)) :
   Calls Tryd.prog 28 #[.agg #[.int .i64 a0_0, .int .i64 a0_1, .slice A0_2 l0_2.length c0_2]] w fun e w' => ∃ v2_ : Value, e = .returned (.agg #[.int .i64 r1, .int .i64 r2, v2_]) ∧ Kd.R k54 54 w' w.heap.size (fun _ => True) v2_ r3 ∧ Below w.heap.size w w' := by
 have hu30 := Tryd.underlying30
 have hu54 := Tryd.underlying54
 have HR0_2 := am hr0_2
 have HC0_2 := am hc0_2
 clear hr0_2 hc0_2
 have HB := am (Below.refl w.heap.size w)
 have H : (spec_l09Copy.l0 k 0 a0_0 a0_1 l0_2 a0_0 a0_1 ([] : List (S54))) = some (r1, r2, r3) := h
 clear h
 have H' := am H
 clear H
 go_enter Tryd.func28, Tryd.ntmps28
 go_wp2_with (first | ((with_reducible refine gate_dst (N := 1) rfl ?_); refine box_event ?hg (N := 1) ?hd (cs := #[.int .i64 a0_0, .int .i64 a0_1, .slice A0_2 l0_2.length c0_2]) (t := 30) ?hr ?_; (case hd => rfl); (case hg => rfl); (case hr => first | (go_simp; done) | (go_simp; rfl)); intro gb119 hg w2 hbox hb; have BK119 := am (hbox); have GW119 := am ((by rw [hg]; exact (below_size q1) : w.heap.size ≤ gb119)); have GE119 := am ((by rw [hg]; exact (below_size q1) : w.heap.size ≤ gb119)); replace HB := am (below_step q1 hb); clear hb hbox hg) | ((with_reducible refine gate_dst (N := 2) rfl ?_); refine box_event ?hg (N := 2) ?hd (cs := #[.int .i64 0, .int .i64 0, .slice none 0 0]) (t := 30) ?hr ?_; (case hd => rfl); (case hg => rfl); (case hr => first | (go_simp; done) | (go_simp; rfl)); intro gb120 hg w3 hbox hb; have BK120 := am (hbox); have GW120 := am ((by rw [hg]; exact (below_size q1) : w.heap.size ≤ gb120)); have GE120 := am ((by rw [hg]; exact (below_size q1) : w.heap.size ≤ gb120)); replace HB := am (below_step q1 hb); have NB119_120 := am ((by rw [hg]; exact Nat.ne_of_lt (blk_lt (g := gb119) (o := .cells #[.int .i64 a0_0, .int .i64 a0_1, .slice A0_2 l0_2.length c0_2] 30 (0, 0)) u3_5) : gb119 ≠ gb120)); have NB120_119 := am ((by rw [hg]; exact Nat.ne_of_gt (blk_lt (g := gb119) (o := .cells #[.int .i64 a0_0, .int .i64 a0_1, .slice A0_2 l0_2.length c0_2] 30 (0, 0)) u3_5) : gb120 ≠ gb119)); replace BK119 := am (blk_below (g := gb119) (o := .cells #[.int .i64 a0_0, .int .i64 a0_1, .slice A0_2 l0_2.length c0_2] 30 (0, 0)) u3_5 hb); clear hb hbox hg; have hnb4 := NB119_120.out; have hnc4 := NB120_119.out; obtain ⟨hcz5_0, hcz5_1, hcz5_2, hfz5_0, hfz5_1, hfz5_2⟩ := bc3f w3 BK119.out) | ((with_reducible refine gate_dst (N := 3) rfl ?_); refine box_event ?hg (N := 3) ?hd (cs := #[.int .i64 0, .int .i64 0, .slice none 0 0]) (t := 30) ?hr ?_; (case hd => rfl); (case hg => rfl); (case hr => first | (go_simp; done) | (go_simp; rfl)); intro gb121 hg w6 hbox hb; have BK121 := am (hbox); have GW121 := am ((by rw [hg]; exact (below_size q1) : w.heap.size ≤ gb121)); have GE121 := am ((by rw [hg]; exact (below_size q1) : w.heap.size ≤ gb121)); replace HB := am (below_step q1 hb); have NB119_121 := am ((by rw [hg]; exact Nat.ne_of_lt (blk_lt (g := gb119) (o := .cells #[.int .i64 a0_0, .int .i64 a0_1, .slice A0_2 l0_2.length c0_2] 30 (0, 0)) u3_5) : gb119 ≠ gb121)); have NB121_119 := am ((by rw [hg]; exact Nat.ne_of_gt (blk_lt (g := gb119) (o := .cells #[.int .i64 a0_0, .int .i64 a0_1, .slice A0_2 l0_2.length c0_2] 30 (0, 0)) u3_5) : gb121 ≠ gb119)); replace BK119 := am (blk_below (g := gb119) (o := .cells #[.int .i64 a0_0, .int .i64 a0_1, .slice A0_2 l0_2.length c0_2] 30 (0, 0)) u3_5 hb); have NB120_121 := am ((by rw [hg]; exact Nat.ne_of_lt (blk_lt (g := gb120) (o := .cells #[.int .i64 0, .int .i64 0, .slice none 0 0] 30 (0, 0)) u3_10) : gb120 ≠ gb121)); have NB121_120 := am ((by rw [hg]; exact Nat.ne_of_gt (blk_lt (g := gb120) (o := .cells #[.int .i64 0, .int .i64 0, .slice none 0 0] 30 (0, 0)) u3_10) : gb121 ≠ gb120)); replace BK120 := am (blk_below (g := gb120) (o := .cells #[.int .i64 0, .int .i64 0, .slice none 0 0] 30 (0, 0)) u3_10 hb); clear hb hbox hg; have hnb7 := NB121_119.out; have hnc7 := NB119_121.out; have hnb8 := NB121_120.out; have hnc8 := NB120_121.out; obtain ⟨hcz9_0, hcz9_1, hcz9_2, hfz9_0, hfz9_1, hfz9_2⟩ := bc3f w6 BK121.out))
 go_loopg [4] k (fun kq v4 w' => ∃ (x4_1 : Int) (x122002_1 : List (S54)) (u122002 : Value), v4 = .int .i64 x4_1 ∧ Aside0 (spec_l09Copy.l0 kq x4_1 a0_0 a0_1 l0_2 a0_0 a0_1 x122002_1 = some (r1, r2, r3)) ∧ Aside0 (kq ≤ k) ∧ Aside0 (Kd.R k54 54 w' w.heap.size (fun _ => True) u122002 x122002_1) ∧ Aside0 (w'.heap[gb119]? = some (.cells #[.int .i64 a0_0, .int .i64 a0_1, (.slice A0_2 l0_2.length c0_2)] 30 (0, 0))) ∧ Aside0 (w'.heap[gb120]? = some (.cells #[.int .i64 0, .int .i64 0, (.slice none 0 0)] 30 (0, 0))) ∧ Aside0 (w'.heap[gb121]? = some (.cells #[.int .i64 a0_0, .int .i64 a0_1, u122002] 30 (0, 0))) ∧ Aside0 (Below w.heap.size w w'))
 case atStart => exact ⟨(0), (([] : List (S54))), (.slice none 0 0), q2, H', ⟨Nat.le_refl _⟩, ⟨(by first | exact Kd.R_nil _ _ _ _ _ | exact Kd.N_nil _ _ _ _ _ | exact Kd.V_nil _ _ _ _ _ | exact Kd.Q_nil _ _ _ _ _ | exact Kd.S_nil _ _ _ _ _)⟩, ⟨(by (with_reducible repeat (first | refine blk_drewN ?_ _ | refine blk_drew ?_ | refine blk_alloc ?_ _)); refine blk_far ?_ NB119_121.out _; (with_reducible repeat (first | refine blk_drewN ?_ _ | refine blk_drew ?_ | refine blk_alloc ?_ _)); refine blk_far ?_ NB119_121.out _; (with_reducible repeat (first | refine blk_drewN ?_ _ | refine blk_drew ?_ | refine blk_alloc ?_ _)); refine blk_far ?_ NB119_121.out _; (with_reducible repeat (first | refine blk_drewN ?_ _ | refine blk_drew ?_ | refine blk_alloc ?_ _)); exact BK119.out)⟩, ⟨(by (with_reducible repeat (first | refine blk_drewN ?_ _ | refine blk_drew ?_ | refine blk_alloc ?_ _)); refine blk_far ?_ NB120_121.out _; (with_reducible repeat (first | refine blk_drewN ?_ _ | refine blk_drew ?_ | refine blk_alloc ?_ _)); refine blk_far ?_ NB120_121.out _; (with_reducible repeat (first | refine blk_drewN ?_ _ | refine blk_drew ?_ | refine blk_alloc ?_ _)); refine blk_far ?_ NB120_121.out _; (with_reducible repeat (first | refine blk_drewN ?_ _ | refine blk_drew ?_ | refine blk_alloc ?_ _)); exact BK120.out)⟩, ⟨(by (with_reducible repeat (first | refine blk_drewN ?_ _ | refine blk_drew ?_ | refine blk_alloc ?_ _)); refine blk_put (cs := #[.int .i64 a0_0, .int .i64 a0_1, .slice none 0 0]) ?_ 2 _ rfl; (with_reducible repeat (first | refine blk_drewN ?_ _ | refine blk_drew ?_ | refine blk_alloc ?_ _)); refine blk_put (cs := #[.int .i64 a0_0, .int .i64 0, .slice none 0 0]) ?_ 1 _ rfl; (with_reducible repeat (first | refine blk_drewN ?_ _ | refine blk_drew ?_ | refine blk_alloc ?_ _)); refine blk_put (cs := #[.int .i64 0, .int .i64 0, .slice none 0 0]) ?_ 0 _ rfl; (with_reducible repeat (first | refine blk_drewN ?_ _ | refine blk_drew ?_ | refine blk_alloc ?_ _)); exact BK121.out)⟩, ⟨q1⟩⟩
 clear H'
 try clear hcz5_0
 try clear hcz5_1
 try clear hcz5_2
 try clear hcz9_0
 try clear hcz9_1
 try clear hcz9_2
 try clear hfz5_0
 try clear hfz5_1
 try clear hfz5_2
 try clear hfz9_0
 try clear hfz9_1
 try clear hfz9_2
 obtain ⟨x4_1, x122002_1, u122002, rfl, HA, HK1, HO_122002, BK119, BK120, BK121, HB⟩ := hrel
 cases gk with
 | zero => exact absurd HA.out (by simp [spec_l09Copy.l0])
 | succ k1 =>
   have H := HA.out
   clear HA
   simp only [spec_l09Copy.l0] at H
   by_cases c10 : x4_1 < (l0_2.length : Int)
   rotate_left
   · rw [if_neg c10] at H
     have c10b0 : decide (x4_1 < (l0_2.length : Int)) = false := decide_eq_false c10
     clear c10
     simp only [Option.some.injEq, Prod.mk.injEq] at H
     obtain ⟨rfl, rfl, rfl⟩ := H
     have hnb20 := NB119_120.out
     have hnc20 := NB120_119.out
     have hnb21 := NB119_121.out
     have hnc21 := NB121_119.out
     obtain ⟨hcz22_0, hcz22_1, hcz22_2, hfz22_0, hfz22_1, hfz22_2⟩ := bc3f wr BK119.out
     have hnb23 := NB121_120.out
     have hnc23 := NB120_121.out
     obtain ⟨hcz24_0, hcz24_1, hcz24_2, hfz24_0, hfz24_1, hfz24_2⟩ := bc3f wr BK121.out
     obtain ⟨hcz25_0, hcz25_1, hcz25_2, hfz25_0, hfz25_1, hfz25_2⟩ := bc3f wr BK120.out
     obtain ⟨Ao26, co26, eo26⟩ := Kd.R_slice HO_122002.out
     subst eo26
     go_wp2
     refine bodyPost_ret (results_cell_row rfl _ _ gb120 30 #[.int .i64 a0_0, .int .i64 a0_1, .slice Ao26 x122002_1.length co26] (0, 0) _ rfl (by (with_reducible repeat (first | refine blk_drewN ?_ _ | refine blk_drew ?_ | refine blk_alloc ?_ _)); refine blk_put (cs := #[.int .i64 a0_0, .int .i64 a0_1, .slice none 0 0]) ?_ 2 _ rfl; (with_reducible repeat (first | refine blk_drewN ?_ _ | refine blk_drew ?_ | refine blk_alloc ?_ _)); refine blk_put (cs := #[.int .i64 a0_0, .int .i64 0, .slice none 0 0]) ?_ 1 _ rfl; (with_reducible repeat (first | refine blk_drewN ?_ _ | refine blk_drew ?_ | refine blk_alloc ?_ _)); refine blk_put (cs := #[.int .i64 0, .int .i64 0, .slice none 0 0]) ?_ 0 _ rfl; (with_reducible repeat (first | refine blk_drewN ?_ _ | refine blk_drew ?_ | refine blk_alloc ?_ _)); exact BK120.out) Tryd.underlying30 rfl kr) rfl ?_
     exact ⟨_, er, (by (with_reducible repeat (first | apply Kd.R_alloc | apply Kd.R_drewN | apply Kd.R_drew)); exact Kd.R_mono (Kd.R_far (p := ⟨gb120, 2, none⟩) (Kd.R_far (p := ⟨gb120, 1, none⟩) (Kd.R_far (p := ⟨gb120, 0, none⟩) (Kd.R_types HO_122002.out BK120.out (by decide)) (fun _ hk => hk.2) (.int .i64 a0_0)) (fun _ hk => hk.2) (.int .i64 a0_1)) (fun _ hk => hk.2) (.slice Ao26 x122002_1.length co26)) (fun _ hk => trivial)), q1⟩
   rw [if_pos c10] at H
   have c10b0 : decide (x4_1 < (l0_2.length : Int)) = true := decide_eq_true c10
   clear c10
   by_cases c11 : 0 ≤ x4_1
   rotate_left
   · rw [if_neg c11] at H
     exact absurd H (by simp)
   rw [if_pos c11] at H
   have c11b0 : decide (0 ≤ x4_1) = true := decide_eq_true c11
   clear c11
   by_cases c12 : x122002_1.length < 3518437208883
   rotate_left
   · rw [if_neg c12] at H
     exact absurd H (by simp)
   rw [if_pos c12] at H
   have LMc12 := am c12
   clear c12
   obtain ⟨y123, hy123⟩ : ∃ y_ : List (S54), y_ = (x122002_1 ++ [(⟨(rd_T54 l0_2 x4_1).f0, (rd_T54 l0_2 x4_1).f1, (rd_T54 l0_2 x4_1).f2, (rd_T54 l0_2 x4_1).f3⟩ : S54)]) := ⟨_, rfl⟩
   replace H : (spec_l09Copy.l0 k1 (wrap64 (x4_1 + 1)) a0_0 a0_1 l0_2 a0_0 a0_1 y123) = some (r1, r2, r3) := by first | (rw [hy123]; with_reducible exact H) | (have H2_ := (Option.bind_some _ _).symm.trans H; rw [hy123]; with_reducible exact H2_) | (have H2_ := (Option.bind_some _ _).symm.trans H; with_reducible exact H2_) | with_reducible exact H | (rw [hy123]; exact H) | exact H
   have Ny123 := am hy123
   clear hy123
   have H' := am H
   clear H
   have hnb13 := NB119_120.out
   have hnc13 := NB120_119.out
   have hnb14 := NB119_121.out
   have hnc14 := NB121_119.out
   obtain ⟨hcz15_0, hcz15_1, hcz15_2, hfz15_0, hfz15_1, hfz15_2⟩ := bc3f wr BK119.out
   try go_wp2
   replace HO_122002 := am (Kd.R_drew HO_122002.out)
   replace BK119 := am (blk_drew BK119.out)
   replace BK120 := am (blk_drew BK120.out)
   replace BK121 := am (blk_drew BK121.out)
   replace HB := am (below_drew1 HB.out)
   have p122 : 0 ≤ (x4_1 : Int) := of_decide_eq_true q0
   have q122 : x4_1 < (l0_2.length : Int) := of_decide_eq_true q0
   obtain ⟨ad122, e122, hx122_0, hx122_1, hx122_2, hx122_3⟩ := at_T54 HR0_2.out x4_1 p122 q122
   have hw122_3 := hx122_3
   have hw122_2 := hx122_2
   have hw122_1 := hx122_1
   have hw122_0 := hx122_0
   cases e122
   replace hx122_0 := cm HB.out hx122_0
   replace hx122_1 := cm HB.out hx122_1
   replace hx122_2 := cm HB.out hx122_2
   replace hx122_3 := cm HB.out hx122_3
   replace p122 := eq_true p122
   replace q122 := eq_true q122
   refine start_ (n := 11) (S := fun w' => w'.cell? ⟨gb121, 0, none⟩ = some (.int .i64 a0_0) ∧ w'.cell? ⟨gb121, 1, none⟩ = some (.int .i64 a0_1) ∧ w'.cell? ⟨gb121, 2, none⟩ = some (u122002) ∧ w'.cell? ⟨gb119, 0, none⟩ = some (.int .i64 a0_0) ∧ w'.cell? ⟨gb119, 1, none⟩ = some (.int .i64 a0_1) ∧ w'.cell? ⟨gb119, 2, none⟩ = some (.slice (some ad122) l0_2.length c0_2) ∧ w'.cell? (ad122.add ((x4_1).toNat * 4)) = some (.int .i64 ((rd_T54 l0_2 x4_1).f0)) ∧ w'.cell? ⟨(ad122.add ((x4_1).toNat * 4)).block, (ad122.add ((x4_1).toNat * 4)).off + 1, none⟩ = some (.int .i64 ((rd_T54 l0_2 x4_1).f1)) ∧ w'.cell? ⟨(ad122.add ((x4_1).toNat * 4)).block, (ad122.add ((x4_1).toNat * 4)).off + 2, none⟩ = some (.int .i64 ((rd_T54 l0_2 x4_1).f2)) ∧ w'.cell? ⟨(ad122.add ((x4_1).toNat * 4)).block, (ad122.add ((x4_1).toNat * 4)).off + 3, none⟩ = some (.string ((rd_T54 l0_2 x4_1).f3))) (ds := [10]) b0_11 kr rfl rfl ⟨(blk_cell BK121.out 0).trans rfl, (blk_cell BK121.out 1).trans rfl, (blk_cell BK121.out 2).trans rfl, (blk_cell BK119.out 0).trans rfl, (blk_cell BK119.out 1).trans rfl, (blk_cell BK119.out 2).trans rfl, (cm HB.out hw122_0), (cm HB.out hw122_1), (cm HB.out hw122_2), (cm HB.out hw122_3)⟩ (fun hHeld => ?_); refine with_tabW spec_l09Copy.tab5 spec_l09Copy.bits5 (fun HT_ HW_ => ?_)
   generalize wr.drew = w16 at HO_122002 BK119 BK120 BK121 HB hx122_0 hx122_1 hx122_2 hx122_3 hHeld ⊢
   refine pV 0 17 (bt 1 11) ?_
   refine pV 2 19 bx43 ?_
   refine pV 4 21 bx44 ?_
   refine tV 1 18 bx45 ?_
   refine tV 3 20 (bt 5 11) ?_
   refine pV 5 22 (bt 6 11) ?_
   refine tV 6 23 (bt 7 11) ?_
   refine one_ (i := 7) (N := some 24) b8_11 rfl rfl (one_of HT_.out kr) (by decide) (fun K hK => ?_)
   refine value_ (w1 := ?_) (v := ?_) (by rfl) rfl ?_ ?_
   rotate_left 2
   · go_simp
     constructor
     · rfl
     rfl
   refine hK.out _ _ ⟨(blk_cell (blk_alloc BK121.out _) 0).trans rfl, (blk_cell (blk_alloc BK121.out _) 1).trans rfl, (blk_cell (blk_alloc BK121.out _) 2).trans rfl, (blk_cell (blk_alloc BK119.out _) 0).trans rfl, (blk_cell (blk_alloc BK119.out _) 1).trans rfl, (blk_cell (blk_alloc BK119.out _) 2).trans rfl, (World.cell?_alloc_lt _ _ _ (World.block_lt_of_cell? _ _ ((cm HB.out hw122_0)))).trans ((cm HB.out hw122_0)), (World.cell?_alloc_lt _ _ _ (World.block_lt_of_cell? _ _ ((cm HB.out hw122_1)))).trans ((cm HB.out hw122_1)), (World.cell?_alloc_lt _ _ _ (World.block_lt_of_cell? _ _ ((cm HB.out hw122_2)))).trans ((cm HB.out hw122_2)), (World.cell?_alloc_lt _ _ _ (World.block_lt_of_cell? _ _ ((cm HB.out hw122_3)))).trans ((cm HB.out hw122_3))⟩ (fun hHeld => ?_)
   clear hK K
   refine norm_ (a' := ?_) ?_ ?_
   rotate_left
   · show Act.put _ (some 24) _ = _
     simp only [Act.put, la, lb, lc, i64_w, i32_w]
     rfl
   refine one_ (i := 8) (N := some 25) b9_11 rfl rfl (one_of HT_.out kr) (by decide) (fun K hK => ?_)
   refine Kd.R_append_step k54 (w0 := w) w.heap.size (by rfl) (.tmp 18) (.tmp 24) 28 54 (.agg #[(.int .i64 0), (.int .i64 0), (.int .i64 0), (.string ⟨#[]⟩)]) 40 rfl Tryd.underlying28 info54 rfl (by decide) (by omega) u122002 x122002_1 (⟨(rd_T54 l0_2 x4_1).f0, (rd_T54 l0_2 x4_1).f1, (rd_T54 l0_2 x4_1).f2, (rd_T54 l0_2 x4_1).f3⟩ : S54) [.int .i64 ((rd_T54 l0_2 x4_1).f0), .int .i64 ((rd_T54 l0_2 x4_1).f1), .int .i64 ((rd_T54 l0_2 x4_1).f2), .string ((rd_T54 l0_2 x4_1).f3)] (fun _ => True) (fun _ => False) rfl rfl ?aP (fun _ hk => hk.elim) ?aF ?aO ?aB ?aS ?aL ?_
   (case aP => exact k54_mkM _ _ _ (⟨(rd_T54 l0_2 x4_1).f0, (rd_T54 l0_2 x4_1).f1, (rd_T54 l0_2 x4_1).f2, (rd_T54 l0_2 x4_1).f3⟩ : S54))
   (case aB => exact q1)
   (case aF => exact (fun _ _ => trivial))
   (case aO => exact (by (with_reducible repeat (first | apply Kd.R_alloc | apply Kd.R_drewN | apply Kd.R_drew)); exact HO_122002.out))
   (case aS => exact (below_size q1))
   (case aL => have := LMc12.out; omega)
   intro v124 w17 ho hb hg hat
   rw [← Ny123.out] at ho
   replace BK119 := am (blk_grown (g := gb119) (o := .cells #[.int .i64 a0_0, .int .i64 a0_1, .slice (some ad122) l0_2.length c0_2] 30 (0, 0)) u3_5 hg (Kd.R_ne HO_122002.out BK119.out (by decide)))
   replace BK120 := am (blk_grown (g := gb120) (o := .cells #[.int .i64 0, .int .i64 0, .slice none 0 0] 30 (0, 0)) u3_10 hg (Kd.R_ne HO_122002.out BK120.out (by decide)))
   replace BK121 := am (blk_grown (g := gb121) (o := .cells #[.int .i64 a0_0, .int .i64 a0_1, u122002] 30 (0, 0)) (by (with_reducible repeat (first | refine blk_drewN ?_ _ | refine blk_drew ?_ | refine blk_alloc ?_ _)); exact BK121.out) hg (Kd.R_ne HO_122002.out BK121.out (by decide)))
   replace HB := am (hb)
   have HO125 := am (ho)
   clear HO_122002
   clear ho hb hg hat
   obtain ⟨Ao18, co18, eo18⟩ := Kd.R_slice HO125.out
   (first | subst eo18 | (injection eo18 with f1_ f2_ f3_; have f4_ := f1_.symm; have f5_ := f3_.symm; clear f1_ f2_ f3_; subst f4_; subst f5_))
   refine hK.out _ _ ⟨(blk_cell BK121.out 0).trans rfl, (blk_cell BK121.out 1).trans rfl, (blk_cell BK121.out 2).trans rfl, (blk_cell BK119.out 0).trans rfl, (blk_cell BK119.out 1).trans rfl, (blk_cell BK119.out 2).trans rfl, (cm HB.out hw122_0), (cm HB.out hw122_1), (cm HB.out hw122_2), (cm HB.out hw122_3)⟩ (fun hHeld => ?_)
   clear hK K
   refine norm_ (a' := ?_) ?_ ?_
   rotate_left
   · show Act.put _ (some 25) _ = _
     simp only [Act.put, la, lb, lc, i64_w, i32_w]
     rfl
   refine pV 9 26 (bt 10 11) ?_
   refine last_ (i := 10) (N := none) b11_11 rfl rfl (one_of HT_.out kr) (by decide) (fun K hK => ?_)
   have hs19 : w17.cell? ⟨gb121, 2, none⟩ = some (u122002) := (blk_cell BK121.out 2).trans rfl
   have hfs19 := blk_frozen BK121.out 2
   have hns19_0 := NB119_121.out
   have hns19_1 := NB120_121.out
   have hms19_0 := NB121_119.out
   have hms19_1 := NB121_120.out
   refine skip_ (w1 := ?_) (by rfl) rfl ?_ ?_
   rotate_left
   · go_simp
     rfl
   refine hK.out _ _ ?_
   clear hK K
   refine done_ (done_of HT_.out kr) ?_
   try go_wp2
   go_roundg k1
   case measure => have := HK1.out; omega
   case rel => exact ⟨(wrap64 (x4_1 + 1)), (y123), (.slice Ao18 y123.length co18), q2, H', ⟨by have := HK1.out; omega⟩, ⟨(by (with_reducible repeat (first | apply Kd.R_alloc | apply Kd.R_drewN | apply Kd.R_drew)); exact Kd.R_mono (Kd.R_far (p := ⟨gb121, 2, none⟩) (Kd.R_types HO125.out BK121.out (by decide)) (fun _ hk => hk.2) (.slice Ao18 y123.length co18)) (fun _ hk => trivial))⟩, ⟨(by (with_reducible repeat (first | refine blk_drewN ?_ _ | refine blk_drew ?_ | refine blk_alloc ?_ _)); refine blk_far ?_ NB119_121.out _; (with_reducible repeat (first | refine blk_drewN ?_ _ | refine blk_drew ?_ | refine blk_alloc ?_ _)); exact BK119.out)⟩, ⟨(by (with_reducible repeat (first | refine blk_drewN ?_ _ | refine blk_drew ?_ | refine blk_alloc ?_ _)); refine blk_far ?_ NB120_121.out _; (with_reducible repeat (first | refine blk_drewN ?_ _ | refine blk_drew ?_ | refine blk_alloc ?_ _)); exact BK120.out)⟩, ⟨(by (with_reducible repeat (first | refine blk_drewN ?_ _ | refine blk_drew ?_ | refine blk_alloc ?_ _)); refine blk_put (cs := #[.int .i64 a0_0, .int .i64 a0_1, u122002]) ?_ 2 _ rfl; (with_reducible repeat (first | refine blk_drewN ?_ _ | refine blk_drew ?_ | refine blk_alloc ?_ _)); exact BK121.out)⟩, ⟨q1⟩⟩

/-! ### spec_l09Find: function 51 -/
def spec_l09Find.l0 : Nat → Int → Int → Int → Int → List (S54) → Option (Int × Int × Int × ByteArray)
 | 0, _, _, _, _, _ => none
 | k + 1, x1, x5, x127000, x127001, x127002 => if x5 < (x127002.length : Int) then (if 0 ≤ x5 then (if ((rd_T54 x127002 x5).f0) = x1 then (some ((rd_T54 x127002 x5).f0, (rd_T54 x127002 x5).f1, (rd_T54 x127002 x5).f2, (rd_T54 x127002 x5).f3)) else (spec_l09Find.l0 k x1 (wrap64 (x5 + 1)) x127000 x127001 x127002)) else (none)) else (some (0, 0, 0, (⟨#[]⟩ : ByteArray)))
def spec_l09Find.f (k : Nat) (a0_0 : Int) (a0_1 : Int) (l0_2 : List (S54)) (a1 : Int) : Option (Int × Int × Int × ByteArray) := spec_l09Find.l0 k a1 0 a0_0 a0_1 l0_2
theorem spec_l09Find.mono_l : ∀ k, (∀ y0 y1 y2 y3 y4, LeO (spec_l09Find.l0 k y0 y1 y2 y3 y4) (spec_l09Find.l0 (k + 1) y0 y1 y2 y3 y4))
 | 0 => fun _ _ _ _ _ r h => by simp [spec_l09Find.l0] at h
 | k + 1 => by
   have ih0 := spec_l09Find.mono_l k
   · intro y0 y1 y2 y3 y4
     unfold spec_l09Find.l0
     repeat' first
     | (with_reducible exact ih0 _ _ _ _ _)
     | (with_reducible exact LeO.refl _)
     | (with_reducible exact LeO.none _)
     | (with_reducible refine LeO.ite ?_ ?_)
     | (with_reducible refine LeO.bind ?_ (fun _ => ?_))
     | exact ih0 _ _ _ _ _
     | exact LeO.none _
     | refine LeO.ite ?_ ?_
     | refine LeO.bind ?_ (fun _ => ?_)
theorem spec_l09Find.mono : ∀ a0 a1 a2 a3 k, LeO (spec_l09Find.f k a0 a1 a2 a3) (spec_l09Find.f (k + 1) a0 a1 a2 a3) := by
 intro a0 a1 a2 a3 k
 have ih0 := spec_l09Find.mono_l k
 unfold spec_l09Find.f
 repeat' first
     | (with_reducible exact ih0 _ _ _ _ _)
     | (with_reducible exact LeO.refl _)
     | (with_reducible exact LeO.none _)
     | (with_reducible refine LeO.ite ?_ ?_)
     | (with_reducible refine LeO.bind ?_ (fun _ => ?_))
     | exact ih0 _ _ _ _ _
     | exact LeO.none _
     | refine LeO.ite ?_ ?_
     | refine LeO.bind ?_ (fun _ => ?_)
set_option maxHeartbeats 8000000 in
set_option maxRecDepth 100000 in
theorem spec_l09Find.calls (k : Nat) (a0_0 : Int) (a0_1 : Int) (A0_2 : Option Addr) (c0_2 : Nat) (l0_2 : List (S54)) (a1 : Int) (r1 : Int) (r2 : Int) (r3 : Int) (r4 : ByteArray) (w : World) (hr0_2 : Kd.C k54 w A0_2 l0_2.length l0_2) (hc0_2 : l0_2.length ≤ c0_2) (h : spec_l09Find.f k a0_0 a0_1 l0_2 a1 = some (r1, r2, r3, r4)) :
   Calls Tryd.prog 51 #[.agg #[.int .i64 a0_0, .int .i64 a0_1, .slice A0_2 l0_2.length c0_2], .int .i64 a1] w fun e w' => e = .returned (.agg #[.int .i64 r1, .int .i64 r2, .int .i64 r3, .string r4]) ∧ Below w.heap.size w w' := by
 have hu30 := Tryd.underlying30
 have hu54 := Tryd.underlying54
 have HR0_2 := am hr0_2
 have HC0_2 := am hc0_2
 clear hr0_2 hc0_2
 have HB := am (Below.refl w.heap.size w)
 have H : (spec_l09Find.l0 k a1 0 a0_0 a0_1 l0_2) = some (r1, r2, r3, r4) := h
 clear h
 have H' := am H
 clear H
 go_enter Tryd.func51, Tryd.ntmps51
 go_wp2_with (first | ((with_reducible refine gate_dst (N := 2) rfl ?_); refine box_event ?hg (N := 2) ?hd (cs := #[.int .i64 a0_0, .int .i64 a0_1, .slice A0_2 l0_2.length c0_2]) (t := 30) ?hr ?_; (case hd => rfl); (case hg => rfl); (case hr => first | (go_simp; done) | (go_simp; rfl)); intro gb126 hg w3 hbox hb; have BK126 := am (hbox); have GW126 := am ((by rw [hg]; exact (below_size q1) : w.heap.size ≤ gb126)); have GE126 := am ((by rw [hg]; exact (below_size q1) : w.heap.size ≤ gb126)); replace HB := am (below_step q1 hb); clear hb hbox hg) | ((with_reducible refine gate_dst (N := 4) rfl ?_); refine box_event ?hg (N := 4) ?hd (cs := #[.int .i64 0, .int .i64 0, .int .i64 0, .string (⟨#[]⟩ : ByteArray)]) (t := 54) ?hr ?_; (case hd => rfl); (case hg => rfl); (case hr => first | (go_simp; done) | (go_simp; rfl)); intro gb127 hg w4 hbox hb; have BK127 := am (hbox); have GW127 := am ((by rw [hg]; exact (below_size q1) : w.heap.size ≤ gb127)); have GE127 := am ((by rw [hg]; exact (below_size q1) : w.heap.size ≤ gb127)); replace HB := am (below_step q1 hb); have NB126_127 := am ((by rw [hg]; exact Nat.ne_of_lt (blk_lt (g := gb126) (o := .cells #[.int .i64 a0_0, .int .i64 a0_1, .slice A0_2 l0_2.length c0_2] 30 (0, 0)) u3_8) : gb126 ≠ gb127)); have NB127_126 := am ((by rw [hg]; exact Nat.ne_of_gt (blk_lt (g := gb126) (o := .cells #[.int .i64 a0_0, .int .i64 a0_1, .slice A0_2 l0_2.length c0_2] 30 (0, 0)) u3_8) : gb127 ≠ gb126)); replace BK126 := am (blk_below (g := gb126) (o := .cells #[.int .i64 a0_0, .int .i64 a0_1, .slice A0_2 l0_2.length c0_2] 30 (0, 0)) u3_8 hb); clear hb hbox hg))
 go_loopg [5] k (fun kq v5 w' => ∃ (x5_1 : Int) (x128000_1 : Int) (x128001_1 : Int) (x128002_1 : Int) (x128003_1 : ByteArray), v5 = .int .i64 x5_1 ∧ Aside0 (spec_l09Find.l0 kq a1 x5_1 a0_0 a0_1 l0_2 = some (r1, r2, r3, r4)) ∧ Aside0 (kq ≤ k) ∧ Aside0 (w'.heap[gb126]? = some (.cells #[.int .i64 a0_0, .int .i64 a0_1, (.slice A0_2 l0_2.length c0_2)] 30 (0, 0))) ∧ Aside0 (w'.heap[gb127]? = some (.cells #[.int .i64 x128000_1, .int .i64 x128001_1, .int .i64 x128002_1, .string x128003_1] 54 (0, 0))) ∧ Aside0 (Below w.heap.size w w'))
 case atStart => exact ⟨(0), (0), (0), (0), ((⟨#[]⟩ : ByteArray)), q2, H', ⟨Nat.le_refl _⟩, ⟨u3_8⟩, ⟨u3_15⟩, ⟨q1⟩⟩
 clear H'
 obtain ⟨x5_1, x128000_1, x128001_1, x128002_1, x128003_1, rfl, HA, HK1, BK126, BK127, HB⟩ := hrel
 cases gk with
 | zero => exact absurd HA.out (by simp [spec_l09Find.l0])
 | succ k1 =>
   have H := HA.out
   clear HA
   simp only [spec_l09Find.l0] at H
   by_cases c5 : x5_1 < (l0_2.length : Int)
   rotate_left
   · rw [if_neg c5] at H
     have c5b0 : decide (x5_1 < (l0_2.length : Int)) = false := decide_eq_false c5
     clear c5
     simp only [Option.some.injEq, Prod.mk.injEq] at H
     obtain ⟨rfl, rfl, rfl, rfl⟩ := H
     have hnb13 := NB126_127.out
     have hnc13 := NB127_126.out
     obtain ⟨hcz14_0, hcz14_1, hcz14_2, hfz14_0, hfz14_1, hfz14_2⟩ := bc3f wr BK126.out
     obtain ⟨hcz15_0, hcz15_1, hcz15_2, hcz15_3, hfz15_0, hfz15_1, hfz15_2, hfz15_3⟩ := bc4f wr BK127.out
     go_wp2
     refine bodyPost_ret (results_cell_row rfl _ _ gb127 54 #[.int .i64 0, .int .i64 0, .int .i64 0, .string (⟨#[]⟩ : ByteArray)] (0, 0) _ rfl (by (with_reducible repeat (first | refine blk_drewN ?_ _ | refine blk_drew ?_ | refine blk_alloc ?_ _)); refine blk_put (cs := #[.int .i64 0, .int .i64 0, .int .i64 0, .string x128003_1]) ?_ 3 _ rfl; (with_reducible repeat (first | refine blk_drewN ?_ _ | refine blk_drew ?_ | refine blk_alloc ?_ _)); refine blk_put (cs := #[.int .i64 0, .int .i64 0, .int .i64 x128002_1, .string x128003_1]) ?_ 2 _ rfl; (with_reducible repeat (first | refine blk_drewN ?_ _ | refine blk_drew ?_ | refine blk_alloc ?_ _)); refine blk_put (cs := #[.int .i64 0, .int .i64 x128001_1, .int .i64 x128002_1, .string x128003_1]) ?_ 1 _ rfl; (with_reducible repeat (first | refine blk_drewN ?_ _ | refine blk_drew ?_ | refine blk_alloc ?_ _)); refine blk_put (cs := #[.int .i64 x128000_1, .int .i64 x128001_1, .int .i64 x128002_1, .string x128003_1]) ?_ 0 _ rfl; (with_reducible repeat (first | refine blk_drewN ?_ _ | refine blk_drew ?_ | refine blk_alloc ?_ _)); exact BK127.out) Tryd.underlying54 rfl kr) rfl ?_
     exact ⟨er, q1⟩
   rw [if_pos c5] at H
   have c5b0 : decide (x5_1 < (l0_2.length : Int)) = true := decide_eq_true c5
   clear c5
   by_cases c6 : 0 ≤ x5_1
   rotate_left
   · rw [if_neg c6] at H
     exact absurd H (by simp)
   rw [if_pos c6] at H
   have c6b0 : decide (0 ≤ x5_1) = true := decide_eq_true c6
   clear c6
   have H9 := am H
   clear H
   have hnb7 := NB126_127.out
   have hnc7 := NB127_126.out
   obtain ⟨hcz8_0, hcz8_1, hcz8_2, hfz8_0, hfz8_1, hfz8_2⟩ := bc3f wr BK126.out
   have p128 : 0 ≤ (x5_1 : Int) := of_decide_eq_true q0
   have q128 : x5_1 < (l0_2.length : Int) := of_decide_eq_true q0
   obtain ⟨ad128, e128, hx128_0, hx128_1, hx128_2, hx128_3⟩ := at_T54 HR0_2.out x5_1 p128 q128
   cases e128
   replace hx128_0 := cm HB.out hx128_0
   replace hx128_1 := cm HB.out hx128_1
   replace hx128_2 := cm HB.out hx128_2
   replace hx128_3 := cm HB.out hx128_3
   replace p128 := eq_true p128
   replace q128 := eq_true q128
   go_upto_if 20 with (fail)
   have H := H9.out
   clear H9
   by_cases c9 : ((rd_T54 l0_2 x5_1).f0) = a1
   rotate_left
   · rw [if_neg c9] at H
     have c9b0 : (((rd_T54 l0_2 x5_1).f0) == a1) = false := beq_eq_false_iff_ne.mpr c9
     have c9b1 : (((rd_T54 l0_2 x5_1).f0) != a1) = true := bne_iff_ne.mpr c9
     (first | rw [c9b0] | (simp only [i64_w, i32_w]; rw [c9b0]) | skip)
     have H' := am H
     clear H
     go_wp2
     go_roundg k1
     case measure => have := HK1.out; omega
     case rel => exact ⟨(wrap64 (x5_1 + 1)), (x128000_1), (x128001_1), (x128002_1), (x128003_1), q2, H', ⟨by have := HK1.out; omega⟩, ⟨u3_8⟩, ⟨u3_15⟩, ⟨q1⟩⟩
   rw [if_pos c9] at H
   have c9b0 : (((rd_T54 l0_2 x5_1).f0) == a1) = true := beq_iff_eq.mpr c9
   have c9b1 : (((rd_T54 l0_2 x5_1).f0) != a1) = false := bne_eq_false_iff_eq.mpr c9
   clear c9
   (first | rw [c9b0] | (simp only [i64_w, i32_w]; rw [c9b0]) | skip)
   simp only [Option.some.injEq, Prod.mk.injEq] at H
   obtain ⟨rfl, rfl, rfl, rfl⟩ := H
   have hnb10 := NB126_127.out
   have hnc10 := NB127_126.out
   obtain ⟨hcz11_0, hcz11_1, hcz11_2, hfz11_0, hfz11_1, hfz11_2⟩ := bc3f wr BK126.out
   have p129 : 0 ≤ (x5_1 : Int) := of_decide_eq_true q0
   have q129 : x5_1 < (l0_2.length : Int) := of_decide_eq_true q0
   obtain ⟨ad129, e129, hx129_0, hx129_1, hx129_2, hx129_3⟩ := at_T54 HR0_2.out x5_1 p129 q129
   obtain rfl : ad128 = ad129 := (by injection e129)
   replace hx129_0 := cm HB.out hx129_0
   replace hx129_1 := cm HB.out hx129_1
   replace hx129_2 := cm HB.out hx129_2
   replace hx129_3 := cm HB.out hx129_3
   replace p129 := eq_true p129
   replace q129 := eq_true q129
   obtain ⟨hcz12_0, hcz12_1, hcz12_2, hcz12_3, hfz12_0, hfz12_1, hfz12_2, hfz12_3⟩ := bc4f wr BK127.out
   go_wp2
   refine bodyPost_ret (results_cell_row rfl _ _ gb127 54 #[.int .i64 ((rd_T54 l0_2 x5_1).f0), .int .i64 ((rd_T54 l0_2 x5_1).f1), .int .i64 ((rd_T54 l0_2 x5_1).f2), .string ((rd_T54 l0_2 x5_1).f3)] (0, 0) _ rfl (by (with_reducible repeat (first | refine blk_drewN ?_ _ | refine blk_drew ?_ | refine blk_alloc ?_ _)); refine blk_put (cs := #[.int .i64 ((rd_T54 l0_2 x5_1).f0), .int .i64 ((rd_T54 l0_2 x5_1).f1), .int .i64 ((rd_T54 l0_2 x5_1).f2), .string x128003_1]) ?_ 3 _ rfl; (with_reducible repeat (first | refine blk_drewN ?_ _ | refine blk_drew ?_ | refine blk_alloc ?_ _)); refine blk_put (cs := #[.int .i64 ((rd_T54 l0_2 x5_1).f0), .int .i64 ((rd_T54 l0_2 x5_1).f1), .int .i64 x128002_1, .string x128003_1]) ?_ 2 _ rfl; (with_reducible repeat (first | refine blk_drewN ?_ _ | refine blk_drew ?_ | refine blk_alloc ?_ _)); refine blk_put (cs := #[.int .i64 ((rd_T54 l0_2 x5_1).f0), .int .i64 x128001_1, .int .i64 x128002_1, .string x128003_1]) ?_ 1 _ rfl; (with_reducible repeat (first | refine blk_drewN ?_ _ | refine blk_drew ?_ | refine blk_alloc ?_ _)); refine blk_put (cs := #[.int .i64 x128000_1, .int .i64 x128001_1, .int .i64 x128002_1, .string x128003_1]) ?_ 0 _ rfl; (with_reducible repeat (first | refine blk_drewN ?_ _ | refine blk_drew ?_ | refine blk_alloc ?_ _)); exact BK127.out) Tryd.underlying54 rfl kr) rfl ?_
   exact ⟨er, q1⟩

/-! ### spec_Look: function 29 -/
def spec_Look.j0 : Nat → Int → Int → Bool → Int → Int → List (S54) → Option (Int × ByteArray)
 | 0, _, _, _, _, _, _ => none
 | k + 1, x1, x2, x21, x131000, x131001, x131002 => if x21 = true then (some (4, (⟨#[]⟩ : ByteArray))) else ((spec_l09Find.f k x131000 x131001 x131002 x1).bind fun bt134 => (if x2 = (wrap64 (bt134.2.1 + 1)) then (some (0, (⟨#[]⟩ : ByteArray))) else (if x2 = bt134.2.1 then (some (1, bt134.2.2.2)) else (if x2 < bt134.2.1 then (some (2, (⟨#[]⟩ : ByteArray))) else (some (3, (⟨#[]⟩ : ByteArray)))))))
def spec_Look.f (k : Nat) (a0_0 : Int) (a0_1 : Int) (l0_2 : List (S54)) (a1 : Int) (a2 : Int) : Option (Int × ByteArray) := (spec_SessionsOk.f k a0_0 a0_1 l0_2).bind fun t131 => (if t131 = true then ((spec_l01In.f a1 1 999).bind fun t132 => (if t132 = true then ((spec_l01In.f a2 1 1000000).bind fun t133 => (spec_Look.j0 k a1 a2 (!t133) a0_0 a0_1 l0_2)) else (spec_Look.j0 k a1 a2 true a0_0 a0_1 l0_2))) else (spec_Look.j0 k a1 a2 true a0_0 a0_1 l0_2))
theorem spec_Look.mono_l : ∀ k, (∀ y0 y1 y2 y3 y4 y5, LeO (spec_Look.j0 k y0 y1 y2 y3 y4 y5) (spec_Look.j0 (k + 1) y0 y1 y2 y3 y4 y5))
 | 0 => fun _ _ _ _ _ _ r h => by simp [spec_Look.j0] at h
 | k + 1 => by
   have ih0 := spec_Look.mono_l k
   · intro y0 y1 y2 y3 y4 y5
     unfold spec_Look.j0
     repeat' first
     | (with_reducible exact ih0 _ _ _ _ _ _)
     | (with_reducible exact spec_SessionsOk.mono _ _ _ _)
     | (with_reducible exact spec_l09Find.mono _ _ _ _ _)
     | (with_reducible exact LeO.refl _)
     | (with_reducible exact LeO.none _)
     | (with_reducible refine LeO.ite ?_ ?_)
     | (with_reducible refine LeO.bind ?_ (fun _ => ?_))
     | exact ih0 _ _ _ _ _ _
     | exact spec_SessionsOk.mono _ _ _ _
     | exact spec_l09Find.mono _ _ _ _ _
     | exact LeO.none _
     | refine LeO.ite ?_ ?_
     | refine LeO.bind ?_ (fun _ => ?_)
theorem spec_Look.mono : ∀ a0 a1 a2 a3 a4 k, LeO (spec_Look.f k a0 a1 a2 a3 a4) (spec_Look.f (k + 1) a0 a1 a2 a3 a4) := by
 intro a0 a1 a2 a3 a4 k
 have ih0 := spec_Look.mono_l k
 unfold spec_Look.f
 repeat' first
     | (with_reducible exact ih0 _ _ _ _ _ _)
     | (with_reducible exact spec_SessionsOk.mono _ _ _ _)
     | (with_reducible exact spec_l09Find.mono _ _ _ _ _)
     | (with_reducible exact LeO.refl _)
     | (with_reducible exact LeO.none _)
     | (with_reducible refine LeO.ite ?_ ?_)
     | (with_reducible refine LeO.bind ?_ (fun _ => ?_))
     | exact ih0 _ _ _ _ _ _
     | exact spec_SessionsOk.mono _ _ _ _
     | exact spec_l09Find.mono _ _ _ _ _
     | exact LeO.none _
     | refine LeO.ite ?_ ?_
     | refine LeO.bind ?_ (fun _ => ?_)
set_option maxHeartbeats 8000000 in
set_option maxRecDepth 100000 in
theorem spec_Look.calls (k : Nat) (a0_0 : Int) (a0_1 : Int) (A0_2 : Option Addr) (c0_2 : Nat) (l0_2 : List (S54)) (a1 : Int) (a2 : Int) (r1 : Int) (r2 : ByteArray) (w : World) (hr0_2 : Kd.C k54 w A0_2 l0_2.length l0_2) (hc0_2 : l0_2.length ≤ c0_2) (h : spec_Look.f k a0_0 a0_1 l0_2 a1 a2 = some (r1, r2)) :
   Calls Tryd.prog 29 #[.agg #[.int .i64 a0_0, .int .i64 a0_1, .slice A0_2 l0_2.length c0_2], .int .i64 a1, .int .i64 a2] w fun e w' => e = .returned (.tuple #[.int .i64 r1, .string r2]) ∧ Below w.heap.size w w' := by
 have hu30 := Tryd.underlying30
 have hu54 := Tryd.underlying54
 have HR0_2 := am hr0_2
 have HC0_2 := am hc0_2
 clear hr0_2 hc0_2
 have HB := am (Below.refl w.heap.size w)
 have H : ((spec_SessionsOk.f k a0_0 a0_1 l0_2).bind fun t131 => (if t131 = true then ((spec_l01In.f a1 1 999).bind fun t132 => (if t132 = true then ((spec_l01In.f a2 1 1000000).bind fun t133 => (spec_Look.j0 k a1 a2 (!t133) a0_0 a0_1 l0_2)) else (spec_Look.j0 k a1 a2 true a0_0 a0_1 l0_2))) else (spec_Look.j0 k a1 a2 true a0_0 a0_1 l0_2))) = some (r1, r2) := h
 clear h
 have HC4 := am H
 clear H
 go_enter Tryd.func29, Tryd.ntmps29
 go_upto_region 1 with (first | ((with_reducible refine gate_dst (N := 3) rfl ?_); refine box_event ?hg (N := 3) ?hd (cs := #[.int .i64 a0_0, .int .i64 a0_1, .slice A0_2 l0_2.length c0_2]) (t := 30) ?hr ?_; (case hd => rfl); (case hg => rfl); (case hr => first | (go_simp; done) | (go_simp; rfl)); intro gb130 hg w5 hbox hb; have BK130 := am (hbox); have GW130 := am ((by rw [hg]; exact (below_size q1) : w.heap.size ≤ gb130)); have GE130 := am ((by rw [hg]; exact (below_size q1) : w.heap.size ≤ gb130)); replace HB := am (below_step q1 hb); clear hb hbox hg))
 repeat (go_quiet (first | ((with_reducible refine gate_dst (N := 3) rfl ?_); refine box_event ?hg (N := 3) ?hd (cs := #[.int .i64 a0_0, .int .i64 a0_1, .slice A0_2 l0_2.length c0_2]) (t := 30) ?hr ?_; (case hd => rfl); (case hg => rfl); (case hr => first | (go_simp; done) | (go_simp; rfl)); intro gb130 hg w5 hbox hb; have BK130 := am (hbox); have GW130 := am ((by rw [hg]; exact (below_size q1) : w.heap.size ≤ gb130)); have GE130 := am ((by rw [hg]; exact (below_size q1) : w.heap.size ≤ gb130)); replace HB := am (below_step q1 hb); clear hb hbox hg)); go_upto_region 1 with (first | ((with_reducible refine gate_dst (N := 3) rfl ?_); refine box_event ?hg (N := 3) ?hd (cs := #[.int .i64 a0_0, .int .i64 a0_1, .slice A0_2 l0_2.length c0_2]) (t := 30) ?hr ?_; (case hd => rfl); (case hg => rfl); (case hr => first | (go_simp; done) | (go_simp; rfl)); intro gb130 hg w5 hbox hb; have BK130 := am (hbox); have GW130 := am ((by rw [hg]; exact (below_size q1) : w.heap.size ≤ gb130)); have GE130 := am ((by rw [hg]; exact (below_size q1) : w.heap.size ≤ gb130)); replace HB := am (below_step q1 hb); clear hb hbox hg)))
 (try simp only [Act.put, la, lb, lc])
 go_cut [21] (fun v21 wc => ∃ (kq : Nat) (x21_3 : Bool), v21 = .bool x21_3 ∧ Aside0 (spec_Look.j0 kq a1 a2 x21_3 a0_0 a0_1 l0_2 = some (r1, r2)) ∧ Aside0 (kq ≤ k) ∧ Aside0 (wc.heap[gb130]? = some (.cells #[.int .i64 a0_0, .int .i64 a0_1, (.slice A0_2 l0_2.length c0_2)] 30 (0, 0))) ∧ Aside0 (Below w.heap.size w wc))
 case first =>
   have H := HC4.out
   clear HC4
   replace H := Option.bind_eq_some_iff.mp H
   obtain ⟨t131, A60, H⟩ := H
   have A6 := am A60
   clear A60
   by_cases c7 : t131 = true
   rotate_left
   · replace c7 := Bool.eq_false_iff.mpr c7
     subst c7
     rw [nf] at H
     have H' := am H
     clear H
     obtain ⟨hcz15_0, hcz15_1, hcz15_2⟩ := bc3 w5 BK130.out
     go_wp2_with (first | (first | (go_at_call 27; (with_reducible refine (spec_SessionsOk.calls k a0_0 a0_1 _ _ l0_2 false _ ?side1 ?side2 A6.out).mono ?_); (case side1 => exact q5); (case side2 => exact HC0_2.out); rintro e w16 ⟨rfl, hb⟩; replace BK130 := am (blk_below (g := gb130) (o := .cells #[.int .i64 a0_0, .int .i64 a0_1, .slice A0_2 l0_2.length c0_2] 30 (0, 0)) u3_1 hb); replace HB := am (below_step q1 hb); (try clear hb); (try clear hb2); (try clear hk); (try clear hi))) | go_quiet (first | (go_at_call 27; (with_reducible refine (spec_SessionsOk.calls k a0_0 a0_1 _ _ l0_2 false _ ?side1 ?side2 A6.out).mono ?_); (case side1 => exact q5); (case side2 => exact HC0_2.out); rintro e w16 ⟨rfl, hb⟩; replace BK130 := am (blk_below (g := gb130) (o := .cells #[.int .i64 a0_0, .int .i64 a0_1, .slice A0_2 l0_2.length c0_2] 30 (0, 0)) u3_1 hb); replace HB := am (below_step q1 hb); (try clear hb); (try clear hb2); (try clear hk); (try clear hi))))
     go_meet
     case rel => exact ⟨_, (true), q2, H', ⟨by first | omega | exact Nat.le_refl _⟩, ⟨u3_1⟩, ⟨q1⟩⟩
   subst c7
   rw [if_pos rfl] at H
   replace H := Option.bind_eq_some_iff.mp H
   obtain ⟨t132, A80, H⟩ := H
   have A8 := am A80
   clear A80
   by_cases c9 : t132 = true
   rotate_left
   · replace c9 := Bool.eq_false_iff.mpr c9
     subst c9
     rw [nf] at H
     have H' := am H
     clear H
     obtain ⟨hcz13_0, hcz13_1, hcz13_2⟩ := bc3 w5 BK130.out
     go_wp2_with (first | (first | (go_at_call 27; (with_reducible refine (spec_SessionsOk.calls k a0_0 a0_1 _ _ l0_2 true _ ?side1 ?side2 A6.out).mono ?_); (case side1 => exact q5); (case side2 => exact HC0_2.out); rintro e w14 ⟨rfl, hb⟩; replace BK130 := am (blk_below (g := gb130) (o := .cells #[.int .i64 a0_0, .int .i64 a0_1, .slice A0_2 l0_2.length c0_2] 30 (0, 0)) u3_1 hb); replace HB := am (below_step q1 hb); (try clear hb); (try clear hb2); (try clear hk); (try clear hi)) | (go_at_call 50; (with_reducible refine (spec_l01In.calls a1 1 999 false _ A8.out).mono ?_); rintro e w' ⟨rfl, ⟨nd, rfl⟩⟩; (try first | exact ⟨rfl, _, World.drewN_drewN _ _ _⟩ | exact ⟨rfl, _, Eq.trans (World.drewN_drewN _ _ _) (congrArg (World.drewN _) (Nat.add_assoc _ _ _))⟩))) | go_quiet (first | (go_at_call 27; (with_reducible refine (spec_SessionsOk.calls k a0_0 a0_1 _ _ l0_2 true _ ?side1 ?side2 A6.out).mono ?_); (case side1 => exact q5); (case side2 => exact HC0_2.out); rintro e w14 ⟨rfl, hb⟩; replace BK130 := am (blk_below (g := gb130) (o := .cells #[.int .i64 a0_0, .int .i64 a0_1, .slice A0_2 l0_2.length c0_2] 30 (0, 0)) u3_1 hb); replace HB := am (below_step q1 hb); (try clear hb); (try clear hb2); (try clear hk); (try clear hi)) | (go_at_call 50; (with_reducible refine (spec_l01In.calls a1 1 999 false _ A8.out).mono ?_); rintro e w' ⟨rfl, ⟨nd, rfl⟩⟩; (try first | exact ⟨rfl, _, World.drewN_drewN _ _ _⟩ | exact ⟨rfl, _, Eq.trans (World.drewN_drewN _ _ _) (congrArg (World.drewN _) (Nat.add_assoc _ _ _))⟩))))
     go_meet
     case rel => exact ⟨_, (true), q2, H', ⟨by first | omega | exact Nat.le_refl _⟩, ⟨u3_1⟩, ⟨q1⟩⟩
   subst c9
   rw [if_pos rfl] at H
   replace H := Option.bind_eq_some_iff.mp H
   obtain ⟨t133, A100, H⟩ := H
   replace H : (spec_Look.j0 k a1 a2 (!t133) a0_0 a0_1 l0_2) = some (r1, r2) := H
   have A10 := am A100
   clear A100
   have H' := am H
   clear H
   obtain ⟨hcz11_0, hcz11_1, hcz11_2⟩ := bc3 w5 BK130.out
   go_wp2_with (first | (first | (go_at_call 27; (with_reducible refine (spec_SessionsOk.calls k a0_0 a0_1 _ _ l0_2 true _ ?side1 ?side2 A6.out).mono ?_); (case side1 => exact q5); (case side2 => exact HC0_2.out); rintro e w12 ⟨rfl, hb⟩; replace BK130 := am (blk_below (g := gb130) (o := .cells #[.int .i64 a0_0, .int .i64 a0_1, .slice A0_2 l0_2.length c0_2] 30 (0, 0)) u3_1 hb); replace HB := am (below_step q1 hb); (try clear hb); (try clear hb2); (try clear hk); (try clear hi)) | (go_at_call 50; (with_reducible refine (spec_l01In.calls a1 1 999 true _ A8.out).mono ?_); rintro e w' ⟨rfl, ⟨nd, rfl⟩⟩; (try first | exact ⟨rfl, _, World.drewN_drewN _ _ _⟩ | exact ⟨rfl, _, Eq.trans (World.drewN_drewN _ _ _) (congrArg (World.drewN _) (Nat.add_assoc _ _ _))⟩)) | (go_at_call 50; (with_reducible refine (spec_l01In.calls a2 1 1000000 t133 _ A10.out).mono ?_); rintro e w' ⟨rfl, ⟨nd, rfl⟩⟩; (try first | exact ⟨rfl, _, World.drewN_drewN _ _ _⟩ | exact ⟨rfl, _, Eq.trans (World.drewN_drewN _ _ _) (congrArg (World.drewN _) (Nat.add_assoc _ _ _))⟩))) | go_quiet (first | (go_at_call 27; (with_reducible refine (spec_SessionsOk.calls k a0_0 a0_1 _ _ l0_2 true _ ?side1 ?side2 A6.out).mono ?_); (case side1 => exact q5); (case side2 => exact HC0_2.out); rintro e w12 ⟨rfl, hb⟩; replace BK130 := am (blk_below (g := gb130) (o := .cells #[.int .i64 a0_0, .int .i64 a0_1, .slice A0_2 l0_2.length c0_2] 30 (0, 0)) u3_1 hb); replace HB := am (below_step q1 hb); (try clear hb); (try clear hb2); (try clear hk); (try clear hi)) | (go_at_call 50; (with_reducible refine (spec_l01In.calls a1 1 999 true _ A8.out).mono ?_); rintro e w' ⟨rfl, ⟨nd, rfl⟩⟩; (try first | exact ⟨rfl, _, World.drewN_drewN _ _ _⟩ | exact ⟨rfl, _, Eq.trans (World.drewN_drewN _ _ _) (congrArg (World.drewN _) (Nat.add_assoc _ _ _))⟩)) | (go_at_call 50; (with_reducible refine (spec_l01In.calls a2 1 1000000 t133 _ A10.out).mono ?_); rintro e w' ⟨rfl, ⟨nd, rfl⟩⟩; (try first | exact ⟨rfl, _, World.drewN_drewN _ _ _⟩ | exact ⟨rfl, _, Eq.trans (World.drewN_drewN _ _ _) (congrArg (World.drewN _) (Nat.add_assoc _ _ _))⟩))))
   go_meet
   case rel => exact ⟨_, (!t133), q2, H', ⟨by first | omega | exact Nat.le_refl _⟩, ⟨u3_1⟩, ⟨q1⟩⟩
 clear HC4
 obtain ⟨kq, x21_3, rfl, HA, HJ3, BK130, HB⟩ := hcut
 cases kq with
 | zero => exact absurd HA.out (by simp [spec_Look.j0])
 | succ kj3 =>
   have H := HA.out
   clear HA
   simp only [spec_Look.j0] at H
   by_cases c17 : x21_3 = true
   · subst c17
     rw [if_pos rfl] at H
     simp only [Option.some.injEq, Prod.mk.injEq] at H
     obtain ⟨rfl, rfl⟩ := H
     go_wp2
     repeat (go_quiet (fail); try go_wp2)
     go_ret2
     exact ⟨er, q1⟩
   replace c17 := Bool.eq_false_iff.mpr c17
   subst c17
   rw [nf] at H
   replace H := Option.bind_eq_some_iff.mp H
   obtain ⟨⟨t134, t135, t136, t137⟩, A180, H⟩ := H
   (try dsimp only at H)
   have A18 := am A180
   clear A180
   have H9 := am H
   clear H
   obtain ⟨hcz19_0, hcz19_1, hcz19_2⟩ := bc3 wc BK130.out
   go_upto_if 25 with (first | (go_at_call 51; (with_reducible refine (spec_l09Find.calls kj3 a0_0 a0_1 _ _ l0_2 a1 t134 t135 t136 t137 _ ?side1 ?side2 A18.out).mono ?_); (case side1 => exact q5); (case side2 => exact HC0_2.out); rintro e w20 ⟨rfl, hb⟩; replace BK130 := am (blk_below (g := gb130) (o := .cells #[.int .i64 a0_0, .int .i64 a0_1, .slice A0_2 l0_2.length c0_2] 30 (0, 0)) u3_1 hb); replace HB := am (below_step q1 hb); (try clear hb); (try clear hb2); (try clear hk); (try clear hi)) | ((with_reducible refine gate_dst (N := 8) rfl ?_); refine box_event ?hg (N := 8) ?hd (cs := #[.int .i64 0, .int .i64 0, .int .i64 0, .string (⟨#[]⟩ : ByteArray)]) (t := 54) ?hr ?_; (case hd => rfl); (case hg => rfl); (case hr => first | (go_simp; done) | (go_simp; rfl)); intro gb138 hg w21 hbox hb; have BK138 := am (hbox); have GW138 := am ((by rw [hg]; exact (below_size q1) : w.heap.size ≤ gb138)); have GE138 := am ((by rw [hg]; exact (below_size q1) : w.heap.size ≤ gb138)); replace HB := am (below_step q1 hb); have NB130_138 := am ((by rw [hg]; exact Nat.ne_of_lt (blk_lt (g := gb130) (o := .cells #[.int .i64 a0_0, .int .i64 a0_1, .slice A0_2 l0_2.length c0_2] 30 (0, 0)) u3_1) : gb130 ≠ gb138)); have NB138_130 := am ((by rw [hg]; exact Nat.ne_of_gt (blk_lt (g := gb130) (o := .cells #[.int .i64 a0_0, .int .i64 a0_1, .slice A0_2 l0_2.length c0_2] 30 (0, 0)) u3_1) : gb138 ≠ gb130)); replace BK130 := am (blk_below (g := gb130) (o := .cells #[.int .i64 a0_0, .int .i64 a0_1, .slice A0_2 l0_2.length c0_2] 30 (0, 0)) u3_1 hb); clear hb hbox hg; have hnb22 := NB138_130.out; have hnc22 := NB130_138.out; obtain ⟨hcz23_0, hcz23_1, hcz23_2, hcz23_3, hfz23_0, hfz23_1, hfz23_2, hfz23_3⟩ := bc4f w21 BK138.out))
   repeat (go_quiet (first | (go_at_call 51; (with_reducible refine (spec_l09Find.calls kj3 a0_0 a0_1 _ _ l0_2 a1 t134 t135 t136 t137 _ ?side1 ?side2 A18.out).mono ?_); (case side1 => exact q5); (case side2 => exact HC0_2.out); rintro e w20 ⟨rfl, hb⟩; replace BK130 := am (blk_below (g := gb130) (o := .cells #[.int .i64 a0_0, .int .i64 a0_1, .slice A0_2 l0_2.length c0_2] 30 (0, 0)) u3_1 hb); replace HB := am (below_step q1 hb); (try clear hb); (try clear hb2); (try clear hk); (try clear hi)) | ((with_reducible refine gate_dst (N := 8) rfl ?_); refine box_event ?hg (N := 8) ?hd (cs := #[.int .i64 0, .int .i64 0, .int .i64 0, .string (⟨#[]⟩ : ByteArray)]) (t := 54) ?hr ?_; (case hd => rfl); (case hg => rfl); (case hr => first | (go_simp; done) | (go_simp; rfl)); intro gb138 hg w21 hbox hb; have BK138 := am (hbox); have GW138 := am ((by rw [hg]; exact (below_size q1) : w.heap.size ≤ gb138)); have GE138 := am ((by rw [hg]; exact (below_size q1) : w.heap.size ≤ gb138)); replace HB := am (below_step q1 hb); have NB130_138 := am ((by rw [hg]; exact Nat.ne_of_lt (blk_lt (g := gb130) (o := .cells #[.int .i64 a0_0, .int .i64 a0_1, .slice A0_2 l0_2.length c0_2] 30 (0, 0)) u3_1) : gb130 ≠ gb138)); have NB138_130 := am ((by rw [hg]; exact Nat.ne_of_gt (blk_lt (g := gb130) (o := .cells #[.int .i64 a0_0, .int .i64 a0_1, .slice A0_2 l0_2.length c0_2] 30 (0, 0)) u3_1) : gb138 ≠ gb130)); replace BK130 := am (blk_below (g := gb130) (o := .cells #[.int .i64 a0_0, .int .i64 a0_1, .slice A0_2 l0_2.length c0_2] 30 (0, 0)) u3_1 hb); clear hb hbox hg; have hnb22 := NB138_130.out; have hnc22 := NB130_138.out; obtain ⟨hcz23_0, hcz23_1, hcz23_2, hcz23_3, hfz23_0, hfz23_1, hfz23_2, hfz23_3⟩ := bc4f w21 BK138.out)); go_upto_if 25 with (first | (go_at_call 51; (with_reducible refine (spec_l09Find.calls kj3 a0_0 a0_1 _ _ l0_2 a1 t134 t135 t136 t137 _ ?side1 ?side2 A18.out).mono ?_); (case side1 => exact q5); (case side2 => exact HC0_2.out); rintro e w20 ⟨rfl, hb⟩; replace BK130 := am (blk_below (g := gb130) (o := .cells #[.int .i64 a0_0, .int .i64 a0_1, .slice A0_2 l0_2.length c0_2] 30 (0, 0)) u3_1 hb); replace HB := am (below_step q1 hb); (try clear hb); (try clear hb2); (try clear hk); (try clear hi)) | ((with_reducible refine gate_dst (N := 8) rfl ?_); refine box_event ?hg (N := 8) ?hd (cs := #[.int .i64 0, .int .i64 0, .int .i64 0, .string (⟨#[]⟩ : ByteArray)]) (t := 54) ?hr ?_; (case hd => rfl); (case hg => rfl); (case hr => first | (go_simp; done) | (go_simp; rfl)); intro gb138 hg w21 hbox hb; have BK138 := am (hbox); have GW138 := am ((by rw [hg]; exact (below_size q1) : w.heap.size ≤ gb138)); have GE138 := am ((by rw [hg]; exact (below_size q1) : w.heap.size ≤ gb138)); replace HB := am (below_step q1 hb); have NB130_138 := am ((by rw [hg]; exact Nat.ne_of_lt (blk_lt (g := gb130) (o := .cells #[.int .i64 a0_0, .int .i64 a0_1, .slice A0_2 l0_2.length c0_2] 30 (0, 0)) u3_1) : gb130 ≠ gb138)); have NB138_130 := am ((by rw [hg]; exact Nat.ne_of_gt (blk_lt (g := gb130) (o := .cells #[.int .i64 a0_0, .int .i64 a0_1, .slice A0_2 l0_2.length c0_2] 30 (0, 0)) u3_1) : gb138 ≠ gb130)); replace BK130 := am (blk_below (g := gb130) (o := .cells #[.int .i64 a0_0, .int .i64 a0_1, .slice A0_2 l0_2.length c0_2] 30 (0, 0)) u3_1 hb); clear hb hbox hg; have hnb22 := NB138_130.out; have hnc22 := NB130_138.out; obtain ⟨hcz23_0, hcz23_1, hcz23_2, hcz23_3, hfz23_0, hfz23_1, hfz23_2, hfz23_3⟩ := bc4f w21 BK138.out)))
   have H := H9.out
   clear H9
   by_cases c24 : a2 = (wrap64 (t135 + 1))
   · rw [if_pos c24] at H
     have c24b0 : (a2 == (wrap64 (t135 + 1))) = true := beq_iff_eq.mpr c24
     have c24b1 : (a2 != (wrap64 (t135 + 1))) = false := bne_eq_false_iff_eq.mpr c24
     clear c24
     (first | rw [c24b0] | (simp only [i64_w, i32_w]; rw [c24b0]) | skip)
     simp only [Option.some.injEq, Prod.mk.injEq] at H
     obtain ⟨rfl, rfl⟩ := H
     go_wp2
     repeat (go_quiet (fail); try go_wp2)
     go_ret2
     exact ⟨er, q1⟩
   rw [if_neg c24] at H
   have c24b0 : (a2 == (wrap64 (t135 + 1))) = false := beq_eq_false_iff_ne.mpr c24
   have c24b1 : (a2 != (wrap64 (t135 + 1))) = true := bne_iff_ne.mpr c24
   (first | rw [c24b0] | (simp only [i64_w, i32_w]; rw [c24b0]) | skip)
   by_cases c25 : a2 = t135
   · rw [if_pos c25] at H
     have c25b0 : (a2 == t135) = true := beq_iff_eq.mpr c25
     have c25b1 : (a2 != t135) = false := bne_eq_false_iff_eq.mpr c25
     clear c25
     simp only [Option.some.injEq, Prod.mk.injEq] at H
     obtain ⟨rfl, rfl⟩ := H
     have hnb26 := NB138_130.out
     have hnc26 := NB130_138.out
     obtain ⟨hcz27_0, hcz27_1, hcz27_2, hcz27_3, hfz27_0, hfz27_1, hfz27_2, hfz27_3⟩ := bc4f w21 BK138.out
     go_wp2
     repeat (go_quiet (fail); try go_wp2)
     go_ret2
     exact ⟨er, q1⟩
   rw [if_neg c25] at H
   have c25b0 : (a2 == t135) = false := beq_eq_false_iff_ne.mpr c25
   have c25b1 : (a2 != t135) = true := bne_iff_ne.mpr c25
   by_cases c28 : a2 < t135
   · rw [if_pos c28] at H
     have c28b0 : decide (a2 < t135) = true := decide_eq_true c28
     clear c28
     simp only [Option.some.injEq, Prod.mk.injEq] at H
     obtain ⟨rfl, rfl⟩ := H
     have hnb29 := NB138_130.out
     have hnc29 := NB130_138.out
     obtain ⟨hcz30_0, hcz30_1, hcz30_2, hcz30_3, hfz30_0, hfz30_1, hfz30_2, hfz30_3⟩ := bc4f w21 BK138.out
     go_wp2
     repeat (go_quiet (fail); try go_wp2)
     go_ret2
     exact ⟨er, q1⟩
   rw [if_neg c28] at H
   have c28b0 : decide (a2 < t135) = false := decide_eq_false c28
   clear c28
   simp only [Option.some.injEq, Prod.mk.injEq] at H
   obtain ⟨rfl, rfl⟩ := H
   have hnb31 := NB138_130.out
   have hnc31 := NB130_138.out
   obtain ⟨hcz32_0, hcz32_1, hcz32_2, hcz32_3, hfz32_0, hfz32_1, hfz32_2, hfz32_3⟩ := bc4f w21 BK138.out
   go_wp2
   repeat (go_quiet (fail); try go_wp2)
   go_ret2
   exact ⟨er, q1⟩

end Go.Proofs.YtjdpifafijcpbaaDoor.QFnExactOnceEach
