-- Printed by the session's own program wip/prx.py.
import Derived.Test.YtkcadcoohmofcaaSqFnExactElect
import Derived.Test.YtkcadcoohmofcaaQFnExactElectx0
import Derived.Test.YtkcadcoohmofcaaQFnExactElectx7
namespace Go.Proofs.Ytkcadcoohmofcaa.QFnExactElect
open Go.RowKit Go.Proofs.YtkcadcoohmofcaaW.PrintWords Go.Proofs.YtkcadcoohmofcaaW.PrintLast Go.Proofs.YtkcadcoohmofcaaW.PrintMore Go.Proofs.Ytkcadcoohmofcaa.SqFnExactElect
attribute [local go_sem] max2_int min2_int max_two min_two max_three min_three max_four min_four Go.Proofs.Ytkcadcoohmofcaa.Set.isSome_setCell
set_option linter.unusedVariables false
set_option linter.unusedSimpArgs false

-- squeezed
theorem u10_3 {P : Prop} (h : P := by (with_reducible repeat (first | refine blk_drewN ?_ _ | refine blk_drew ?_ | refine blk_alloc ?_ _)); exact BK250.out) : P := h
theorem u10_5 {P : Prop} (h : P := by repeat (first | (with_reducible first | exact HK.out | apply Kept.alloc | apply Kept.drewN | apply Kept.drew | refine Kept.setCell ?_ (.inr GW277.out) _ | refine Kept.setCell ?_ (.inr GW278.out) _) | exact HK.out)) : P := h
theorem u10_8 {P : Prop} (h : P := by (with_reducible repeat (first | refine blk_drewN ?_ _ | refine blk_drew ?_ | refine blk_alloc ?_ _)); exact BK251.out) : P := h
theorem u10_9 {P : Prop} (h : P := by (with_reducible repeat (first | refine blk_drewN ?_ _ | refine blk_drew ?_ | refine blk_alloc ?_ _)); exact BK264.out) : P := h
theorem u10_10 {P : Prop} (h : P := by (with_reducible repeat (first | refine blk_drewN ?_ _ | refine blk_drew ?_ | refine blk_alloc ?_ _)); exact BK277.out) : P := h
theorem u10_14 {P : Prop} (h : P := by (with_reducible repeat (first | apply Kd.R_alloc | apply Kd.R_drewN | apply Kd.R_drew)); exact (Kd.R_mono (Kd.R_far (p := ⟨gb264, 8, none⟩) (Kd.R_types HO273.out BK264.out (by decide)) (fun _ hk => hk.2) (.slice Ao13 t271.length co13)) (fun _ h_ => h_.1))) : P := h
theorem u10_17 {P : Prop} (h : P := by first | exact Kd.R_nil _ _ _ _ _ | exact Kd.N_nil _ _ _ _ _ | exact Kd.V_nil _ _ _ _ _ | exact Kd.Q_nil _ _ _ _ _ | exact Kd.S_nil _ _ _ _ _) : P := h
/-! ### spec_l05Copy: function 84 -/
def spec_l05Copy.l0 : Nat → Int → Int → Int → List (S85) → Int → Int → List (S85) → Option (Int × Int × (List (S85)))
 | 0, _, _, _, _, _, _, _ => none
 | k + 1, x4, x251000, x251001, x251002, x253000, x253001, x253002 => if x4 < (x251002.length : Int) then (if 0 ≤ x4 then (if x253002.length < 5864062014805 then (spec_l05Copy.l0 k (wrap64 (x4 + 1)) x251000 x251001 x251002 x253000 x253001 (x253002 ++ [(⟨(rd_T85 x251002 x4).f0, (rd_T85 x251002 x4).f1⟩ : S85)])) else (none)) else (none)) else (some (x253000, x253001, x253002))
def spec_l05Copy.f (k : Nat) (a0_0 : Int) (a0_1 : Int) (l0_2 : List (S85)) : Option (Int × Int × (List (S85))) := spec_l05Copy.l0 k 0 a0_0 a0_1 l0_2 a0_0 a0_1 ([] : List (S85))
theorem spec_l05Copy.mono_l : ∀ k, (∀ y0 y1 y2 y3 y4 y5 y6, LeO (spec_l05Copy.l0 k y0 y1 y2 y3 y4 y5 y6) (spec_l05Copy.l0 (k + 1) y0 y1 y2 y3 y4 y5 y6))
 | 0 => fun _ _ _ _ _ _ _ r h => by simp [spec_l05Copy.l0] at h
 | k + 1 => by
   have ih0 := spec_l05Copy.mono_l k
   · intro y0 y1 y2 y3 y4 y5 y6
     unfold spec_l05Copy.l0
     repeat' first
     | (with_reducible exact ih0 _ _ _ _ _ _ _)
     | (with_reducible exact LeO.refl _)
     | (with_reducible exact LeO.none _)
     | (with_reducible refine LeO.ite ?_ ?_)
     | (with_reducible refine LeO.bind ?_ (fun _ => ?_))
     | exact ih0 _ _ _ _ _ _ _
     | exact LeO.none _
     | refine LeO.ite ?_ ?_
     | refine LeO.bind ?_ (fun _ => ?_)
theorem spec_l05Copy.mono : ∀ a0 a1 a2 k, LeO (spec_l05Copy.f k a0 a1 a2) (spec_l05Copy.f (k + 1) a0 a1 a2) := by
 intro a0 a1 a2 k
 have ih0 := spec_l05Copy.mono_l k
 unfold spec_l05Copy.f
 repeat' first
     | (with_reducible exact ih0 _ _ _ _ _ _ _)
     | (with_reducible exact LeO.refl _)
     | (with_reducible exact LeO.none _)
     | (with_reducible refine LeO.ite ?_ ?_)
     | (with_reducible refine LeO.bind ?_ (fun _ => ?_))
     | exact ih0 _ _ _ _ _ _ _
     | exact LeO.none _
     | refine LeO.ite ?_ ?_
     | refine LeO.bind ?_ (fun _ => ?_)
def spec_l05Copy.T5 : Bool × List (List Nat × List Nat) := (true, [([], []), ([0], [0]), ([], []), ([2], [2]), ([], []), ([3, 4], [3, 4]), ([5], [5]), ([6], [6]), ([1, 7], [1, 7]), ([0, 1, 2, 3, 4, 5, 6, 7, 8], []), ([9, 8, 8, 0, 1, 2, 3, 4, 5, 6, 7, 8], [8, 9])])
def spec_l05Copy.B5 : List Nat := [0, 1, 0, 4, 0, 28, 60, 124, 255, 511, 1023]
theorem spec_l05Copy.tab5 : rtab .any (opsOf Try.f84 5) = spec_l05Copy.T5 := by kernel_rfl
theorem spec_l05Copy.bits5 : waitsOk spec_l05Copy.T5.2 spec_l05Copy.B5 = true := by kernel_rfl
set_option maxHeartbeats 8000000 in
set_option maxRecDepth 100000 in
theorem spec_l05Copy.calls (k : Nat) (a0_0 : Int) (a0_1 : Int) (A0_2 : Option Addr) (c0_2 : Nat) (l0_2 : List (S85)) (r1 : Int) (r2 : Int) (r3 : List (S85)) (w : World) (hr0_2 : Kd.C k85 w A0_2 l0_2.length l0_2) (hc0_2 : l0_2.length ≤ c0_2) (h : spec_l05Copy.f k a0_0 a0_1 l0_2 = some (r1, r2, r3)) :
   Calls Try.prog 84 #[.agg #[.int .i64 a0_0, .int .i64 a0_1, .slice A0_2 l0_2.length c0_2]] w fun e w' => ∃ v2_ : Value, e = .returned (.agg #[.int .i64 r1, .int .i64 r2, v2_]) ∧ Kd.R k85 85 w' w.heap.size (fun _ => True) v2_ r3 ∧ Below w.heap.size w w' := by
 have hu34 := Try.underlying34
 have hu85 := Try.underlying85
 have HR0_2 := am hr0_2
 have HC0_2 := am hc0_2
 clear hr0_2 hc0_2
 have HB := am (Below.refl w.heap.size w)
 have H : (spec_l05Copy.l0 k 0 a0_0 a0_1 l0_2 a0_0 a0_1 ([] : List (S85))) = some (r1, r2, r3) := h
 clear h
 have H' := am H
 clear H
 go_enter Try.func84, Try.ntmps84
 go_wp2_with (first | ((with_reducible refine gate_dst (N := 1) rfl ?_); refine box_event ?hg (N := 1) ?hd (cs := #[.int .i64 a0_0, .int .i64 a0_1, .slice A0_2 l0_2.length c0_2]) (t := 34) ?hr ?_; (case hd => rfl); (case hg => rfl); (case hr => first | (go_simp; done) | (go_simp; rfl)); intro gb250 hg w2 hbox hb; have BK250 := am (hbox); have GW250 := am ((by rw [hg]; exact (below_size Q0) : w.heap.size ≤ gb250)); have GE250 := am ((by rw [hg]; exact (below_size Q0) : w.heap.size ≤ gb250)); replace HB := am (below_step Q0 hb); clear hb hbox hg) | ((with_reducible refine gate_dst (N := 2) rfl ?_); refine box_event ?hg (N := 2) ?hd (cs := #[.int .i64 0, .int .i64 0, .slice none 0 0]) (t := 34) ?hr ?_; (case hd => rfl); (case hg => rfl); (case hr => first | (go_simp; done) | (go_simp; rfl)); intro gb251 hg w3 hbox hb; have BK251 := am (hbox); have GW251 := am ((by rw [hg]; exact (below_size Q0) : w.heap.size ≤ gb251)); have GE251 := am ((by rw [hg]; exact (below_size Q0) : w.heap.size ≤ gb251)); replace HB := am (below_step Q0 hb); have NB250_251 := am ((by rw [hg]; exact Nat.ne_of_lt (blk_lt (g := gb250) (o := .cells #[.int .i64 a0_0, .int .i64 a0_1, .slice A0_2 l0_2.length c0_2] 34 (0, 0)) u10_3) : gb250 ≠ gb251)); have NB251_250 := am ((by rw [hg]; exact Nat.ne_of_gt (blk_lt (g := gb250) (o := .cells #[.int .i64 a0_0, .int .i64 a0_1, .slice A0_2 l0_2.length c0_2] 34 (0, 0)) u10_3) : gb251 ≠ gb250)); replace BK250 := am (blk_below (g := gb250) (o := .cells #[.int .i64 a0_0, .int .i64 a0_1, .slice A0_2 l0_2.length c0_2] 34 (0, 0)) u10_3 hb); clear hb hbox hg; have hnb4 := NB250_251.out; have hnc4 := NB251_250.out; obtain ⟨hcz5_0, hcz5_1, hcz5_2, hfz5_0, hfz5_1, hfz5_2⟩ := bc3f w3 BK250.out) | ((with_reducible refine gate_dst (N := 3) rfl ?_); refine box_event ?hg (N := 3) ?hd (cs := #[.int .i64 0, .int .i64 0, .slice none 0 0]) (t := 34) ?hr ?_; (case hd => rfl); (case hg => rfl); (case hr => first | (go_simp; done) | (go_simp; rfl)); intro gb252 hg w6 hbox hb; have BK252 := am (hbox); have GW252 := am ((by rw [hg]; exact (below_size Q0) : w.heap.size ≤ gb252)); have GE252 := am ((by rw [hg]; exact (below_size Q0) : w.heap.size ≤ gb252)); replace HB := am (below_step Q0 hb); have NB250_252 := am ((by rw [hg]; exact Nat.ne_of_lt (blk_lt (g := gb250) (o := .cells #[.int .i64 a0_0, .int .i64 a0_1, .slice A0_2 l0_2.length c0_2] 34 (0, 0)) u10_3) : gb250 ≠ gb252)); have NB252_250 := am ((by rw [hg]; exact Nat.ne_of_gt (blk_lt (g := gb250) (o := .cells #[.int .i64 a0_0, .int .i64 a0_1, .slice A0_2 l0_2.length c0_2] 34 (0, 0)) u10_3) : gb252 ≠ gb250)); replace BK250 := am (blk_below (g := gb250) (o := .cells #[.int .i64 a0_0, .int .i64 a0_1, .slice A0_2 l0_2.length c0_2] 34 (0, 0)) u10_3 hb); have NB251_252 := am ((by rw [hg]; exact Nat.ne_of_lt (blk_lt (g := gb251) (o := .cells #[.int .i64 0, .int .i64 0, .slice none 0 0] 34 (0, 0)) u10_8) : gb251 ≠ gb252)); have NB252_251 := am ((by rw [hg]; exact Nat.ne_of_gt (blk_lt (g := gb251) (o := .cells #[.int .i64 0, .int .i64 0, .slice none 0 0] 34 (0, 0)) u10_8) : gb252 ≠ gb251)); replace BK251 := am (blk_below (g := gb251) (o := .cells #[.int .i64 0, .int .i64 0, .slice none 0 0] 34 (0, 0)) u10_8 hb); clear hb hbox hg; have hnb7 := NB252_250.out; have hnc7 := NB250_252.out; have hnb8 := NB252_251.out; have hnc8 := NB251_252.out; obtain ⟨hcz9_0, hcz9_1, hcz9_2, hfz9_0, hfz9_1, hfz9_2⟩ := bc3f w6 BK252.out))
 go_loopg [4] k (fun kq v4 w' => ∃ (x4_1 : Int) (x253002_1 : List (S85)) (u253002 : Value), v4 = .int .i64 x4_1 ∧ Aside0 (spec_l05Copy.l0 kq x4_1 a0_0 a0_1 l0_2 a0_0 a0_1 x253002_1 = some (r1, r2, r3)) ∧ Aside0 (kq ≤ k) ∧ Aside0 (Kd.R k85 85 w' w.heap.size (fun _ => True) u253002 x253002_1) ∧ Aside0 (w'.heap[gb250]? = some (.cells #[.int .i64 a0_0, .int .i64 a0_1, (.slice A0_2 l0_2.length c0_2)] 34 (0, 0))) ∧ Aside0 (w'.heap[gb251]? = some (.cells #[.int .i64 0, .int .i64 0, (.slice none 0 0)] 34 (0, 0))) ∧ Aside0 (w'.heap[gb252]? = some (.cells #[.int .i64 a0_0, .int .i64 a0_1, u253002] 34 (0, 0))) ∧ Aside0 (Below w.heap.size w w'))
 case atStart => exact ⟨(0), (([] : List (S85))), (.slice none 0 0), Q2, H', ⟨Nat.le_refl _⟩, ⟨u10_17⟩, ⟨(by (with_reducible repeat (first | refine blk_drewN ?_ _ | refine blk_drew ?_ | refine blk_alloc ?_ _)); refine blk_far ?_ NB250_252.out _; (with_reducible repeat (first | refine blk_drewN ?_ _ | refine blk_drew ?_ | refine blk_alloc ?_ _)); refine blk_far ?_ NB250_252.out _; (with_reducible repeat (first | refine blk_drewN ?_ _ | refine blk_drew ?_ | refine blk_alloc ?_ _)); refine blk_far ?_ NB250_252.out _; (with_reducible repeat (first | refine blk_drewN ?_ _ | refine blk_drew ?_ | refine blk_alloc ?_ _)); exact BK250.out)⟩, ⟨(by (with_reducible repeat (first | refine blk_drewN ?_ _ | refine blk_drew ?_ | refine blk_alloc ?_ _)); refine blk_far ?_ NB251_252.out _; (with_reducible repeat (first | refine blk_drewN ?_ _ | refine blk_drew ?_ | refine blk_alloc ?_ _)); refine blk_far ?_ NB251_252.out _; (with_reducible repeat (first | refine blk_drewN ?_ _ | refine blk_drew ?_ | refine blk_alloc ?_ _)); refine blk_far ?_ NB251_252.out _; (with_reducible repeat (first | refine blk_drewN ?_ _ | refine blk_drew ?_ | refine blk_alloc ?_ _)); exact BK251.out)⟩, ⟨(by (with_reducible repeat (first | refine blk_drewN ?_ _ | refine blk_drew ?_ | refine blk_alloc ?_ _)); refine blk_put (cs := #[.int .i64 a0_0, .int .i64 a0_1, .slice none 0 0]) ?_ 2 _ rfl; (with_reducible repeat (first | refine blk_drewN ?_ _ | refine blk_drew ?_ | refine blk_alloc ?_ _)); refine blk_put (cs := #[.int .i64 a0_0, .int .i64 0, .slice none 0 0]) ?_ 1 _ rfl; (with_reducible repeat (first | refine blk_drewN ?_ _ | refine blk_drew ?_ | refine blk_alloc ?_ _)); refine blk_put (cs := #[.int .i64 0, .int .i64 0, .slice none 0 0]) ?_ 0 _ rfl; (with_reducible repeat (first | refine blk_drewN ?_ _ | refine blk_drew ?_ | refine blk_alloc ?_ _)); exact BK252.out)⟩, ⟨Q0⟩⟩
 clear H'
 try clear hcz5_0
 try clear hcz5_1
 try clear hcz5_2
 try clear hcz9_0
 try clear hcz9_1
 try clear hcz9_2
 try clear hfz5_0
 try clear hfz5_1
 try clear hfz5_2
 try clear hfz9_0
 try clear hfz9_1
 try clear hfz9_2
 obtain ⟨x4_1, x253002_1, u253002, rfl, HA, HK1, HO_253002, BK250, BK251, BK252, HB⟩ := hrel
 cases gk with
 | zero => exact absurd HA.out (by simp [spec_l05Copy.l0])
 | succ k1 =>
   have H := HA.out
   clear HA
   simp only [spec_l05Copy.l0] at H
   by_cases c10 : x4_1 < (l0_2.length : Int)
   rotate_left
   · rw [if_neg c10] at H
     have c10b0 : decide (x4_1 < (l0_2.length : Int)) = false := decide_eq_false c10
     clear c10
     simp only [Option.some.injEq, Prod.mk.injEq] at H
     obtain ⟨rfl, rfl, rfl⟩ := H
     have hnb20 := NB250_251.out
     have hnc20 := NB251_250.out
     have hnb21 := NB250_252.out
     have hnc21 := NB252_250.out
     obtain ⟨hcz22_0, hcz22_1, hcz22_2, hfz22_0, hfz22_1, hfz22_2⟩ := bc3f wr BK250.out
     have hnb23 := NB252_251.out
     have hnc23 := NB251_252.out
     obtain ⟨hcz24_0, hcz24_1, hcz24_2, hfz24_0, hfz24_1, hfz24_2⟩ := bc3f wr BK252.out
     obtain ⟨hcz25_0, hcz25_1, hcz25_2, hfz25_0, hfz25_1, hfz25_2⟩ := bc3f wr BK251.out
     obtain ⟨Ao26, co26, eo26⟩ := Kd.R_slice HO_253002.out
     subst eo26
     go_wp2
     refine bodyPost_ret (results_cell_row rfl _ _ gb251 34 #[.int .i64 a0_0, .int .i64 a0_1, .slice Ao26 x253002_1.length co26] (0, 0) _ rfl (by (with_reducible repeat (first | refine blk_drewN ?_ _ | refine blk_drew ?_ | refine blk_alloc ?_ _)); refine blk_put (cs := #[.int .i64 a0_0, .int .i64 a0_1, .slice none 0 0]) ?_ 2 _ rfl; (with_reducible repeat (first | refine blk_drewN ?_ _ | refine blk_drew ?_ | refine blk_alloc ?_ _)); refine blk_put (cs := #[.int .i64 a0_0, .int .i64 0, .slice none 0 0]) ?_ 1 _ rfl; (with_reducible repeat (first | refine blk_drewN ?_ _ | refine blk_drew ?_ | refine blk_alloc ?_ _)); refine blk_put (cs := #[.int .i64 0, .int .i64 0, .slice none 0 0]) ?_ 0 _ rfl; (with_reducible repeat (first | refine blk_drewN ?_ _ | refine blk_drew ?_ | refine blk_alloc ?_ _)); exact BK251.out) Try.underlying34 rfl kr) rfl ?_
     exact ⟨_, er, (by (with_reducible repeat (first | apply Kd.R_alloc | apply Kd.R_drewN | apply Kd.R_drew)); exact Kd.R_mono (Kd.R_far (p := ⟨gb251, 2, none⟩) (Kd.R_far (p := ⟨gb251, 1, none⟩) (Kd.R_far (p := ⟨gb251, 0, none⟩) (Kd.R_types HO_253002.out BK251.out (by decide)) (fun _ hk => hk.2) (.int .i64 a0_0)) (fun _ hk => hk.2) (.int .i64 a0_1)) (fun _ hk => hk.2) (.slice Ao26 x253002_1.length co26)) (fun _ hk => trivial)), Q0⟩
   rw [if_pos c10] at H
   have c10b0 : decide (x4_1 < (l0_2.length : Int)) = true := decide_eq_true c10
   clear c10
   by_cases c11 : 0 ≤ x4_1
   rotate_left
   · rw [if_neg c11] at H
     exact absurd H (by simp)
   rw [if_pos c11] at H
   have c11b0 : decide (0 ≤ x4_1) = true := decide_eq_true c11
   clear c11
   by_cases c12 : x253002_1.length < 5864062014805
   rotate_left
   · rw [if_neg c12] at H
     exact absurd H (by simp)
   rw [if_pos c12] at H
   have LMc12 := am c12
   clear c12
   obtain ⟨y254, hy254⟩ : ∃ y_ : List (S85), y_ = (x253002_1 ++ [(⟨(rd_T85 l0_2 x4_1).f0, (rd_T85 l0_2 x4_1).f1⟩ : S85)]) := ⟨_, rfl⟩
   replace H : (spec_l05Copy.l0 k1 (wrap64 (x4_1 + 1)) a0_0 a0_1 l0_2 a0_0 a0_1 y254) = some (r1, r2, r3) := by first | (rw [hy254]; with_reducible exact H) | (have H2_ := (Option.bind_some _ _).symm.trans H; rw [hy254]; with_reducible exact H2_) | (have H2_ := (Option.bind_some _ _).symm.trans H; with_reducible exact H2_) | with_reducible exact H | (rw [hy254]; exact H) | exact H
   have Ny254 := am hy254
   clear hy254
   have H' := am H
   clear H
   have hnb13 := NB250_251.out
   have hnc13 := NB251_250.out
   have hnb14 := NB250_252.out
   have hnc14 := NB252_250.out
   obtain ⟨hcz15_0, hcz15_1, hcz15_2, hfz15_0, hfz15_1, hfz15_2⟩ := bc3f wr BK250.out
   try go_wp2
   replace HO_253002 := am (Kd.R_drew HO_253002.out)
   replace BK250 := am (blk_drew BK250.out)
   replace BK251 := am (blk_drew BK251.out)
   replace BK252 := am (blk_drew BK252.out)
   replace HB := am (below_drew1 HB.out)
   have p253 : 0 ≤ (x4_1 : Int) := of_decide_eq_true Q1
   have q253 : x4_1 < (l0_2.length : Int) := of_decide_eq_true Q1
   obtain ⟨ad253, e253, hx253_0, hx253_1⟩ := at_T85 HR0_2.out x4_1 p253 q253
   have hw253_1 := hx253_1
   have hw253_0 := hx253_0
   cases e253
   replace hx253_0 := cm HB.out hx253_0
   replace hx253_1 := cm HB.out hx253_1
   replace p253 := eq_true p253
   replace q253 := eq_true q253
   refine start_ (n := 11) (S := fun w' => w'.cell? ⟨gb252, 0, none⟩ = some (.int .i64 a0_0) ∧ w'.cell? ⟨gb252, 1, none⟩ = some (.int .i64 a0_1) ∧ w'.cell? ⟨gb252, 2, none⟩ = some (u253002) ∧ w'.cell? ⟨gb250, 0, none⟩ = some (.int .i64 a0_0) ∧ w'.cell? ⟨gb250, 1, none⟩ = some (.int .i64 a0_1) ∧ w'.cell? ⟨gb250, 2, none⟩ = some (.slice (some ad253) l0_2.length c0_2) ∧ w'.cell? (ad253.add ((x4_1).toNat * 2)) = some (.int .i64 ((rd_T85 l0_2 x4_1).f0)) ∧ w'.cell? ⟨(ad253.add ((x4_1).toNat * 2)).block, (ad253.add ((x4_1).toNat * 2)).off + 1, none⟩ = some (.string ((rd_T85 l0_2 x4_1).f1))) (ds := [10]) #[false, false, false, false, false, false, false, false, false, false, false] kr rfl rfl ⟨(blk_cell BK252.out 0).trans rfl, (blk_cell BK252.out 1).trans rfl, (blk_cell BK252.out 2).trans rfl, (blk_cell BK250.out 0).trans rfl, (blk_cell BK250.out 1).trans rfl, (blk_cell BK250.out 2).trans rfl, (cm HB.out hw253_0), (cm HB.out hw253_1)⟩ (fun hHeld => ?_); refine with_tabW spec_l05Copy.tab5 spec_l05Copy.bits5 (fun HT_ HW_ => ?_)
   generalize wr.drew = w16 at HO_253002 BK250 BK251 BK252 HB hx253_0 hx253_1 hHeld ⊢
   refine pV 0 17 (bt 1 11) ?_
   refine pV 2 19 #[true, false, true, false, false, false, false, false, false, false, false] ?_
   refine pV 4 21 #[true, false, true, false, true, false, false, false, false, false, false] ?_
   refine tV 1 18 #[true, true, true, false, true, false, false, false, false, false, false] ?_
   refine tV 3 20 (bt 5 11) ?_
   refine pV 5 22 (bt 6 11) ?_
   refine tV 6 23 (bt 7 11) ?_
   refine one_ (i := 7) (N := some 24) #[true, true, true, true, true, true, true, true, false, false, false] rfl rfl (one_of HT_.out kr) (by decide) (fun K hK => ?_)
   refine value_ (w1 := ?_) (v := ?_) (by rfl) rfl ?_ ?_
   rotate_left 2
   · go_simp
     constructor
     · rfl
     rfl
   refine hK.out _ _ ⟨(blk_cell (blk_alloc BK252.out _) 0).trans rfl, (blk_cell (blk_alloc BK252.out _) 1).trans rfl, (blk_cell (blk_alloc BK252.out _) 2).trans rfl, (blk_cell (blk_alloc BK250.out _) 0).trans rfl, (blk_cell (blk_alloc BK250.out _) 1).trans rfl, (blk_cell (blk_alloc BK250.out _) 2).trans rfl, (World.cell?_alloc_lt _ _ _ (World.block_lt_of_cell? _ _ ((cm HB.out hw253_0)))).trans ((cm HB.out hw253_0)), (World.cell?_alloc_lt _ _ _ (World.block_lt_of_cell? _ _ ((cm HB.out hw253_1)))).trans ((cm HB.out hw253_1))⟩ (fun hHeld => ?_)
   clear hK K
   refine norm_ (a' := ?_) ?_ ?_
   rotate_left
   · show Act.put _ (some 24) _ = _
     simp only [Act.put, la, lb, lc, i64_w, i32_w]
     rfl
   refine one_ (i := 8) (N := some 25) #[true, true, true, true, true, true, true, true, true, false, false] rfl rfl (one_of HT_.out kr) (by decide) (fun K hK => ?_)
   refine Kd.R_append_step k85 (w0 := w) w.heap.size (by rfl) (.tmp 18) (.tmp 24) 27 85 (.agg #[(.int .i64 0), (.string ⟨#[]⟩)]) 24 rfl Try.underlying27 info85 rfl (by decide) (by omega) u253002 x253002_1 (⟨(rd_T85 l0_2 x4_1).f0, (rd_T85 l0_2 x4_1).f1⟩ : S85) [.int .i64 ((rd_T85 l0_2 x4_1).f0), .string ((rd_T85 l0_2 x4_1).f1)] (fun _ => True) (fun _ => False) rfl rfl ?aP (fun _ hk => hk.elim) ?aF ?aO ?aB ?aS ?aL ?_
   (case aP => exact k85_mkM _ _ _ (⟨(rd_T85 l0_2 x4_1).f0, (rd_T85 l0_2 x4_1).f1⟩ : S85))
   (case aB => exact Q0)
   (case aF => exact (fun _ _ => trivial))
   (case aO => exact (by (with_reducible repeat (first | apply Kd.R_alloc | apply Kd.R_drewN | apply Kd.R_drew)); exact HO_253002.out))
   (case aS => exact (below_size Q0))
   (case aL => have := LMc12.out; omega)
   intro v255 w17 ho hb hg hat
   rw [← Ny254.out] at ho
   replace BK250 := am (blk_grown (g := gb250) (o := .cells #[.int .i64 a0_0, .int .i64 a0_1, .slice (some ad253) l0_2.length c0_2] 34 (0, 0)) u10_3 hg (Kd.R_ne HO_253002.out BK250.out (by decide)))
   replace BK251 := am (blk_grown (g := gb251) (o := .cells #[.int .i64 0, .int .i64 0, .slice none 0 0] 34 (0, 0)) u10_8 hg (Kd.R_ne HO_253002.out BK251.out (by decide)))
   replace BK252 := am (blk_grown (g := gb252) (o := .cells #[.int .i64 a0_0, .int .i64 a0_1, u253002] 34 (0, 0)) (by (with_reducible repeat (first | refine blk_drewN ?_ _ | refine blk_drew ?_ | refine blk_alloc ?_ _)); exact BK252.out) hg (Kd.R_ne HO_253002.out BK252.out (by decide)))
   replace HB := am (hb)
   have HO256 := am (ho)
   clear HO_253002
   clear ho hb hg hat
   obtain ⟨Ao18, co18, eo18⟩ := Kd.R_slice HO256.out
   (first | subst eo18 | (injection eo18 with f1_ f2_ f3_; have f4_ := f1_.symm; have f5_ := f3_.symm; clear f1_ f2_ f3_; subst f4_; subst f5_))
   refine hK.out _ _ ⟨(blk_cell BK252.out 0).trans rfl, (blk_cell BK252.out 1).trans rfl, (blk_cell BK252.out 2).trans rfl, (blk_cell BK250.out 0).trans rfl, (blk_cell BK250.out 1).trans rfl, (blk_cell BK250.out 2).trans rfl, (cm HB.out hw253_0), (cm HB.out hw253_1)⟩ (fun hHeld => ?_)
   clear hK K
   refine norm_ (a' := ?_) ?_ ?_
   rotate_left
   · show Act.put _ (some 25) _ = _
     simp only [Act.put, la, lb, lc, i64_w, i32_w]
     rfl
   refine pV 9 26 (bt 10 11) ?_
   refine last_ (i := 10) (N := none) #[true, true, true, true, true, true, true, true, true, true, true] rfl rfl (one_of HT_.out kr) (by decide) (fun K hK => ?_)
   have hs19 : w17.cell? ⟨gb252, 2, none⟩ = some (u253002) := (blk_cell BK252.out 2).trans rfl
   have hfs19 := blk_frozen BK252.out 2
   have hns19_0 := NB250_252.out
   have hns19_1 := NB251_252.out
   have hms19_0 := NB252_250.out
   have hms19_1 := NB252_251.out
   refine skip_ (w1 := ?_) (by rfl) rfl ?_ ?_
   rotate_left
   · go_simp
     rfl
   refine hK.out _ _ ?_
   clear hK K
   refine done_ (done_of HT_.out kr) ?_
   try go_wp2
   go_roundg k1
   case measure => have := HK1.out; omega
   case rel => exact ⟨(wrap64 (x4_1 + 1)), (y254), (.slice Ao18 y254.length co18), Q2, H', ⟨by have := HK1.out; omega⟩, ⟨(by (with_reducible repeat (first | apply Kd.R_alloc | apply Kd.R_drewN | apply Kd.R_drew)); exact Kd.R_mono (Kd.R_far (p := ⟨gb252, 2, none⟩) (Kd.R_types HO256.out BK252.out (by decide)) (fun _ hk => hk.2) (.slice Ao18 y254.length co18)) (fun _ hk => trivial))⟩, ⟨(by (with_reducible repeat (first | refine blk_drewN ?_ _ | refine blk_drew ?_ | refine blk_alloc ?_ _)); refine blk_far ?_ NB250_252.out _; (with_reducible repeat (first | refine blk_drewN ?_ _ | refine blk_drew ?_ | refine blk_alloc ?_ _)); exact BK250.out)⟩, ⟨(by (with_reducible repeat (first | refine blk_drewN ?_ _ | refine blk_drew ?_ | refine blk_alloc ?_ _)); refine blk_far ?_ NB251_252.out _; (with_reducible repeat (first | refine blk_drewN ?_ _ | refine blk_drew ?_ | refine blk_alloc ?_ _)); exact BK251.out)⟩, ⟨(by (with_reducible repeat (first | refine blk_drewN ?_ _ | refine blk_drew ?_ | refine blk_alloc ?_ _)); refine blk_put (cs := #[.int .i64 a0_0, .int .i64 a0_1, u253002]) ?_ 2 _ rfl; (with_reducible repeat (first | refine blk_drewN ?_ _ | refine blk_drew ?_ | refine blk_alloc ?_ _)); exact BK252.out)⟩, ⟨Q0⟩⟩

/-! ### spec_l01Copy: function 117 -/
def spec_l01Copy.l0 : Nat → List Int → List Int → Int → Option (List Int)
 | 0, _, _, _ => none
 | k + 1, x0, x3, x4 => if x4 < (x0.length : Int) then (if 0 ≤ x4 then (if x3.length < 17592186044416 then (spec_l01Copy.l0 k x0 (x3 ++ [rd x0 x4]) (wrap64 (x4 + 1))) else (none)) else (none)) else (some x3)
def spec_l01Copy.f (k : Nat) (l0 : List Int) : Option (List Int) := spec_l01Copy.l0 k l0 (([] : List Int)) 0
theorem spec_l01Copy.mono_l : ∀ k, (∀ y0 y1 y2, LeO (spec_l01Copy.l0 k y0 y1 y2) (spec_l01Copy.l0 (k + 1) y0 y1 y2))
 | 0 => fun _ _ _ r h => by simp [spec_l01Copy.l0] at h
 | k + 1 => by
   have ih0 := spec_l01Copy.mono_l k
   · intro y0 y1 y2
     unfold spec_l01Copy.l0
     repeat' first
     | (with_reducible exact ih0 _ _ _)
     | (with_reducible exact LeO.refl _)
     | (with_reducible exact LeO.none _)
     | (with_reducible refine LeO.ite ?_ ?_)
     | (with_reducible refine LeO.bind ?_ (fun _ => ?_))
     | exact ih0 _ _ _
     | exact LeO.none _
     | refine LeO.ite ?_ ?_
     | refine LeO.bind ?_ (fun _ => ?_)
theorem spec_l01Copy.mono : ∀ a0 k, LeO (spec_l01Copy.f k a0) (spec_l01Copy.f (k + 1) a0) := by
 intro a0 k
 have ih0 := spec_l01Copy.mono_l k
 unfold spec_l01Copy.f
 repeat' first
     | (with_reducible exact ih0 _ _ _)
     | (with_reducible exact LeO.refl _)
     | (with_reducible exact LeO.none _)
     | (with_reducible refine LeO.ite ?_ ?_)
     | (with_reducible refine LeO.bind ?_ (fun _ => ?_))
     | exact ih0 _ _ _
     | exact LeO.none _
     | refine LeO.ite ?_ ?_
     | refine LeO.bind ?_ (fun _ => ?_)
set_option maxHeartbeats 8000000 in
set_option maxRecDepth 100000 in
theorem spec_l01Copy.calls (k : Nat) (A0 : Option Addr) (c0 : Nat) (l0 : List Int) (r : List Int) (w : World) (hr0 : Kd.C (Kd.int .i64) w A0 l0.length l0) (hc0 : l0.length ≤ c0) (h : spec_l01Copy.f k l0 = some r) :
   Calls Try.prog 117 #[.slice A0 l0.length c0] w fun e w' => ∃ v0_ : Value, e = .returned (v0_) ∧ Kd.R (Kd.int .i64) 3 w' w.heap.size (fun _ => True) v0_ r ∧ Below w.heap.size w w' := by
 have HR0 := am hr0
 have HC0 := am hc0
 clear hr0 hc0
 have HB := am (Below.refl w.heap.size w)
 have H : (spec_l01Copy.l0 k l0 (([] : List Int)) 0) = some r := h
 clear h
 obtain ⟨y257, hy257⟩ : ∃ y_ : List Int, y_ = (([] : List Int)) := ⟨_, rfl⟩
 replace H : (spec_l01Copy.l0 k l0 y257 0) = some r := by first | (rw [hy257]; with_reducible exact H) | (have H2_ := (Option.bind_some _ _).symm.trans H; rw [hy257]; with_reducible exact H2_) | (have H2_ := (Option.bind_some _ _).symm.trans H; with_reducible exact H2_) | with_reducible exact H | (rw [hy257]; exact H) | exact H
 have Ny257 := am hy257
 clear hy257
 have H' := am H
 clear H
 go_enter Try.func117, Try.ntmps117
 go_wp2_with (first | ((with_reducible refine gate_dst (N := 5) rfl ?_); refine Kd.R_lit (Kd.int .i64) _ 3 ?hg (N := 5) ?hd (xs := ([] : List Int)) (inner := []) (ok := fun _ => True) (okp := fun _ => True) ?hr ?hp (fun _ hk => hk) trivial (Below.refl _ _) (Nat.le_refl _) (by simp) ?_; (case hd => rfl); (case hg => rfl); (case hr => first | (go_simp; done) | (go_simp; rfl)); (case hp => exact (Reps.none _ _)); intro v258 w2 ho3 hb hg_ hnew_; clear hg_ hnew_; (first | rw [← Ny257.out] at ho3 | (simp only [Int.reduceToNat] at ho3; rw [← Ny257.out] at ho3)); have HO259 := am (Kd.R_lower ho3 (below_size Q0)); replace HB := am (below_step Q0 hb); clear hb ho3))
 go_loopg [3, 4] k (fun kq v3 v4 w' => ∃ (x3_1 : List Int) (x4_1 : Int), v4 = .int .i64 x4_1 ∧ Aside0 (spec_l01Copy.l0 kq l0 x3_1 x4_1 = some r) ∧ Aside0 (kq ≤ k) ∧ Aside0 (Kd.R (Kd.int .i64) 3 w' w.heap.size (fun _ => True) v3 x3_1) ∧ Aside0 (Below w.heap.size w w'))
 case atStart => exact ⟨(y257), (0), Q2, H', ⟨Nat.le_refl _⟩, ⟨(by (with_reducible repeat (first | apply Kd.R_alloc | apply Kd.R_drewN | apply Kd.R_drew)); exact HO259.out)⟩, ⟨Q0⟩⟩
 clear H'
 obtain ⟨x3_1, x4_1, rfl, HA, HK1, HO_3, HB⟩ := hrel
 cases gk with
 | zero => exact absurd HA.out (by simp [spec_l01Copy.l0])
 | succ k1 =>
   have H := HA.out
   clear HA
   simp only [spec_l01Copy.l0] at H
   by_cases c4 : x4_1 < (l0.length : Int)
   rotate_left
   · rw [if_neg c4] at H
     have c4b0 : decide (x4_1 < (l0.length : Int)) = false := decide_eq_false c4
     clear c4
     obtain rfl := sj H
     go_wp2
     go_ret
     exact ⟨_, er, Q8, Q0⟩
   rw [if_pos c4] at H
   have c4b0 : decide (x4_1 < (l0.length : Int)) = true := decide_eq_true c4
   clear c4
   by_cases c5 : 0 ≤ x4_1
   rotate_left
   · rw [if_neg c5] at H
     exact absurd H (by simp)
   rw [if_pos c5] at H
   have c5b0 : decide (0 ≤ x4_1) = true := decide_eq_true c5
   clear c5
   by_cases c6 : x3_1.length < 17592186044416
   rotate_left
   · rw [if_neg c6] at H
     exact absurd H (by simp)
   rw [if_pos c6] at H
   have LMc6 := am c6
   clear c6
   obtain ⟨y261, hy261⟩ : ∃ y_ : List Int, y_ = (x3_1 ++ [rd l0 x4_1]) := ⟨_, rfl⟩
   replace H : (spec_l01Copy.l0 k1 l0 y261 (wrap64 (x4_1 + 1))) = some r := by first | (rw [hy261]; with_reducible exact H) | (have H2_ := (Option.bind_some _ _).symm.trans H; rw [hy261]; with_reducible exact H2_) | (have H2_ := (Option.bind_some _ _).symm.trans H; with_reducible exact H2_) | with_reducible exact H | (rw [hy261]; exact H) | exact H
   have Ny261 := am hy261
   clear hy261
   have H' := am H
   clear H
   have p260 : 0 ≤ (x4_1 : Int) := of_decide_eq_true Q1
   have q260 : x4_1 < (l0.length : Int) := of_decide_eq_true Q1
   obtain ⟨ad260, e260, hx260_0⟩ := Kd.at_int HR0.out x4_1 p260 q260
   cases e260
   replace hx260_0 := cm HB.out hx260_0
   replace p260 := eq_true p260
   replace q260 := eq_true q260
   go_wp2_with (first | ((with_reducible refine gate_builtin (b := .append) (xs := #[.tmp 12, .tmp 17]) rfl ?_); at_builtin; refine Kd.R_append (Kd.int .i64) (w0 := w) w.heap.size rfl (.tmp 12) (.tmp 17) 35 3 (.int .i64 0) 8 rfl Try.underlying35 info3 rfl (by decide) (by omega) u3 x3_1 (rd l0 x4_1) [.int .i64 (rd l0 x4_1)] (fun _ => True) (fun _ => False) rfl rfl ?aP (fun _ hk => hk.elim) ?aF ?aO ?aB ?aS ?aL ?_; (case aP => exact rfl); (case aB => exact Q0); (case aF => exact (fun _ _ => trivial)); (case aO => exact Q8); (case aS => exact (below_size Q0)); (case aL => have := LMc6.out; omega); intro v262 w7 ho hb hg hat; rw [← Ny261.out] at ho; replace HB := am (hb); have HO263 := am (ho); clear HO_3; clear ho hb hg hat))
   go_roundg k1
   case measure => have := HK1.out; omega
   case rel => exact ⟨(y261), (wrap64 (x4_1 + 1)), Q2, H', ⟨by have := HK1.out; omega⟩, ⟨(by (with_reducible repeat (first | apply Kd.R_alloc | apply Kd.R_drewN | apply Kd.R_drew)); exact HO263.out)⟩, ⟨Q0⟩⟩

/-! ### spec_l07Copy: function 83 -/
def spec_l07Copy.f (k : Nat) (a0_0 : Int) (a0_1 : Int) (a0_2 : Int) (a0_3 : Int) (a0_4 : Int) (a0_5 : Int) (a0_6 : Int) (l0_7 : List (S85)) (l0_8 : List Int) (l0_9 : List Int) : Option (Int × Int × Int × Int × Int × Int × Int × (List (S85)) × List Int × List Int) := (spec_l05Copy.f k a0_5 a0_6 l0_7).bind fun bt266 => ((spec_l01Copy.f k l0_8).bind fun t271 => ((spec_l01Copy.f k l0_9).bind fun t274 => (some (a0_0, a0_1, a0_2, a0_3, a0_4, bt266.1, bt266.2.1, bt266.2.2, t271, t274))))
theorem spec_l07Copy.mono : ∀ a0 a1 a2 a3 a4 a5 a6 a7 a8 a9 k, LeO (spec_l07Copy.f k a0 a1 a2 a3 a4 a5 a6 a7 a8 a9) (spec_l07Copy.f (k + 1) a0 a1 a2 a3 a4 a5 a6 a7 a8 a9) := by
 intro a0 a1 a2 a3 a4 a5 a6 a7 a8 a9 k
 unfold spec_l07Copy.f
 repeat' first
     | (with_reducible exact spec_l01Copy.mono _ _)
     | (with_reducible exact spec_l05Copy.mono _ _ _ _)
     | (with_reducible exact LeO.refl _)
     | (with_reducible exact LeO.none _)
     | (with_reducible refine LeO.ite ?_ ?_)
     | (with_reducible refine LeO.bind ?_ (fun _ => ?_))
     | exact spec_l01Copy.mono _ _
     | exact spec_l05Copy.mono _ _ _ _
     | exact LeO.none _
     | refine LeO.ite ?_ ?_
     | refine LeO.bind ?_ (fun _ => ?_)
set_option maxHeartbeats 8000000 in
set_option maxRecDepth 100000 in
theorem spec_l07Copy.calls (k : Nat) (a0_0 : Int) (a0_1 : Int) (a0_2 : Int) (a0_3 : Int) (a0_4 : Int) (a0_5 : Int) (a0_6 : Int) (A0_7 : Option Addr) (c0_7 : Nat) (l0_7 : List (S85)) (A0_8 : Option Addr) (c0_8 : Nat) (l0_8 : List Int) (A0_9 : Option Addr) (c0_9 : Nat) (l0_9 : List Int) (r1 : Int) (r2 : Int) (r3 : Int) (r4 : Int) (r5 : Int) (r6 : Int) (r7 : Int) (r8 : List (S85)) (r9 : List Int) (r10 : List Int) (w : World) (hr0_7 : Kd.C k85 w A0_7 l0_7.length l0_7) (hc0_7 : l0_7.length ≤ c0_7) (hr0_8 : Kd.C (Kd.int .i64) w A0_8 l0_8.length l0_8) (hc0_8 : l0_8.length ≤ c0_8) (hr0_9 : Kd.C (Kd.int .i64) w A0_9 l0_9.length l0_9) (hc0_9 : l0_9.length ≤ c0_9) (h : spec_l07Copy.f k a0_0 a0_1 a0_2 a0_3 a0_4 a0_5 a0_6 l0_7 l0_8 l0_9 = some (r1, r2, r3, r4, r5, r6, r7, r8, r9, r10)) :
   Calls Try.prog 83 #[.agg #[.int .i64 a0_0, .int .i64 a0_1, .int .i64 a0_2, .int .i64 a0_3, .int .i64 a0_4, .int .i64 a0_5, .int .i64 a0_6, .slice A0_7 l0_7.length c0_7, .slice A0_8 l0_8.length c0_8, .slice A0_9 l0_9.length c0_9]] w fun e w' => ∃ v7_ v8_ v9_ : Value, e = .returned (.agg #[.int .i64 r1, .int .i64 r2, .int .i64 r3, .int .i64 r4, .int .i64 r5, .int .i64 r6, .int .i64 r7, v7_, v8_, v9_]) ∧ Kd.R k85 85 w' w.heap.size (fun _ => True) v7_ r8 ∧ Kd.R (Kd.int .i64) 3 w' w.heap.size (fun k_ => some k_ ≠ (v9_ : Value).ownBlock) v8_ r9 ∧ Kd.R (Kd.int .i64) 3 w' w.heap.size (fun k_ => some k_ ≠ (v8_ : Value).ownBlock) v9_ r10 ∧ Below w.heap.size w w' := by
 have hu37 := Try.underlying37
 have hu34 := Try.underlying34
 have HR0_7 := am hr0_7
 have HC0_7 := am hc0_7
 clear hr0_7 hc0_7
 have HR0_8 := am hr0_8
 have HC0_8 := am hc0_8
 clear hr0_8 hc0_8
 have HR0_9 := am hr0_9
 have HC0_9 := am hc0_9
 clear hr0_9 hc0_9
 have HB := am (Below.refl w.heap.size w)
 have H : ((spec_l05Copy.f k a0_5 a0_6 l0_7).bind fun bt266 => ((spec_l01Copy.f k l0_8).bind fun t271 => ((spec_l01Copy.f k l0_9).bind fun t274 => (some (a0_0, a0_1, a0_2, a0_3, a0_4, bt266.1, bt266.2.1, bt266.2.2, t271, t274))))) = some (r1, r2, r3, r4, r5, r6, r7, r8, r9, r10) := h
 clear h
 replace H := Option.bind_eq_some_iff.mp H
 obtain ⟨⟨t266, t267, t268⟩, A20, H⟩ := H
 (try dsimp only at H)
 have A2 := am A20
 clear A20
 replace H := Option.bind_eq_some_iff.mp H
 obtain ⟨t271, A30, H⟩ := H
 have A3 := am A30
 clear A30
 replace H := Option.bind_eq_some_iff.mp H
 obtain ⟨t274, A40, H⟩ := H
 have A4 := am A40
 clear A40
 simp only [Option.some.injEq, Prod.mk.injEq] at H
 obtain ⟨rfl, rfl, rfl, rfl, rfl, rfl, rfl, rfl, rfl, rfl⟩ := H
 go_enter Try.func83, Try.ntmps83
 go_wp2_with (first | ((with_reducible refine gate_dst (N := 1) rfl ?_); refine box_event ?hg (N := 1) ?hd (cs := #[.int .i64 a0_0, .int .i64 a0_1, .int .i64 a0_2, .int .i64 a0_3, .int .i64 a0_4, .int .i64 a0_5, .int .i64 a0_6, .slice A0_7 l0_7.length c0_7, .slice A0_8 l0_8.length c0_8, .slice A0_9 l0_9.length c0_9]) (t := 37) ?hr ?_; (case hd => rfl); (case hg => rfl); (case hr => first | (go_simp; done) | (go_simp; rfl)); intro gb264 hg w5 hbox hb; have BK264 := am (hbox); have GW264 := am ((by rw [hg]; exact (below_size Q0) : w.heap.size ≤ gb264)); have GE264 := am ((by rw [hg]; exact (below_size Q0) : w.heap.size ≤ gb264)); replace HB := am (below_step Q0 hb); clear hb hbox hg) | ((with_reducible refine gate_dst (N := 2) rfl ?_); refine box_event ?hg (N := 2) ?hd (cs := #[.int .i64 0, .int .i64 0, .int .i64 0, .int .i64 0, .int .i64 0, .int .i64 0, .int .i64 0, .slice none 0 0, .slice none 0 0, .slice none 0 0]) (t := 37) ?hr ?_; (case hd => rfl); (case hg => rfl); (case hr => first | (go_simp; done) | (go_simp; rfl)); intro gb265 hg w6 hbox hb; have BK265 := am (hbox); have GW265 := am ((by rw [hg]; exact (below_size Q0) : w.heap.size ≤ gb265)); have GE265 := am ((by rw [hg]; exact (below_size Q0) : w.heap.size ≤ gb265)); replace HB := am (below_step Q0 hb); have NB264_265 := am ((by rw [hg]; exact Nat.ne_of_lt (blk_lt (g := gb264) (o := .cells #[.int .i64 a0_0, .int .i64 a0_1, .int .i64 a0_2, .int .i64 a0_3, .int .i64 a0_4, .int .i64 a0_5, .int .i64 a0_6, .slice A0_7 l0_7.length c0_7, .slice A0_8 l0_8.length c0_8, .slice A0_9 l0_9.length c0_9] 37 (0, 0)) u10_9) : gb264 ≠ gb265)); have NB265_264 := am ((by rw [hg]; exact Nat.ne_of_gt (blk_lt (g := gb264) (o := .cells #[.int .i64 a0_0, .int .i64 a0_1, .int .i64 a0_2, .int .i64 a0_3, .int .i64 a0_4, .int .i64 a0_5, .int .i64 a0_6, .slice A0_7 l0_7.length c0_7, .slice A0_8 l0_8.length c0_8, .slice A0_9 l0_9.length c0_9] 37 (0, 0)) u10_9) : gb265 ≠ gb264)); replace BK264 := am (blk_below (g := gb264) (o := .cells #[.int .i64 a0_0, .int .i64 a0_1, .int .i64 a0_2, .int .i64 a0_3, .int .i64 a0_4, .int .i64 a0_5, .int .i64 a0_6, .slice A0_7 l0_7.length c0_7, .slice A0_8 l0_8.length c0_8, .slice A0_9 l0_9.length c0_9] 37 (0, 0)) u10_9 hb); clear hb hbox hg; have hnb7 := NB264_265.out; have hnc7 := NB265_264.out; obtain ⟨hcz8_0, hcz8_1, hcz8_2, hcz8_3, hcz8_4, hcz8_5, hcz8_6, hcz8_7, hcz8_8, hcz8_9, hfz8_0, hfz8_1, hfz8_2, hfz8_3, hfz8_4, hfz8_5, hfz8_6, hfz8_7, hfz8_8, hfz8_9⟩ := bc10f w6 BK264.out) | ((with_reducible refine gate_callee (f := 84) rfl ?_); refine goesL_ (some 5) rfl rfl Try.func84 kr rfl #[.agg #[.int .i64 a0_5, .int .i64 a0_6, .slice A0_7 l0_7.length c0_7]] rfl Q3 ?_; (with_reducible refine (spec_l05Copy.calls k a0_5 a0_6 _ _ l0_7 t266 t267 t268 _ ?side1 ?side2 A2.out).mono ?_); (case side1 => exact (by repeat (first | exact (Kd.C_below HR0_7.out HB.out) | (with_reducible refine Kd.C_alloc ?_ _) | (with_reducible refine Kd.C_drewN ?_ _) | (with_reducible refine Kd.C_drew ?_)))); (case side2 => exact HC0_7.out); rintro e w9 ⟨v269, rfl, ho0, hb⟩; refine ⟨_, rfl, ?_⟩; have HO270 := am (Kd.R_lower ho0 (below_size Q0)); replace BK264 := am (blk_below (g := gb264) (o := .cells #[.int .i64 a0_0, .int .i64 a0_1, .int .i64 a0_2, .int .i64 a0_3, .int .i64 a0_4, .int .i64 a0_5, .int .i64 a0_6, .slice A0_7 l0_7.length c0_7, .slice A0_8 l0_8.length c0_8, .slice A0_9 l0_9.length c0_9] 37 (0, 0)) u10_9 hb); replace BK265 := am (blk_below (g := gb265) (o := .cells #[.int .i64 0, .int .i64 0, .int .i64 0, .int .i64 0, .int .i64 0, .int .i64 0, .int .i64 0, .slice none 0 0, .slice none 0 0, .slice none 0 0] 37 (0, 0)) (by (with_reducible repeat (first | refine blk_drewN ?_ _ | refine blk_drew ?_ | refine blk_alloc ?_ _)); exact BK265.out) hb); replace HB := am (below_step Q0 hb); (try clear hb); (try clear hb2); (try clear hk); (try clear hi); (try clear ho0); obtain ⟨hcz10_0, hcz10_1, hcz10_2, hcz10_3, hcz10_4, hcz10_5, hcz10_6, hcz10_7, hcz10_8, hcz10_9, hfz10_0, hfz10_1, hfz10_2, hfz10_3, hfz10_4, hfz10_5, hfz10_6, hfz10_7, hfz10_8, hfz10_9⟩ := bc10f w9 BK264.out; obtain ⟨Ao11, co11, eo11⟩ := Kd.R_slice HO270.out; subst eo11) | ((with_reducible refine gate_callee (f := 117) rfl ?_); refine goesL_ (some 9) rfl rfl Try.func117 kr rfl #[.slice A0_8 l0_8.length c0_8] rfl Q3 ?_; (with_reducible refine (spec_l01Copy.calls k _ _ l0_8 t271 _ ?side1 ?side2 A3.out).mono ?_); (case side1 => exact (by exact Kd.C_below HR0_8.out Q0)); (case side2 => exact HC0_8.out); rintro e w12 ⟨v272, rfl, ho0, hb⟩; refine ⟨_, rfl, ?_⟩; replace HO270 := am (Kd.R_below (by (with_reducible repeat (first | apply Kd.R_alloc | apply Kd.R_drewN | apply Kd.R_drew)); exact (Kd.R_mono (Kd.R_far (p := ⟨gb264, 7, none⟩) (Kd.R_far (p := ⟨gb264, 6, none⟩) (Kd.R_far (p := ⟨gb264, 5, none⟩) (Kd.R_types HO270.out BK264.out (by decide)) (fun _ hk => hk.2) (.int .i64 t266)) (fun _ hk => hk.2) (.int .i64 t267)) (fun _ hk => hk.2) (.slice Ao11 t268.length co11)) (fun _ h_ => h_.1))) hb); have HO273 := am (Kd.R_lower ho0 (below_size Q0)); replace BK264 := am (blk_below (g := gb264) (o := .cells #[.int .i64 a0_0, .int .i64 a0_1, .int .i64 a0_2, .int .i64 a0_3, .int .i64 a0_4, .int .i64 t266, .int .i64 t267, .slice Ao11 t268.length co11, .slice A0_8 l0_8.length c0_8, .slice A0_9 l0_9.length c0_9] 37 (0, 0)) (by (with_reducible repeat (first | refine blk_drewN ?_ _ | refine blk_drew ?_ | refine blk_alloc ?_ _)); refine blk_put (cs := #[.int .i64 a0_0, .int .i64 a0_1, .int .i64 a0_2, .int .i64 a0_3, .int .i64 a0_4, .int .i64 t266, .int .i64 t267, .slice A0_7 l0_7.length c0_7, .slice A0_8 l0_8.length c0_8, .slice A0_9 l0_9.length c0_9]) ?_ 7 _ rfl; (with_reducible repeat (first | refine blk_drewN ?_ _ | refine blk_drew ?_ | refine blk_alloc ?_ _)); refine blk_put (cs := #[.int .i64 a0_0, .int .i64 a0_1, .int .i64 a0_2, .int .i64 a0_3, .int .i64 a0_4, .int .i64 t266, .int .i64 a0_6, .slice A0_7 l0_7.length c0_7, .slice A0_8 l0_8.length c0_8, .slice A0_9 l0_9.length c0_9]) ?_ 6 _ rfl; (with_reducible repeat (first | refine blk_drewN ?_ _ | refine blk_drew ?_ | refine blk_alloc ?_ _)); refine blk_put (cs := #[.int .i64 a0_0, .int .i64 a0_1, .int .i64 a0_2, .int .i64 a0_3, .int .i64 a0_4, .int .i64 a0_5, .int .i64 a0_6, .slice A0_7 l0_7.length c0_7, .slice A0_8 l0_8.length c0_8, .slice A0_9 l0_9.length c0_9]) ?_ 5 _ rfl; (with_reducible repeat (first | refine blk_drewN ?_ _ | refine blk_drew ?_ | refine blk_alloc ?_ _)); exact BK264.out) hb); replace BK265 := am (blk_below (g := gb265) (o := .cells #[.int .i64 0, .int .i64 0, .int .i64 0, .int .i64 0, .int .i64 0, .int .i64 0, .int .i64 0, .slice none 0 0, .slice none 0 0, .slice none 0 0] 37 (0, 0)) (by (with_reducible repeat (first | refine blk_drewN ?_ _ | refine blk_drew ?_ | refine blk_alloc ?_ _)); refine blk_far ?_ NB265_264.out _; (with_reducible repeat (first | refine blk_drewN ?_ _ | refine blk_drew ?_ | refine blk_alloc ?_ _)); refine blk_far ?_ NB265_264.out _; (with_reducible repeat (first | refine blk_drewN ?_ _ | refine blk_drew ?_ | refine blk_alloc ?_ _)); refine blk_far ?_ NB265_264.out _; (with_reducible repeat (first | refine blk_drewN ?_ _ | refine blk_drew ?_ | refine blk_alloc ?_ _)); exact BK265.out) hb); replace HB := am (below_step Q0 hb); (try clear hb); (try clear hb2); (try clear hk); (try clear hi); (try clear ho0); obtain ⟨Ao13, co13, eo13⟩ := Kd.R_slice HO273.out; subst eo13; obtain ⟨hcz14_0, hcz14_1, hcz14_2, hcz14_3, hcz14_4, hcz14_5, hcz14_6, hcz14_7, hcz14_8, hcz14_9, hfz14_0, hfz14_1, hfz14_2, hfz14_3, hfz14_4, hfz14_5, hfz14_6, hfz14_7, hfz14_8, hfz14_9⟩ := bc10f w12 BK264.out) | ((with_reducible refine gate_callee (f := 117) rfl ?_); refine goesL_ (some 13) rfl rfl Try.func117 kr rfl #[.slice A0_9 l0_9.length c0_9] rfl Q3 ?_; (with_reducible refine (spec_l01Copy.calls k _ _ l0_9 t274 _ ?side1 ?side2 A4.out).mono ?_); (case side1 => exact (by exact Kd.C_below HR0_9.out Q0)); (case side2 => exact HC0_9.out); rintro e w15 ⟨v275, rfl, ho0, hb⟩; refine ⟨_, rfl, ?_⟩; replace HO270 := am (Kd.R_below (by (with_reducible repeat (first | apply Kd.R_alloc | apply Kd.R_drewN | apply Kd.R_drew)); exact (Kd.R_mono (Kd.R_far (p := ⟨gb264, 8, none⟩) (Kd.R_types HO270.out BK264.out (by decide)) (fun _ hk => hk.2) (.slice Ao13 t271.length co13)) (fun _ h_ => h_.1))) hb); have HO276 := am (Kd.R_lower (Kd.R_new' ho0 (Kd.R_lt u10_14)) (below_size Q0)); replace HO273 := am (Kd.R_elder' u10_14 (Kd.R_base ho0) hb); replace BK264 := am (blk_below (g := gb264) (o := .cells #[.int .i64 a0_0, .int .i64 a0_1, .int .i64 a0_2, .int .i64 a0_3, .int .i64 a0_4, .int .i64 t266, .int .i64 t267, .slice Ao11 t268.length co11, .slice Ao13 t271.length co13, .slice A0_9 l0_9.length c0_9] 37 (0, 0)) (by (with_reducible repeat (first | refine blk_drewN ?_ _ | refine blk_drew ?_ | refine blk_alloc ?_ _)); refine blk_put (cs := #[.int .i64 a0_0, .int .i64 a0_1, .int .i64 a0_2, .int .i64 a0_3, .int .i64 a0_4, .int .i64 t266, .int .i64 t267, .slice Ao11 t268.length co11, .slice A0_8 l0_8.length c0_8, .slice A0_9 l0_9.length c0_9]) ?_ 8 _ rfl; (with_reducible repeat (first | refine blk_drewN ?_ _ | refine blk_drew ?_ | refine blk_alloc ?_ _)); exact BK264.out) hb); replace BK265 := am (blk_below (g := gb265) (o := .cells #[.int .i64 0, .int .i64 0, .int .i64 0, .int .i64 0, .int .i64 0, .int .i64 0, .int .i64 0, .slice none 0 0, .slice none 0 0, .slice none 0 0] 37 (0, 0)) (by (with_reducible repeat (first | refine blk_drewN ?_ _ | refine blk_drew ?_ | refine blk_alloc ?_ _)); refine blk_far ?_ NB265_264.out _; (with_reducible repeat (first | refine blk_drewN ?_ _ | refine blk_drew ?_ | refine blk_alloc ?_ _)); exact BK265.out) hb); replace HB := am (below_step Q0 hb); (try clear hb); (try clear hb2); (try clear hk); (try clear hi); (try clear ho0); obtain ⟨Ao16, co16, eo16⟩ := Kd.R_slice HO276.out; subst eo16; obtain ⟨hcz17_0, hcz17_1, hcz17_2, hcz17_3, hcz17_4, hcz17_5, hcz17_6, hcz17_7, hcz17_8, hcz17_9, hfz17_0, hfz17_1, hfz17_2, hfz17_3, hfz17_4, hfz17_5, hfz17_6, hfz17_7, hfz17_8, hfz17_9⟩ := bc10f w15 BK264.out; obtain ⟨hcz18_0, hcz18_1, hcz18_2, hcz18_3, hcz18_4, hcz18_5, hcz18_6, hcz18_7, hcz18_8, hcz18_9, hfz18_0, hfz18_1, hfz18_2, hfz18_3, hfz18_4, hfz18_5, hfz18_6, hfz18_7, hfz18_8, hfz18_9⟩ := bc10f w15 BK265.out))
 refine bodyPost_ret (results_cell_row rfl _ _ gb265 37 #[.int .i64 a0_0, .int .i64 a0_1, .int .i64 a0_2, .int .i64 a0_3, .int .i64 a0_4, .int .i64 t266, .int .i64 t267, .slice Ao11 t268.length co11, .slice Ao13 t271.length co13, .slice Ao16 t274.length co16] (0, 0) _ rfl (by (with_reducible repeat (first | refine blk_drewN ?_ _ | refine blk_drew ?_ | refine blk_alloc ?_ _)); refine blk_put (cs := #[.int .i64 a0_0, .int .i64 a0_1, .int .i64 a0_2, .int .i64 a0_3, .int .i64 a0_4, .int .i64 t266, .int .i64 t267, .slice Ao11 t268.length co11, .slice Ao13 t271.length co13, .slice none 0 0]) ?_ 9 _ rfl; (with_reducible repeat (first | refine blk_drewN ?_ _ | refine blk_drew ?_ | refine blk_alloc ?_ _)); refine blk_put (cs := #[.int .i64 a0_0, .int .i64 a0_1, .int .i64 a0_2, .int .i64 a0_3, .int .i64 a0_4, .int .i64 t266, .int .i64 t267, .slice Ao11 t268.length co11, .slice none 0 0, .slice none 0 0]) ?_ 8 _ rfl; (with_reducible repeat (first | refine blk_drewN ?_ _ | refine blk_drew ?_ | refine blk_alloc ?_ _)); refine blk_put (cs := #[.int .i64 a0_0, .int .i64 a0_1, .int .i64 a0_2, .int .i64 a0_3, .int .i64 a0_4, .int .i64 t266, .int .i64 t267, .slice none 0 0, .slice none 0 0, .slice none 0 0]) ?_ 7 _ rfl; (with_reducible repeat (first | refine blk_drewN ?_ _ | refine blk_drew ?_ | refine blk_alloc ?_ _)); refine blk_put (cs := #[.int .i64 a0_0, .int .i64 a0_1, .int .i64 a0_2, .int .i64 a0_3, .int .i64 a0_4, .int .i64 t266, .int .i64 0, .slice none 0 0, .slice none 0 0, .slice none 0 0]) ?_ 6 _ rfl; (with_reducible repeat (first | refine blk_drewN ?_ _ | refine blk_drew ?_ | refine blk_alloc ?_ _)); refine blk_put (cs := #[.int .i64 a0_0, .int .i64 a0_1, .int .i64 a0_2, .int .i64 a0_3, .int .i64 a0_4, .int .i64 0, .int .i64 0, .slice none 0 0, .slice none 0 0, .slice none 0 0]) ?_ 5 _ rfl; (with_reducible repeat (first | refine blk_drewN ?_ _ | refine blk_drew ?_ | refine blk_alloc ?_ _)); refine blk_put (cs := #[.int .i64 a0_0, .int .i64 a0_1, .int .i64 a0_2, .int .i64 a0_3, .int .i64 0, .int .i64 0, .int .i64 0, .slice none 0 0, .slice none 0 0, .slice none 0 0]) ?_ 4 _ rfl; (with_reducible repeat (first | refine blk_drewN ?_ _ | refine blk_drew ?_ | refine blk_alloc ?_ _)); refine blk_put (cs := #[.int .i64 a0_0, .int .i64 a0_1, .int .i64 a0_2, .int .i64 0, .int .i64 0, .int .i64 0, .int .i64 0, .slice none 0 0, .slice none 0 0, .slice none 0 0]) ?_ 3 _ rfl; (with_reducible repeat (first | refine blk_drewN ?_ _ | refine blk_drew ?_ | refine blk_alloc ?_ _)); refine blk_put (cs := #[.int .i64 a0_0, .int .i64 a0_1, .int .i64 0, .int .i64 0, .int .i64 0, .int .i64 0, .int .i64 0, .slice none 0 0, .slice none 0 0, .slice none 0 0]) ?_ 2 _ rfl; (with_reducible repeat (first | refine blk_drewN ?_ _ | refine blk_drew ?_ | refine blk_alloc ?_ _)); refine blk_put (cs := #[.int .i64 a0_0, .int .i64 0, .int .i64 0, .int .i64 0, .int .i64 0, .int .i64 0, .int .i64 0, .slice none 0 0, .slice none 0 0, .slice none 0 0]) ?_ 1 _ rfl; (with_reducible repeat (first | refine blk_drewN ?_ _ | refine blk_drew ?_ | refine blk_alloc ?_ _)); refine blk_put (cs := #[.int .i64 0, .int .i64 0, .int .i64 0, .int .i64 0, .int .i64 0, .int .i64 0, .int .i64 0, .slice none 0 0, .slice none 0 0, .slice none 0 0]) ?_ 0 _ rfl; (with_reducible repeat (first | refine blk_drewN ?_ _ | refine blk_drew ?_ | refine blk_alloc ?_ _)); refine blk_far ?_ NB265_264.out _; (with_reducible repeat (first | refine blk_drewN ?_ _ | refine blk_drew ?_ | refine blk_alloc ?_ _)); exact BK265.out) Try.underlying37 rfl kr) rfl ?_
 exact ⟨_, _, _, er, (by (with_reducible repeat (first | apply Kd.R_alloc | apply Kd.R_drewN | apply Kd.R_drew)); exact Kd.R_mono (Kd.R_far (p := ⟨gb265, 9, none⟩) (Kd.R_far (p := ⟨gb265, 8, none⟩) (Kd.R_far (p := ⟨gb265, 7, none⟩) (Kd.R_far (p := ⟨gb265, 6, none⟩) (Kd.R_far (p := ⟨gb265, 5, none⟩) (Kd.R_far (p := ⟨gb265, 4, none⟩) (Kd.R_far (p := ⟨gb265, 3, none⟩) (Kd.R_far (p := ⟨gb265, 2, none⟩) (Kd.R_far (p := ⟨gb265, 1, none⟩) (Kd.R_far (p := ⟨gb265, 0, none⟩) (Kd.R_far (p := ⟨gb264, 9, none⟩) (Kd.R_types (Kd.R_types HO270.out BK264.out (by decide)) BK265.out (by decide)) (fun _ hk => hk.1.2) (.slice Ao16 t274.length co16)) (fun _ hk => hk.2) (.int .i64 a0_0)) (fun _ hk => hk.2) (.int .i64 a0_1)) (fun _ hk => hk.2) (.int .i64 a0_2)) (fun _ hk => hk.2) (.int .i64 a0_3)) (fun _ hk => hk.2) (.int .i64 a0_4)) (fun _ hk => hk.2) (.int .i64 t266)) (fun _ hk => hk.2) (.int .i64 t267)) (fun _ hk => hk.2) (.slice Ao11 t268.length co11)) (fun _ hk => hk.2) (.slice Ao13 t271.length co13)) (fun _ hk => hk.2) (.slice Ao16 t274.length co16)) (fun _ hk => trivial)), (by (with_reducible repeat (first | apply Kd.R_alloc | apply Kd.R_drewN | apply Kd.R_drew)); exact Kd.R_mono (Kd.R_far (p := ⟨gb265, 9, none⟩) (Kd.R_far (p := ⟨gb265, 8, none⟩) (Kd.R_far (p := ⟨gb265, 7, none⟩) (Kd.R_far (p := ⟨gb265, 6, none⟩) (Kd.R_far (p := ⟨gb265, 5, none⟩) (Kd.R_far (p := ⟨gb265, 4, none⟩) (Kd.R_far (p := ⟨gb265, 3, none⟩) (Kd.R_far (p := ⟨gb265, 2, none⟩) (Kd.R_far (p := ⟨gb265, 1, none⟩) (Kd.R_far (p := ⟨gb265, 0, none⟩) (Kd.R_far (p := ⟨gb264, 9, none⟩) (Kd.R_types (Kd.R_types HO273.out BK264.out (by decide)) BK265.out (by decide)) (fun _ hk => hk.1.2) (.slice Ao16 t274.length co16)) (fun _ hk => hk.2) (.int .i64 a0_0)) (fun _ hk => hk.2) (.int .i64 a0_1)) (fun _ hk => hk.2) (.int .i64 a0_2)) (fun _ hk => hk.2) (.int .i64 a0_3)) (fun _ hk => hk.2) (.int .i64 a0_4)) (fun _ hk => hk.2) (.int .i64 t266)) (fun _ hk => hk.2) (.int .i64 t267)) (fun _ hk => hk.2) (.slice Ao11 t268.length co11)) (fun _ hk => hk.2) (.slice Ao13 t271.length co13)) (fun _ hk => hk.2) (.slice Ao16 t274.length co16)) (fun _ hk => hk.1.1.2)), (by (with_reducible repeat (first | apply Kd.R_alloc | apply Kd.R_drewN | apply Kd.R_drew)); exact Kd.R_mono (Kd.R_far (p := ⟨gb265, 9, none⟩) (Kd.R_far (p := ⟨gb265, 8, none⟩) (Kd.R_far (p := ⟨gb265, 7, none⟩) (Kd.R_far (p := ⟨gb265, 6, none⟩) (Kd.R_far (p := ⟨gb265, 5, none⟩) (Kd.R_far (p := ⟨gb265, 4, none⟩) (Kd.R_far (p := ⟨gb265, 3, none⟩) (Kd.R_far (p := ⟨gb265, 2, none⟩) (Kd.R_far (p := ⟨gb265, 1, none⟩) (Kd.R_far (p := ⟨gb265, 0, none⟩) (Kd.R_far (p := ⟨gb264, 9, none⟩) (Kd.R_types (Kd.R_types HO276.out BK264.out (by decide)) BK265.out (by decide)) (fun _ hk => hk.1.2) (.slice Ao16 t274.length co16)) (fun _ hk => hk.2) (.int .i64 a0_0)) (fun _ hk => hk.2) (.int .i64 a0_1)) (fun _ hk => hk.2) (.int .i64 a0_2)) (fun _ hk => hk.2) (.int .i64 a0_3)) (fun _ hk => hk.2) (.int .i64 a0_4)) (fun _ hk => hk.2) (.int .i64 t266)) (fun _ hk => hk.2) (.int .i64 t267)) (fun _ hk => hk.2) (.slice Ao11 t268.length co11)) (fun _ hk => hk.2) (.slice Ao13 t271.length co13)) (fun _ hk => hk.2) (.slice Ao16 t274.length co16)) (fun _ hk => hk.1.1.2)), Q0⟩

/-! ### spec_l07Lead: function 99 -/
def spec_l07Lead.f (k : Nat) (a0_0 : Int) (a0_1 : Int) (a0_2 : Int) (a0_3 : Int) (a0_4 : Int) (a0_5 : Int) (a0_6 : Int) (l0_7 : List (S85)) (l0_8 : List Int) (l0_9 : List Int) (a1 : Int) : Option (Int × Int × Int × Int × Int × Int × Int × (List (S85)) × List Int × List Int) := if 0 ≤ a1 then (if (a1 : Int).toNat ≤ 35184372088832 then ((some (List.replicate (a1 : Int).toNat 0 : List Int)).bind fun y279 => ((spec_LastIndex.f k a0_5 a0_6 l0_7).bind fun t282 => (if 0 ≤ a0_0 then (if a0_0 < (y279.length : Int) then (some (a0_0, a0_1, a0_2, 2, a0_4, a0_5, a0_6, l0_7, ([] : List Int), (y279.set (a0_0 : Int).toNat t282))) else (none)) else (none)))) else (none)) else (none)
theorem spec_l07Lead.mono : ∀ a0 a1 a2 a3 a4 a5 a6 a7 a8 a9 a10 k, LeO (spec_l07Lead.f k a0 a1 a2 a3 a4 a5 a6 a7 a8 a9 a10) (spec_l07Lead.f (k + 1) a0 a1 a2 a3 a4 a5 a6 a7 a8 a9 a10) := by
 intro a0 a1 a2 a3 a4 a5 a6 a7 a8 a9 a10 k
 unfold spec_l07Lead.f
 repeat' first
     | (with_reducible exact spec_LastIndex.mono _ _ _ _)
     | (with_reducible exact LeO.refl _)
     | (with_reducible exact LeO.none _)
     | (with_reducible refine LeO.ite ?_ ?_)
     | (with_reducible refine LeO.bind ?_ (fun _ => ?_))
     | exact spec_LastIndex.mono _ _ _ _
     | exact LeO.none _
     | refine LeO.ite ?_ ?_
     | refine LeO.bind ?_ (fun _ => ?_)
def spec_l07Lead.T4 : Bool × List (List Nat × List Nat) := (true, [([], []), ([0], [0]), ([], []), ([2], [2]), ([], []), ([4], [4]), ([5], [5]), ([1, 3, 0, 1, 2, 3, 4, 5, 6], [1, 3]), ([7, 6, 6, 0, 1, 2, 3, 4, 5, 6], [6, 7])])
def spec_l07Lead.B4 : List Nat := [0, 1, 0, 4, 0, 16, 48, 127, 255]
theorem spec_l07Lead.tab4 : rtab .any (opsOf Try.f99 4) = spec_l07Lead.T4 := by kernel_rfl
theorem spec_l07Lead.bits4 : waitsOk spec_l07Lead.T4.2 spec_l07Lead.B4 = true := by kernel_rfl
set_option maxHeartbeats 8000000 in
set_option maxRecDepth 100000 in
theorem spec_l07Lead.calls (k : Nat) (a0_0 : Int) (a0_1 : Int) (a0_2 : Int) (a0_3 : Int) (a0_4 : Int) (a0_5 : Int) (a0_6 : Int) (P0_7_ : Nat → Prop) (u9000_ : Value) (l0_7 : List (S85)) (A0_8 : Option Addr) (c0_8 : Nat) (l0_8 : List Int) (A0_9 : Option Addr) (c0_9 : Nat) (l0_9 : List Int) (a1 : Int) (r1 : Int) (r2 : Int) (r3 : Int) (r4 : Int) (r5 : Int) (r6 : Int) (r7 : Int) (r8 : List (S85)) (r9 : List Int) (r10 : List Int) (w0 w : World) (hB : Below w0.heap.size w0 w) (ho0_7 : Kd.R k85 85 w w0.heap.size P0_7_ u9000_ l0_7) (hr0_8 : ∀ W_, Kept w W_ (fun k_ => P0_7_ k_) → Kd.C (Kd.int .i64) W_ A0_8 l0_8.length l0_8) (hc0_8 : l0_8.length ≤ c0_8) (hr0_9 : ∀ W_, Kept w W_ (fun k_ => P0_7_ k_) → Kd.C (Kd.int .i64) W_ A0_9 l0_9.length l0_9) (hc0_9 : l0_9.length ≤ c0_9) (h : spec_l07Lead.f k a0_0 a0_1 a0_2 a0_3 a0_4 a0_5 a0_6 l0_7 l0_8 l0_9 a1 = some (r1, r2, r3, r4, r5, r6, r7, r8, r9, r10)) :
   Calls Try.prog 99 #[.agg #[.int .i64 a0_0, .int .i64 a0_1, .int .i64 a0_2, .int .i64 a0_3, .int .i64 a0_4, .int .i64 a0_5, .int .i64 a0_6, u9000_, .slice A0_8 l0_8.length c0_8, .slice A0_9 l0_9.length c0_9], .int .i64 a1] w fun e w' => ∃ v7_ v8_ v9_ : Value, e = .returned (.agg #[.int .i64 r1, .int .i64 r2, .int .i64 r3, .int .i64 r4, .int .i64 r5, .int .i64 r6, .int .i64 r7, v7_, v8_, v9_]) ∧ Kd.R k85 85 w' w0.heap.size (fun k_ => (P0_7_ k_ ∨ w.heap.size ≤ k_)) v7_ r8 ∧ Kd.R (Kd.int .i64) 3 w' w0.heap.size (fun k_ => (P0_7_ k_ ∨ w.heap.size ≤ k_) ∧ some k_ ≠ (v9_ : Value).ownBlock) v8_ r9 ∧ Kd.R (Kd.int .i64) 3 w' w0.heap.size (fun k_ => (P0_7_ k_ ∨ w.heap.size ≤ k_) ∧ some k_ ≠ (v8_ : Value).ownBlock) v9_ r10 ∧ Below w0.heap.size w0 w' ∧ Kept w w' (fun k_ => P0_7_ k_) := by
 have hu37 := Try.underlying37
 have hu34 := Try.underlying34
 have HO0_7 := am (show Kd.R k85 85 w w0.heap.size (fun k_ => (P0_7_ k_ ∨ w.heap.size ≤ k_)) u9000_ l0_7 from Kd.R_mono ho0_7 (fun k_ hk => (.inl hk)))
 have HR0_8 := am hr0_8
 have HC0_8 := am hc0_8
 clear hr0_8 hc0_8
 have HR0_9 := am hr0_9
 have HC0_9 := am hc0_9
 clear hr0_9 hc0_9
 have HK := am (Kept.refl w (fun k_ => P0_7_ k_))
 have HW0 := am hB.size
 have HB := am hB
 clear hB
 have H : (if 0 ≤ a1 then (if (a1 : Int).toNat ≤ 35184372088832 then ((some (List.replicate (a1 : Int).toNat 0 : List Int)).bind fun y279 => ((spec_LastIndex.f k a0_5 a0_6 l0_7).bind fun t282 => (if 0 ≤ a0_0 then (if a0_0 < (y279.length : Int) then (some (a0_0, a0_1, a0_2, 2, a0_4, a0_5, a0_6, l0_7, ([] : List Int), (y279.set (a0_0 : Int).toNat t282))) else (none)) else (none)))) else (none)) else (none)) = some (r1, r2, r3, r4, r5, r6, r7, r8, r9, r10) := h
 clear h
 by_cases c3 : 0 ≤ a1
 rotate_left
 · rw [if_neg c3] at H
   exact absurd H (by simp)
 rw [if_pos c3] at H
 have c3b0 := eq_true c3
 have c3b1 : decide (0 ≤ a1) = true := decide_eq_true c3
 clear c3
 by_cases c4 : (a1 : Int).toNat ≤ 35184372088832
 rotate_left
 · rw [if_neg c4] at H
   exact absurd H (by simp)
 rw [if_pos c4] at H
 have c4b0 := eq_true c4
 have c4b1 : decide ((a1 : Int).toNat ≤ 35184372088832) = true := decide_eq_true c4
 clear c4
 obtain ⟨y279, hy279⟩ : ∃ y_ : List Int, y_ = (List.replicate (a1 : Int).toNat 0) := ⟨_, rfl⟩
 replace H : ((spec_LastIndex.f k a0_5 a0_6 l0_7).bind fun t282 => (if 0 ≤ a0_0 then (if a0_0 < (y279.length : Int) then (some (a0_0, a0_1, a0_2, 2, a0_4, a0_5, a0_6, l0_7, ([] : List Int), (y279.set (a0_0 : Int).toNat t282))) else (none)) else (none))) = some (r1, r2, r3, r4, r5, r6, r7, r8, r9, r10) := by first | (rw [hy279]; with_reducible exact H) | (have H2_ := (Option.bind_some _ _).symm.trans H; rw [hy279]; with_reducible exact H2_) | (have H2_ := (Option.bind_some _ _).symm.trans H; with_reducible exact H2_) | with_reducible exact H | (rw [hy279]; exact H) | exact H
 have Ny279 := am hy279
 clear hy279
 replace H := Option.bind_eq_some_iff.mp H
 obtain ⟨t282, A50, H⟩ := H
 have A5 := am A50
 clear A50
 by_cases c6 : 0 ≤ a0_0
 rotate_left
 · rw [if_neg c6] at H
   exact absurd H (by simp)
 rw [if_pos c6] at H
 have c6b0 : decide (0 ≤ a0_0) = true := decide_eq_true c6
 clear c6
 by_cases c7 : a0_0 < (y279.length : Int)
 rotate_left
 · rw [if_neg c7] at H
   exact absurd H (by simp)
 rw [if_pos c7] at H
 have c7b0 : decide (a0_0 < (y279.length : Int)) = true := decide_eq_true c7
 clear c7
 obtain ⟨y283, hy283⟩ : ∃ y_ : List Int, y_ = (y279.set (a0_0 : Int).toNat t282) := ⟨_, rfl⟩
 replace H : (some (a0_0, a0_1, a0_2, 2, a0_4, a0_5, a0_6, l0_7, ([] : List Int), y283)) = some (r1, r2, r3, r4, r5, r6, r7, r8, r9, r10) := by first | (rw [hy283]; with_reducible exact H) | (have H2_ := (Option.bind_some _ _).symm.trans H; rw [hy283]; with_reducible exact H2_) | (have H2_ := (Option.bind_some _ _).symm.trans H; with_reducible exact H2_) | with_reducible exact H | (rw [hy283]; exact H) | exact H
 have Ny283 := am hy283
 clear hy283
 simp only [Option.some.injEq, Prod.mk.injEq] at H
 obtain ⟨rfl, rfl, rfl, rfl, rfl, rfl, rfl, rfl, rfl, rfl⟩ := H
 obtain ⟨Ao9, co9, eo9⟩ := Kd.R_slice HO0_7.out
 subst eo9
 go_enter Try.func99, Try.ntmps99
 try go_wp2_with (first | ((with_reducible refine gate_dst (N := 2) rfl ?_); refine box_event ?hg (N := 2) ?hd (cs := #[.int .i64 a0_0, .int .i64 a0_1, .int .i64 a0_2, .int .i64 a0_3, .int .i64 a0_4, .int .i64 a0_5, .int .i64 a0_6, .slice Ao9 l0_7.length co9, .slice A0_8 l0_8.length c0_8, .slice A0_9 l0_9.length c0_9]) (t := 37) ?hr ?_; (case hd => rfl); (case hg => rfl); (case hr => first | (go_simp; done) | (go_simp; rfl)); intro gb277 hg w10 hbox hb; replace HO0_7 := am (Kd.R_below Q6 hb); have BK277 := am (hbox); have GW277 := am ((by rw [hg]; exact (by first | exact HK.out.1 | exact (show Kept w _ (fun k_ => P0_7_ k_) from by repeat (first | (with_reducible first | exact HK.out | apply Kept.alloc | apply Kept.drewN | apply Kept.drew) | exact HK.out)).1) : w.heap.size ≤ gb277)); replace HK := am (Kept.below (S := (fun k_ => P0_7_ k_)) (by repeat (first | (with_reducible first | exact HK.out | apply Kept.alloc | apply Kept.drewN | apply Kept.drew) | exact HK.out)) hb); have GE277 := am ((by rw [hg]; exact (below_size Q0) : w0.heap.size ≤ gb277)); replace HB := am (below_step Q0 hb); clear hb hbox hg) | ((with_reducible refine gate_dst (N := 4) rfl ?_); refine box_event ?hg (N := 4) ?hd (cs := #[.int .i64 0, .int .i64 0, .int .i64 0, .int .i64 0, .int .i64 0, .int .i64 0, .int .i64 0, .slice none 0 0, .slice none 0 0, .slice none 0 0]) (t := 37) ?hr ?_; (case hd => rfl); (case hg => rfl); (case hr => first | (go_simp; done) | (go_simp; rfl)); intro gb278 hg w11 hbox hb; replace HO0_7 := am (Kd.R_below Q6 hb); have BK278 := am (hbox); have GW278 := am ((by rw [hg]; exact (by first | exact HK.out.1 | exact (show Kept w _ (fun k_ => P0_7_ k_) from by repeat (first | (with_reducible first | exact HK.out | apply Kept.alloc | apply Kept.drewN | apply Kept.drew | refine Kept.setCell ?_ (.inr GW277.out) _) | exact HK.out)).1) : w.heap.size ≤ gb278)); replace HK := am (Kept.below (S := (fun k_ => P0_7_ k_)) (by repeat (first | (with_reducible first | exact HK.out | apply Kept.alloc | apply Kept.drewN | apply Kept.drew | refine Kept.setCell ?_ (.inr GW277.out) _) | exact HK.out)) hb); have GE278 := am ((by rw [hg]; exact (below_size Q0) : w0.heap.size ≤ gb278)); replace HB := am (below_step Q0 hb); have NB277_278 := am ((by rw [hg]; exact Nat.ne_of_lt (blk_lt (g := gb277) (o := .cells #[.int .i64 a0_0, .int .i64 a0_1, .int .i64 a0_2, .int .i64 a0_3, .int .i64 a0_4, .int .i64 a0_5, .int .i64 a0_6, .slice Ao9 l0_7.length co9, .slice A0_8 l0_8.length c0_8, .slice A0_9 l0_9.length c0_9] 37 (0, 0)) u10_10) : gb277 ≠ gb278)); have NB278_277 := am ((by rw [hg]; exact Nat.ne_of_gt (blk_lt (g := gb277) (o := .cells #[.int .i64 a0_0, .int .i64 a0_1, .int .i64 a0_2, .int .i64 a0_3, .int .i64 a0_4, .int .i64 a0_5, .int .i64 a0_6, .slice Ao9 l0_7.length co9, .slice A0_8 l0_8.length c0_8, .slice A0_9 l0_9.length c0_9] 37 (0, 0)) u10_10) : gb278 ≠ gb277)); replace BK277 := am (blk_below (g := gb277) (o := .cells #[.int .i64 a0_0, .int .i64 a0_1, .int .i64 a0_2, .int .i64 a0_3, .int .i64 a0_4, .int .i64 a0_5, .int .i64 a0_6, .slice Ao9 l0_7.length co9, .slice A0_8 l0_8.length c0_8, .slice A0_9 l0_9.length c0_9] 37 (0, 0)) u10_10 hb); clear hb hbox hg; have hnb12 := NB277_278.out; have hnc12 := NB278_277.out; obtain ⟨hcz13_0, hcz13_1, hcz13_2, hcz13_3, hcz13_4, hcz13_5, hcz13_6, hcz13_7, hcz13_8, hcz13_9, hfz13_0, hfz13_1, hfz13_2, hfz13_3, hfz13_4, hfz13_5, hfz13_6, hfz13_7, hfz13_8, hfz13_9⟩ := bc10f w11 BK277.out) | ((with_reducible refine gate_dst (N := 8) rfl ?_); refine Kd.R_make (Kd.int .i64) _ 3 rfl (N := 8) rfl 35 _ _ rfl a1 rfl rfl Try.underlying35 (.int .i64 0) 8 info3 rfl (by decide) (by omega) 0 (ok := fun _ => True) (okp := fun _ => True) rfl (fun _ hk => hk) trivial (of_decide_eq_true Q1) (Nat.le_trans (Nat.mul_le_mul_right _ (of_decide_eq_true Q1 : a1.toNat ≤ 35184372088832)) (by omega)) (Below.refl _ _) (Nat.le_refl _) ?_; intro v280 w14 ho15 hb hg_ hnew_; clear hg_ hnew_; (first | rw [← Ny279.out] at ho15 | (simp only [Int.reduceToNat] at ho15; rw [← Ny279.out] at ho15)); replace HO0_7 := am (Kd.R_below (by (with_reducible repeat (first | apply Kd.R_alloc | apply Kd.R_drewN | apply Kd.R_drew)); exact (Kd.R_mono (Kd.R_far (p := ⟨gb277, 8, none⟩) (Kd.R_far (p := ⟨gb277, 3, none⟩) (Kd.R_types HO0_7.out BK277.out (by decide)) (fun _ hk => hk.2) (.int .i64 2)) (fun _ hk => hk.2) (.slice none 0 0)) (fun _ h_ => h_.1))) hb); have HO281 := am (Kd.R_lower (Kd.R_newM (M := fun k_ => (P0_7_ k_ ∨ w.heap.size ≤ k_)) ho15 (show Kept w _ (fun k_ => P0_7_ k_) from by repeat (first | (with_reducible first | exact HK.out | apply Kept.alloc | apply Kept.drewN | apply Kept.drew | refine Kept.setCell ?_ (.inr GW277.out) _ | refine Kept.setCell ?_ (.inr GW278.out) _) | exact HK.out)).1 (fun k_ h_ => .inr h_)) (below_size Q0)); replace BK277 := am (blk_below (g := gb277) (o := .cells #[.int .i64 a0_0, .int .i64 a0_1, .int .i64 a0_2, .int .i64 2, .int .i64 a0_4, .int .i64 a0_5, .int .i64 a0_6, .slice Ao9 l0_7.length co9, .slice none 0 0, .slice A0_9 l0_9.length c0_9] 37 (0, 0)) (by (with_reducible repeat (first | refine blk_drewN ?_ _ | refine blk_drew ?_ | refine blk_alloc ?_ _)); refine blk_put (cs := #[.int .i64 a0_0, .int .i64 a0_1, .int .i64 a0_2, .int .i64 2, .int .i64 a0_4, .int .i64 a0_5, .int .i64 a0_6, .slice Ao9 l0_7.length co9, .slice A0_8 l0_8.length c0_8, .slice A0_9 l0_9.length c0_9]) ?_ 8 _ rfl; (with_reducible repeat (first | refine blk_drewN ?_ _ | refine blk_drew ?_ | refine blk_alloc ?_ _)); refine blk_put (cs := #[.int .i64 a0_0, .int .i64 a0_1, .int .i64 a0_2, .int .i64 a0_3, .int .i64 a0_4, .int .i64 a0_5, .int .i64 a0_6, .slice Ao9 l0_7.length co9, .slice A0_8 l0_8.length c0_8, .slice A0_9 l0_9.length c0_9]) ?_ 3 _ rfl; (with_reducible repeat (first | refine blk_drewN ?_ _ | refine blk_drew ?_ | refine blk_alloc ?_ _)); exact BK277.out) hb); replace BK278 := am (blk_below (g := gb278) (o := .cells #[.int .i64 0, .int .i64 0, .int .i64 0, .int .i64 0, .int .i64 0, .int .i64 0, .int .i64 0, .slice none 0 0, .slice none 0 0, .slice none 0 0] 37 (0, 0)) (by (with_reducible repeat (first | refine blk_drewN ?_ _ | refine blk_drew ?_ | refine blk_alloc ?_ _)); refine blk_far ?_ NB278_277.out _; (with_reducible repeat (first | refine blk_drewN ?_ _ | refine blk_drew ?_ | refine blk_alloc ?_ _)); refine blk_far ?_ NB278_277.out _; (with_reducible repeat (first | refine blk_drewN ?_ _ | refine blk_drew ?_ | refine blk_alloc ?_ _)); exact BK278.out) hb); replace HK := am (Kept.below (S := (fun k_ => P0_7_ k_)) u10_5 hb); replace HB := am (below_step Q0 hb); clear hb ho15; obtain ⟨Ao16, co16, eo16⟩ := Kd.R_slice HO281.out; subst eo16; obtain ⟨hcz17_0, hcz17_1, hcz17_2, hcz17_3, hcz17_4, hcz17_5, hcz17_6, hcz17_7, hcz17_8, hcz17_9, hfz17_0, hfz17_1, hfz17_2, hfz17_3, hfz17_4, hfz17_5, hfz17_6, hfz17_7, hfz17_8, hfz17_9⟩ := bc10f w14 BK277.out))
 have n0_ : Aside0 (Kd.R k85 85 (w14.setCell ⟨gb277, 9, none⟩ (.slice Ao16 y279.length co16)) w0.heap.size (fun k_ => (P0_7_ k_ ∨ w.heap.size ≤ k_)) (.slice Ao9 l0_7.length co9) l0_7) := ⟨by (with_reducible repeat (first | apply Kd.R_alloc | apply Kd.R_drewN | apply Kd.R_drew)); exact Kd.R_mono (Kd.R_far (p := ⟨gb277, 9, none⟩) (Kd.R_types HO0_7.out BK277.out (by decide)) (fun _ hk => hk.2) (.slice Ao16 y279.length co16)) (fun _ hk => hk.1)⟩
 have n1_ : Aside0 (Kd.R (Kd.int .i64) 3 (w14.setCell ⟨gb277, 9, none⟩ (.slice Ao16 y279.length co16)) w0.heap.size (fun k_ => (P0_7_ k_ ∨ w.heap.size ≤ k_)) (.slice Ao16 y279.length co16) y279) := ⟨by (with_reducible repeat (first | apply Kd.R_alloc | apply Kd.R_drewN | apply Kd.R_drew)); exact Kd.R_mono (Kd.R_far (p := ⟨gb277, 9, none⟩) (Kd.R_types HO281.out BK277.out (by decide)) (fun _ hk => hk.2) (.slice Ao16 y279.length co16)) (fun _ hk => hk.1.1)⟩
 have n2_ : Aside0 ((w14.setCell ⟨gb277, 9, none⟩ (.slice Ao16 y279.length co16)).heap[gb277]? = some (.cells #[.int .i64 a0_0, .int .i64 a0_1, .int .i64 a0_2, .int .i64 2, .int .i64 a0_4, .int .i64 a0_5, .int .i64 a0_6, .slice Ao9 l0_7.length co9, .slice none 0 0, .slice Ao16 y279.length co16] 37 (0, 0))) := ⟨by (with_reducible repeat (first | refine blk_drewN ?_ _ | refine blk_drew ?_ | refine blk_alloc ?_ _)); refine blk_put (cs := #[.int .i64 a0_0, .int .i64 a0_1, .int .i64 a0_2, .int .i64 2, .int .i64 a0_4, .int .i64 a0_5, .int .i64 a0_6, .slice Ao9 l0_7.length co9, .slice none 0 0, .slice A0_9 l0_9.length c0_9]) ?_ 9 _ rfl; (with_reducible repeat (first | refine blk_drewN ?_ _ | refine blk_drew ?_ | refine blk_alloc ?_ _)); exact BK277.out⟩
 have n3_ : Aside0 ((w14.setCell ⟨gb277, 9, none⟩ (.slice Ao16 y279.length co16)).heap[gb278]? = some (.cells #[.int .i64 0, .int .i64 0, .int .i64 0, .int .i64 0, .int .i64 0, .int .i64 0, .int .i64 0, .slice none 0 0, .slice none 0 0, .slice none 0 0] 37 (0, 0))) := ⟨by (with_reducible repeat (first | refine blk_drewN ?_ _ | refine blk_drew ?_ | refine blk_alloc ?_ _)); refine blk_far ?_ NB278_277.out _; (with_reducible repeat (first | refine blk_drewN ?_ _ | refine blk_drew ?_ | refine blk_alloc ?_ _)); exact BK278.out⟩
 have n4_ : Aside0 (Kept w (w14.setCell ⟨gb277, 9, none⟩ (.slice Ao16 y279.length co16)) (fun k_ => P0_7_ k_)) := ⟨by repeat (first | (with_reducible first | exact HK.out | apply Kept.alloc | apply Kept.drewN | apply Kept.drew | refine Kept.setCell ?_ (.inr GW277.out) _ | refine Kept.setCell ?_ (.inr GW278.out) _) | exact HK.out)⟩
 have n5_ : Aside0 (Below w0.heap.size w0 (w14.setCell ⟨gb277, 9, none⟩ (.slice Ao16 y279.length co16))) := ⟨by repeat (first | (with_reducible first | exact HB.out | apply below_alloc | apply pw_below_drewN | apply below_drew1 | refine below_set ?_ GE277.out | refine below_set ?_ GE278.out) | exact HB.out)⟩
 (try clear HO0_7)
 (try clear HO281)
 (try clear BK277)
 (try clear BK278)
 (try clear HK)
 (try clear HB)
 generalize (w14.setCell ⟨gb277, 9, none⟩ (.slice Ao16 y279.length co16)) = w18 at n0_ n1_ n2_ n3_ n4_ n5_ ⊢
 have HO0_7 := n0_
 have HO281 := n1_
 have BK277 := n2_
 have BK278 := n3_
 have HK := n4_
 have HB := n5_
 clear n0_ n1_ n2_ n3_ n4_ n5_
 replace HO0_7 := am (Kd.R_drew HO0_7.out)
 replace HO281 := am (Kd.R_drew HO281.out)
 replace BK277 := am (blk_drew BK277.out)
 replace BK278 := am (blk_drew BK278.out)
 replace HK := am (Kept.drew HK.out)
 replace HB := am (below_drew1 HB.out)
 refine start_ (n := 9) (S := fun w' => w'.cell? ⟨gb277, 0, none⟩ = some (.int .i64 a0_0) ∧ w'.cell? ⟨gb277, 1, none⟩ = some (.int .i64 a0_1) ∧ w'.cell? ⟨gb277, 2, none⟩ = some (.int .i64 a0_2) ∧ w'.cell? ⟨gb277, 3, none⟩ = some (.int .i64 2) ∧ w'.cell? ⟨gb277, 4, none⟩ = some (.int .i64 a0_4) ∧ w'.cell? ⟨gb277, 5, none⟩ = some (.int .i64 a0_5) ∧ w'.cell? ⟨gb277, 6, none⟩ = some (.int .i64 a0_6) ∧ w'.cell? ⟨gb277, 7, none⟩ = some (.slice Ao9 l0_7.length co9) ∧ w'.cell? ⟨gb277, 8, none⟩ = some (.slice none 0 0) ∧ w'.cell? ⟨gb277, 9, none⟩ = some (.slice Ao16 y279.length co16)) (ds := [8]) #[false, false, false, false, false, false, false, false, false] kr rfl rfl ⟨(blk_cell BK277.out 0).trans rfl, (blk_cell BK277.out 1).trans rfl, (blk_cell BK277.out 2).trans rfl, (blk_cell BK277.out 3).trans rfl, (blk_cell BK277.out 4).trans rfl, (blk_cell BK277.out 5).trans rfl, (blk_cell BK277.out 6).trans rfl, (blk_cell BK277.out 7).trans rfl, (blk_cell BK277.out 8).trans rfl, (blk_cell BK277.out 9).trans rfl⟩ (fun hHeld => ?_); refine with_tabW spec_l07Lead.tab4 spec_l07Lead.bits4 (fun HT_ HW_ => ?_)
 generalize w18.drew = w19 at HO0_7 HO281 BK277 BK278 HK HB hHeld ⊢
 refine pV 0 10 (bt 1 9) ?_
 refine pV 2 12 #[true, false, true, false, false, false, false, false, false] ?_
 refine pV 4 14 #[true, false, true, false, true, false, false, false, false] ?_
 refine tV 1 11 #[true, true, true, false, true, false, false, false, false] ?_
 refine tV 3 13 (bt 5 9) ?_
 refine tV 5 15 (bt 6 9) ?_
 refine one_ (i := 6) (N := some 16) #[true, true, true, true, true, true, true, false, false] rfl rfl (one_of HT_.out kr) (by decide) (fun K hK => ?_)
 refine goes_ Try.func72 kr rfl #[.agg #[.int .i64 a0_5, .int .i64 a0_6, .slice Ao9 l0_7.length co9]] (by rfl) rfl rfl Q3 ?_
 with_reducible refine (spec_LastIndex.calls k a0_5 a0_6 _ _ l0_7 t282 _ ?side1 ?side2 A5.out).mono ?_
 (case side1 => exact (by repeat (first | exact (Kd.R_reads' HO0_7.out).2.2 | (with_reducible refine Kd.C_alloc ?_ _) | (with_reducible refine Kd.C_drewN ?_ _) | (with_reducible refine Kd.C_drew ?_))))
 (case side2 => exact (Kd.R_reads' HO0_7.out).2.1)
 rintro e w20 ⟨rfl, hb⟩
 refine ⟨_, rfl, ?_⟩
 replace HO0_7 := am (Kd.R_below Q6 hb)
 replace HO281 := am (Kd.R_below (by (with_reducible repeat (first | apply Kd.R_alloc | apply Kd.R_drewN | apply Kd.R_drew)); exact HO281.out) hb)
 replace BK277 := am (blk_below (g := gb277) (o := .cells #[.int .i64 a0_0, .int .i64 a0_1, .int .i64 a0_2, .int .i64 2, .int .i64 a0_4, .int .i64 a0_5, .int .i64 a0_6, .slice Ao9 l0_7.length co9, .slice none 0 0, .slice Ao16 y279.length co16] 37 (0, 0)) u10_10 hb)
 replace BK278 := am (blk_below (g := gb278) (o := .cells #[.int .i64 0, .int .i64 0, .int .i64 0, .int .i64 0, .int .i64 0, .int .i64 0, .int .i64 0, .slice none 0 0, .slice none 0 0, .slice none 0 0] 37 (0, 0)) (by (with_reducible repeat (first | refine blk_drewN ?_ _ | refine blk_drew ?_ | refine blk_alloc ?_ _)); exact BK278.out) hb)
 replace HK := am (Kept.below (S := (fun k_ => P0_7_ k_)) u10_5 hb)
 replace HB := am (below_step Q0 hb)
 (try clear hb)
 (try clear hb2)
 (try clear hk)
 (try clear hi)
 have p8 : 0 ≤ (a0_0 : Int) := of_decide_eq_true Q1
 have q8 : (a0_0 : Int) < ((y279.length : Int) : Int) := of_decide_eq_true Q1
 obtain ⟨go8, co8, eo8, gb8, gl8, cl8, HG8⟩ := Kd.R_form HO281.out (by omega)
 (first | cases eo8 | (injection eo8 with ea_ en_ ec_; (first | subst ea_ | (injection ea_ with ea_; subst ea_)); subst ec_; clear en_))
 have GB8 := am gb8
 have GG8 := am HG8
 clear gb8 gl8 HG8
 have HMgo8 := am (show (P0_7_ go8 ∨ w.heap.size ≤ go8) from (HO281.out.1 _ rfl))
 obtain ⟨hx8_0, hf8_0⟩ := Kd.R_celln 0 HO281.out (a0_0 : Int) p8 q8
 replace p8 := eq_true p8
 replace q8 := eq_true q8
 have HP21 := Kd.R_putn HO281.out (a0_0 : Int) t282
 rw [← Ny283.out] at HP21
 have HQ21 := am HP21
 clear HP21
 refine hK.out _ _ ⟨(blk_cell BK277.out 0).trans rfl, (blk_cell BK277.out 1).trans rfl, (blk_cell BK277.out 2).trans rfl, (blk_cell BK277.out 3).trans rfl, (blk_cell BK277.out 4).trans rfl, (blk_cell BK277.out 5).trans rfl, (blk_cell BK277.out 6).trans rfl, (blk_cell BK277.out 7).trans rfl, (blk_cell BK277.out 8).trans rfl, (blk_cell BK277.out 9).trans rfl⟩ (fun hHeld => ?_)
 clear hK K
 refine norm_ (a' := ?_) ?_ ?_
 rotate_left
 · show Act.put _ (some 16) _ = _
   simp only [Act.put, la, lb, lc, i64_w, i32_w]
   rfl
 refine pV 7 17 (bt 8 9) ?_
 refine last_ (i := 8) (N := none) #[true, true, true, true, true, true, true, true, true] rfl rfl (one_of HT_.out kr) (by decide) (fun K hK => ?_)
 refine skip_ (w1 := ?_) (by rfl) rfl ?_ ?_
 rotate_left
 · go_simp
   rfl
 refine hK.out _ _ ?_
 clear hK K
 refine done_ (done_of HT_.out kr) ?_
 have n0_ : Aside0 (Kd.R k85 85 (w20.setCell ⟨go8, (a0_0 : Int).toNat, none⟩ (.int .i64 t282)) w0.heap.size (fun k_ => (P0_7_ k_ ∨ w.heap.size ≤ k_)) (.slice Ao9 l0_7.length co9) l0_7) := ⟨by (with_reducible repeat (first | apply Kd.R_alloc | apply Kd.R_drewN | apply Kd.R_drew)); exact Kd.R_mono (Kd.R_far (p := ⟨go8, (a0_0 : Int).toNat, none⟩) (Kd.R_types HO0_7.out GG8.out (by decide)) (fun _ hk => hk.2) (.int .i64 t282)) (fun _ hk => hk.1)⟩
 have n1_ : Aside0 (Kd.R (Kd.int .i64) 3 (w20.setCell ⟨go8, (a0_0 : Int).toNat, none⟩ (.int .i64 t282)) w0.heap.size (fun k_ => (P0_7_ k_ ∨ w.heap.size ≤ k_)) (.slice (some ⟨go8, 0, none⟩) y279.length co16) y283) := ⟨by (with_reducible repeat (first | apply Kd.R_alloc | apply Kd.R_drewN | apply Kd.R_drew)); exact HQ21.out⟩
 have n2_ : Aside0 ((w20.setCell ⟨go8, (a0_0 : Int).toNat, none⟩ (.int .i64 t282)).heap[gb277]? = some (.cells #[.int .i64 a0_0, .int .i64 a0_1, .int .i64 a0_2, .int .i64 2, .int .i64 a0_4, .int .i64 a0_5, .int .i64 a0_6, .slice Ao9 l0_7.length co9, .slice none 0 0, .slice (some ⟨go8, 0, none⟩) y279.length co16] 37 (0, 0))) := ⟨by (with_reducible repeat (first | refine blk_drewN ?_ _ | refine blk_drew ?_ | refine blk_alloc ?_ _)); refine blk_far ?_ (by have h_ := Kd.R_ne HO281.out BK277.out (by decide); intro e_; exact h_ (by rw [e_]; rfl)) _; (with_reducible repeat (first | refine blk_drewN ?_ _ | refine blk_drew ?_ | refine blk_alloc ?_ _)); exact BK277.out⟩
 have n3_ : Aside0 ((w20.setCell ⟨go8, (a0_0 : Int).toNat, none⟩ (.int .i64 t282)).heap[gb278]? = some (.cells #[.int .i64 0, .int .i64 0, .int .i64 0, .int .i64 0, .int .i64 0, .int .i64 0, .int .i64 0, .slice none 0 0, .slice none 0 0, .slice none 0 0] 37 (0, 0))) := ⟨by (with_reducible repeat (first | refine blk_drewN ?_ _ | refine blk_drew ?_ | refine blk_alloc ?_ _)); refine blk_far ?_ (by have h_ := Kd.R_ne HO281.out BK278.out (by decide); intro e_; exact h_ (by rw [e_]; rfl)) _; (with_reducible repeat (first | refine blk_drewN ?_ _ | refine blk_drew ?_ | refine blk_alloc ?_ _)); exact BK278.out⟩
 have n4_ : Aside0 (Kept w (w20.setCell ⟨go8, (a0_0 : Int).toNat, none⟩ (.int .i64 t282)) (fun k_ => P0_7_ k_)) := ⟨by repeat (first | (with_reducible first | exact HK.out | apply Kept.alloc | apply Kept.drewN | apply Kept.drew | refine Kept.setCell ?_ HMgo8.out _ | refine Kept.setCell ?_ (.inr GW277.out) _ | refine Kept.setCell ?_ (.inr GW278.out) _) | exact HK.out)⟩
 have n5_ : Aside0 (Below w0.heap.size w0 (w20.setCell ⟨go8, (a0_0 : Int).toNat, none⟩ (.int .i64 t282))) := ⟨by repeat (first | (with_reducible first | exact HB.out | apply below_alloc | apply pw_below_drewN | apply below_drew1 | refine below_set ?_ GB8.out | refine below_set ?_ GE277.out | refine below_set ?_ GE278.out) | exact HB.out)⟩
 (try clear HO0_7)
 (try clear HO281)
 (try clear BK277)
 (try clear BK278)
 (try clear HK)
 (try clear HB)
 generalize (w20.setCell ⟨go8, (a0_0 : Int).toNat, none⟩ (.int .i64 t282)) = w22 at n0_ n1_ n2_ n3_ n4_ n5_ ⊢
 have HO0_7 := n0_
 have HO281 := n1_
 have BK277 := n2_
 have BK278 := n3_
 have HK := n4_
 have HB := n5_
 clear n0_ n1_ n2_ n3_ n4_ n5_
 obtain ⟨hcz23_0, hcz23_1, hcz23_2, hcz23_3, hcz23_4, hcz23_5, hcz23_6, hcz23_7, hcz23_8, hcz23_9, hfz23_0, hfz23_1, hfz23_2, hfz23_3, hfz23_4, hfz23_5, hfz23_6, hfz23_7, hfz23_8, hfz23_9⟩ := bc10f w22 BK277.out
 obtain ⟨hcz24_0, hcz24_1, hcz24_2, hcz24_3, hcz24_4, hcz24_5, hcz24_6, hcz24_7, hcz24_8, hcz24_9, hfz24_0, hfz24_1, hfz24_2, hfz24_3, hfz24_4, hfz24_5, hfz24_6, hfz24_7, hfz24_8, hfz24_9⟩ := bc10f w22 BK278.out
 try go_wp2
 refine bodyPost_ret (results_cell_row rfl _ _ gb278 37 #[.int .i64 a0_0, .int .i64 a0_1, .int .i64 a0_2, .int .i64 2, .int .i64 a0_4, .int .i64 a0_5, .int .i64 a0_6, .slice Ao9 l0_7.length co9, .slice none 0 0, .slice (some ⟨go8, 0, none⟩) y279.length co16] (0, 0) _ rfl (by (with_reducible repeat (first | refine blk_drewN ?_ _ | refine blk_drew ?_ | refine blk_alloc ?_ _)); refine blk_put (cs := #[.int .i64 a0_0, .int .i64 a0_1, .int .i64 a0_2, .int .i64 2, .int .i64 a0_4, .int .i64 a0_5, .int .i64 a0_6, .slice Ao9 l0_7.length co9, .slice none 0 0, .slice none 0 0]) ?_ 9 _ rfl; (with_reducible repeat (first | refine blk_drewN ?_ _ | refine blk_drew ?_ | refine blk_alloc ?_ _)); refine blk_put (cs := #[.int .i64 a0_0, .int .i64 a0_1, .int .i64 a0_2, .int .i64 2, .int .i64 a0_4, .int .i64 a0_5, .int .i64 a0_6, .slice Ao9 l0_7.length co9, .slice none 0 0, .slice none 0 0]) ?_ 8 _ rfl; (with_reducible repeat (first | refine blk_drewN ?_ _ | refine blk_drew ?_ | refine blk_alloc ?_ _)); refine blk_put (cs := #[.int .i64 a0_0, .int .i64 a0_1, .int .i64 a0_2, .int .i64 2, .int .i64 a0_4, .int .i64 a0_5, .int .i64 a0_6, .slice none 0 0, .slice none 0 0, .slice none 0 0]) ?_ 7 _ rfl; (with_reducible repeat (first | refine blk_drewN ?_ _ | refine blk_drew ?_ | refine blk_alloc ?_ _)); refine blk_put (cs := #[.int .i64 a0_0, .int .i64 a0_1, .int .i64 a0_2, .int .i64 2, .int .i64 a0_4, .int .i64 a0_5, .int .i64 0, .slice none 0 0, .slice none 0 0, .slice none 0 0]) ?_ 6 _ rfl; (with_reducible repeat (first | refine blk_drewN ?_ _ | refine blk_drew ?_ | refine blk_alloc ?_ _)); refine blk_put (cs := #[.int .i64 a0_0, .int .i64 a0_1, .int .i64 a0_2, .int .i64 2, .int .i64 a0_4, .int .i64 0, .int .i64 0, .slice none 0 0, .slice none 0 0, .slice none 0 0]) ?_ 5 _ rfl; (with_reducible repeat (first | refine blk_drewN ?_ _ | refine blk_drew ?_ | refine blk_alloc ?_ _)); refine blk_put (cs := #[.int .i64 a0_0, .int .i64 a0_1, .int .i64 a0_2, .int .i64 2, .int .i64 0, .int .i64 0, .int .i64 0, .slice none 0 0, .slice none 0 0, .slice none 0 0]) ?_ 4 _ rfl; (with_reducible repeat (first | refine blk_drewN ?_ _ | refine blk_drew ?_ | refine blk_alloc ?_ _)); refine blk_put (cs := #[.int .i64 a0_0, .int .i64 a0_1, .int .i64 a0_2, .int .i64 0, .int .i64 0, .int .i64 0, .int .i64 0, .slice none 0 0, .slice none 0 0, .slice none 0 0]) ?_ 3 _ rfl; (with_reducible repeat (first | refine blk_drewN ?_ _ | refine blk_drew ?_ | refine blk_alloc ?_ _)); refine blk_put (cs := #[.int .i64 a0_0, .int .i64 a0_1, .int .i64 0, .int .i64 0, .int .i64 0, .int .i64 0, .int .i64 0, .slice none 0 0, .slice none 0 0, .slice none 0 0]) ?_ 2 _ rfl; (with_reducible repeat (first | refine blk_drewN ?_ _ | refine blk_drew ?_ | refine blk_alloc ?_ _)); refine blk_put (cs := #[.int .i64 a0_0, .int .i64 0, .int .i64 0, .int .i64 0, .int .i64 0, .int .i64 0, .int .i64 0, .slice none 0 0, .slice none 0 0, .slice none 0 0]) ?_ 1 _ rfl; (with_reducible repeat (first | refine blk_drewN ?_ _ | refine blk_drew ?_ | refine blk_alloc ?_ _)); refine blk_put (cs := #[.int .i64 0, .int .i64 0, .int .i64 0, .int .i64 0, .int .i64 0, .int .i64 0, .int .i64 0, .slice none 0 0, .slice none 0 0, .slice none 0 0]) ?_ 0 _ rfl; (with_reducible repeat (first | refine blk_drewN ?_ _ | refine blk_drew ?_ | refine blk_alloc ?_ _)); exact BK278.out) Try.underlying37 rfl kr) rfl ?_
 exact ⟨_, _, _, er, (by (with_reducible repeat (first | apply Kd.R_alloc | apply Kd.R_drewN | apply Kd.R_drew)); exact Kd.R_mono (Kd.R_far (p := ⟨gb278, 9, none⟩) (Kd.R_far (p := ⟨gb278, 8, none⟩) (Kd.R_far (p := ⟨gb278, 7, none⟩) (Kd.R_far (p := ⟨gb278, 6, none⟩) (Kd.R_far (p := ⟨gb278, 5, none⟩) (Kd.R_far (p := ⟨gb278, 4, none⟩) (Kd.R_far (p := ⟨gb278, 3, none⟩) (Kd.R_far (p := ⟨gb278, 2, none⟩) (Kd.R_far (p := ⟨gb278, 1, none⟩) (Kd.R_far (p := ⟨gb278, 0, none⟩) (Kd.R_types HO0_7.out BK278.out (by decide)) (fun _ hk => hk.2) (.int .i64 a0_0)) (fun _ hk => hk.2) (.int .i64 a0_1)) (fun _ hk => hk.2) (.int .i64 a0_2)) (fun _ hk => hk.2) (.int .i64 2)) (fun _ hk => hk.2) (.int .i64 a0_4)) (fun _ hk => hk.2) (.int .i64 a0_5)) (fun _ hk => hk.2) (.int .i64 a0_6)) (fun _ hk => hk.2) (.slice Ao9 l0_7.length co9)) (fun _ hk => hk.2) (.slice none 0 0)) (fun _ hk => hk.2) (.slice (some ⟨go8, 0, none⟩) y279.length co16)) (fun _ hk => hk.1)), u10_17, (by (with_reducible repeat (first | apply Kd.R_alloc | apply Kd.R_drewN | apply Kd.R_drew)); exact Kd.R_mono (Kd.R_far (p := ⟨gb278, 9, none⟩) (Kd.R_far (p := ⟨gb278, 8, none⟩) (Kd.R_far (p := ⟨gb278, 7, none⟩) (Kd.R_far (p := ⟨gb278, 6, none⟩) (Kd.R_far (p := ⟨gb278, 5, none⟩) (Kd.R_far (p := ⟨gb278, 4, none⟩) (Kd.R_far (p := ⟨gb278, 3, none⟩) (Kd.R_far (p := ⟨gb278, 2, none⟩) (Kd.R_far (p := ⟨gb278, 1, none⟩) (Kd.R_far (p := ⟨gb278, 0, none⟩) (Kd.R_types HO281.out BK278.out (by decide)) (fun _ hk => hk.2) (.int .i64 a0_0)) (fun _ hk => hk.2) (.int .i64 a0_1)) (fun _ hk => hk.2) (.int .i64 a0_2)) (fun _ hk => hk.2) (.int .i64 2)) (fun _ hk => hk.2) (.int .i64 a0_4)) (fun _ hk => hk.2) (.int .i64 a0_5)) (fun _ hk => hk.2) (.int .i64 a0_6)) (fun _ hk => hk.2) (.slice Ao9 l0_7.length co9)) (fun _ hk => hk.2) (.slice none 0 0)) (fun _ hk => hk.2) (.slice (some ⟨go8, 0, none⟩) y279.length co16)) (fun _ hk => ⟨hk.1, (by simp [Value.ownBlock])⟩)), Q0, u10_5⟩

end Go.Proofs.Ytkcadcoohmofcaa.QFnExactElect
