-- Printed by the session's own program wip/prx.py.
import Derived.Test.YtjdpifafijcpbaaQFnExactKeepx0
import Derived.Test.YtjdpifafijcpbaaQFnExactKeepx1
import Derived.Test.YtjdpifafijcpbaaQFnExactKeepx2
import Derived.Test.YtjdpifafijcpbaaQFnExactKeepx6
import Derived.Test.YtjdpifafijcpbaaQFnExactKeepx10
namespace Go.Proofs.Ytjdpifafijcpbaa.QFnExactKeep
open Go.RowKit Go.Proofs.YtjdpifafijcpbaaW.PrintWords Go.Proofs.YtjdpifafijcpbaaW.PrintLast Go.Proofs.YtjdpifafijcpbaaW.PrintMore
attribute [local go_sem] max2_int min2_int max_two min_two max_three min_three max_four min_four Go.Proofs.Ytjdpifafijcpbaa.Set.isSome_setCell   -- for this text's walks alone
set_option linter.unusedVariables false
set_option linter.unusedSimpArgs false

-- squeezed
theorem u11_0 {P : Prop} (h : P := by repeat (first | (with_reducible first | exact HB.out | apply below_alloc | apply pw_below_drewN | apply below_drew1 | refine below_set ?_ GE306.out | refine below_set ?_ GE319.out | refine below_set ?_ GE325.out | refine below_set ?_ GE332.out) | exact HB.out)) : P := h
theorem u11_1 {P : Prop} (h : P := by (with_reducible repeat (first | refine blk_drewN ?_ _ | refine blk_drew ?_ | refine blk_alloc ?_ _)); exact BK306.out) : P := h
theorem u11_2 {P : Prop} (h : P := by (with_reducible repeat (first | refine blk_drewN ?_ _ | refine blk_drew ?_ | refine blk_alloc ?_ _)); exact BK319.out) : P := h
theorem u11_3 {P : Prop} (h : P := by (try simp only [List.map_toArray, List.map_cons, List.map_nil]); first | done | rfl | (simp only [List.length_drop, List.length_take]; rfl)) : P := h
theorem u11_4 {P : Prop} (h : P := by (with_reducible repeat (first | refine blk_drewN ?_ _ | refine blk_drew ?_ | refine blk_alloc ?_ _)); exact BK325.out) : P := h
theorem u11_5 {P : Prop} (h : P := by (with_reducible repeat (first | apply Kd.R_alloc | apply Kd.R_drewN | apply Kd.R_drew)); exact HO312.out) : P := h
theorem u11_6 {P : Prop} (h : P := by repeat (first | (with_reducible first | exact HB.out | apply below_alloc | apply pw_below_drewN | apply below_drew1 | refine below_set ?_ GE306.out) | exact HB.out)) : P := h
theorem u11_7 {P : Prop} (h : P := by (with_reducible repeat (first | apply Kd.R_alloc | apply Kd.R_drewN | apply Kd.R_drew)); exact HO317.out) : P := h
theorem u11_8 {P : Prop} (h : P := by (with_reducible repeat (first | refine blk_drewN ?_ _ | refine blk_drew ?_ | refine blk_alloc ?_ _)); exact BK332.out) : P := h
theorem u11_9 {P : Prop} (h : P := by (with_reducible repeat (first | apply Kd.R_alloc | apply Kd.R_drewN | apply Kd.R_drew)); exact HO324.out) : P := h
theorem u11_10 {P : Prop} (h : P := by (with_reducible repeat (first | apply Kd.R_alloc | apply Kd.R_drewN | apply Kd.R_drew)); exact HO330.out) : P := h
theorem u11_11 {P : Prop} (h : P := by repeat (first | (with_reducible first | exact HB.out | apply below_alloc | apply pw_below_drewN | apply below_drew1 | refine below_set ?_ GE306.out | refine below_set ?_ GE319.out) | exact HB.out)) : P := h
theorem u11_12 {P : Prop} (h : P := by repeat (first | (with_reducible first | exact HB.out | apply below_alloc | apply pw_below_drewN | apply below_drew1 | refine below_set ?_ GE306.out | refine below_set ?_ GE319.out | refine below_set ?_ GE325.out) | exact HB.out)) : P := h
theorem u11_13 {P : Prop} (h : P := by (with_reducible repeat (first | apply Kd.R_alloc | apply Kd.R_drewN | apply Kd.R_drew)); exact HO338.out) : P := h
theorem u11_14 {P : Prop} (h : P := by (with_reducible repeat (first | apply Kd.R_alloc | apply Kd.R_drewN | apply Kd.R_drew)); exact (Kd.R_mono (Kd.R_far (p := ⟨gb325, 2, none⟩) (Kd.R_far (p := ⟨gb325, 1, none⟩) (Kd.R_far (p := ⟨gb325, 0, none⟩) (Kd.R_types HO324.out BK325.out (by decide)) (fun _ hk => hk.2) (.int .i64 t320)) (fun _ hk => hk.2) (.int .i64 t321)) (fun _ hk => hk.2) (.slice Ao51 t322.length co51)) (fun _ h_ => h_.1))) : P := h
theorem u11_15 {P : Prop} (h : P := by repeat (first | exact (Kd.C_below HR0_2.out HB.out) | (with_reducible refine Kd.C_alloc ?_ _) | (with_reducible refine Kd.C_drewN ?_ _) | (with_reducible refine Kd.C_drew ?_))) : P := h
theorem u11_16 {P : Prop} (h : P := by repeat (first | (with_reducible first | exact HB.out | apply below_alloc | apply pw_below_drewN | apply below_drew1) | exact HB.out)) : P := h
theorem u11_17 {P : Prop} (h : P := by repeat (first | (with_reducible first | exact HB.out | apply below_alloc | apply pw_below_drewN | apply below_drew1 | refine below_set ?_ GE306.out | refine below_set ?_ GE319.out | refine below_set ?_ GE325.out | refine below_set ?_ GE332.out | refine below_set ?_ GE357.out) | exact HB.out)) : P := h
theorem u11_18 {P : Prop} (h : P := by (with_reducible repeat (first | apply Kd.R_alloc | apply Kd.R_drewN | apply Kd.R_drew)); exact (Kd.R_mono (Kd.R_far (p := ⟨gb319, 2, none⟩) (Kd.R_far (p := ⟨gb319, 1, none⟩) (Kd.R_far (p := ⟨gb319, 0, none⟩) (Kd.R_types HO312.out BK319.out (by decide)) (fun _ hk => hk.2) (.int .i64 t313)) (fun _ hk => hk.2) (.int .i64 t314)) (fun _ hk => hk.2) (.slice Ao44 t315.length co44)) (fun _ h_ => h_.1))) : P := h
theorem u11_19 {P : Prop} (h : P := by (with_reducible repeat (first | apply Kd.R_alloc | apply Kd.R_drewN | apply Kd.R_drew)); exact (Kd.R_mono (Kd.R_far (p := ⟨gb319, 2, none⟩) (Kd.R_far (p := ⟨gb319, 1, none⟩) (Kd.R_far (p := ⟨gb319, 0, none⟩) (Kd.R_types HO317.out BK319.out (by decide)) (fun _ hk => hk.2) (.int .i64 t313)) (fun _ hk => hk.2) (.int .i64 t314)) (fun _ hk => hk.2) (.slice Ao44 t315.length co44)) (fun _ h_ => h_.1))) : P := h
theorem u11_20 {P : Prop} (h : P := by (with_reducible repeat (first | apply Kd.R_alloc | apply Kd.R_drewN | apply Kd.R_drew)); exact (Kd.R_mono (Kd.R_far (p := ⟨gb325, 2, none⟩) (Kd.R_far (p := ⟨gb325, 1, none⟩) (Kd.R_far (p := ⟨gb325, 0, none⟩) (Kd.R_types HO312.out BK325.out (by decide)) (fun _ hk => hk.2) (.int .i64 t320)) (fun _ hk => hk.2) (.int .i64 t321)) (fun _ hk => hk.2) (.slice Ao51 t322.length co51)) (fun _ h_ => h_.1))) : P := h
theorem u11_21 {P : Prop} (h : P := by (with_reducible repeat (first | apply Kd.R_alloc | apply Kd.R_drewN | apply Kd.R_drew)); exact (Kd.R_mono (Kd.R_far (p := ⟨gb325, 2, none⟩) (Kd.R_far (p := ⟨gb325, 1, none⟩) (Kd.R_far (p := ⟨gb325, 0, none⟩) (Kd.R_types HO317.out BK325.out (by decide)) (fun _ hk => hk.2) (.int .i64 t320)) (fun _ hk => hk.2) (.int .i64 t321)) (fun _ hk => hk.2) (.slice Ao51 t322.length co51)) (fun _ h_ => h_.1))) : P := h
theorem u11_22 {P : Prop} (h : P := by (with_reducible repeat (first | apply Kd.R_alloc | apply Kd.R_drewN | apply Kd.R_drew)); exact (Kd.R_mono (Kd.R_far (p := ⟨gb332, 2, none⟩) (Kd.R_far (p := ⟨gb332, 1, none⟩) (Kd.R_far (p := ⟨gb332, 0, none⟩) (Kd.R_types HO330.out BK332.out (by decide)) (fun _ hk => hk.2) (.int .i64 t326)) (fun _ hk => hk.2) (.int .i64 t327)) (fun _ hk => hk.2) (.slice Ao58 t328.length co58)) (fun _ h_ => h_.1))) : P := h
theorem u11_23 {P : Prop} (h : P := by (with_reducible repeat (first | apply Kd.R_alloc | apply Kd.R_drewN | apply Kd.R_drew)); exact (Kd.R_mono (Kd.R_far (p := ⟨gb332, 2, none⟩) (Kd.R_far (p := ⟨gb332, 1, none⟩) (Kd.R_far (p := ⟨gb332, 0, none⟩) (Kd.R_types HO317.out BK332.out (by decide)) (fun _ hk => hk.2) (.int .i64 t326)) (fun _ hk => hk.2) (.int .i64 t327)) (fun _ hk => hk.2) (.slice Ao58 t328.length co58)) (fun _ h_ => h_.1))) : P := h
theorem u11_24 {P : Prop} (h : P := by (with_reducible repeat (first | apply Kd.R_alloc | apply Kd.R_drewN | apply Kd.R_drew)); exact (Kd.R_mono (Kd.R_far (p := ⟨gb357, 2, none⟩) (Kd.R_far (p := ⟨gb357, 1, none⟩) (Kd.R_far (p := ⟨gb357, 0, none⟩) (Kd.R_types HO355.out BK357.out (by decide)) (fun _ hk => hk.2) (.int .i64 t351)) (fun _ hk => hk.2) (.int .i64 t352)) (fun _ hk => hk.2) (.slice Ao84 t353.length co84)) (fun _ h_ => h_.1))) : P := h
theorem u11_25 {P : Prop} (h : P := by (with_reducible repeat (first | apply Kd.R_alloc | apply Kd.R_drewN | apply Kd.R_drew)); exact (Kd.R_mono (Kd.R_far (p := ⟨gb357, 2, none⟩) (Kd.R_far (p := ⟨gb357, 1, none⟩) (Kd.R_far (p := ⟨gb357, 0, none⟩) (Kd.R_types HO317.out BK357.out (by decide)) (fun _ hk => hk.2) (.int .i64 t351)) (fun _ hk => hk.2) (.int .i64 t352)) (fun _ hk => hk.2) (.slice Ao84 t353.length co84)) (fun _ h_ => h_.1))) : P := h
theorem u11_26 {P : Prop} (h : P := by repeat (first | (with_reducible first | exact HB.out | apply below_alloc | apply pw_below_drewN | apply below_drew1 | refine below_set ?_ GE298.out | refine below_set ?_ GE299.out) | exact HB.out)) : P := h
theorem u11_27 {P : Prop} (h : P := by (with_reducible repeat (first | refine blk_drewN ?_ _ | refine blk_drew ?_ | refine blk_alloc ?_ _)); exact BK298.out) : P := h
theorem u11_28 {P : Prop} (h : P := by repeat (first | exact (Kd.R_reads' HO330.out).2.2 | (with_reducible refine Kd.C_alloc ?_ _) | (with_reducible refine Kd.C_drewN ?_ _) | (with_reducible refine Kd.C_drew ?_))) : P := h
theorem u11_29 {P : Prop} (h : P := by repeat (first | (with_reducible first | exact HB.out | apply below_alloc | apply pw_below_drewN | apply below_drew1 | refine below_set ?_ GE298.out) | exact HB.out)) : P := h
theorem u11_30 {P : Prop} (h : P := by (with_reducible repeat (first | apply Kd.R_alloc | apply Kd.R_drewN | apply Kd.R_drew)); exact HO350.out) : P := h
theorem u11_31 {P : Prop} (h : P := by (try simp only [List.map_toArray, List.map_cons, List.map_nil]); first | done | (rw [show t344.length = t328.length from (Kd.R_reads' HO330.out).1.symm] <;> rfl) | rfl | (simp only [List.length_drop, List.length_take]; rfl)) : P := h
theorem u11_32 {P : Prop} (h : P := by rw [show t344.length = t328.length from (Kd.R_reads' HO330.out).1.symm]; exact (Kd.R_reads' HO330.out).2.1) : P := h
theorem u11_33 {P : Prop} (h : P := by (with_reducible repeat (first | apply Kd.R_alloc | apply Kd.R_drewN | apply Kd.R_drew)); exact HO355.out) : P := h
/-! ### impl_Keep: function 19 -/
def impl_Keep.f (k : Nat) (a0_0 : Int) (a0_1 : Int) (l0_2 : List (S45)) (a1 : Int) (a2 : Int) (a3 : ByteArray) : Option (Int × Int × (List (S45)) × Bool) := (impl_keep.f k a0_0 a0_1 l0_2 a1 a2 a3).bind fun bt300 => (some (bt300.1, bt300.2.1, bt300.2.2.1, bt300.2.2.2))
theorem impl_Keep.mono : ∀ a0 a1 a2 a3 a4 a5 k, LeO (impl_Keep.f k a0 a1 a2 a3 a4 a5) (impl_Keep.f (k + 1) a0 a1 a2 a3 a4 a5) := by
  intro a0 a1 a2 a3 a4 a5 k
  unfold impl_Keep.f
  repeat' first
      | (with_reducible exact impl_keep.mono _ _ _ _ _ _ _)
      | (with_reducible exact LeO.refl _)
      | (with_reducible exact LeO.none _)
      | (with_reducible refine LeO.ite ?_ ?_)
      | (with_reducible refine LeO.bind ?_ (fun _ => ?_))
      | exact impl_keep.mono _ _ _ _ _ _ _
      | exact LeO.none _
      | refine LeO.ite ?_ ?_
      | refine LeO.bind ?_ (fun _ => ?_)
set_option maxHeartbeats 8000000 in
set_option maxRecDepth 100000 in
theorem impl_Keep.calls (k : Nat) (a0_0 : Int) (a0_1 : Int) (A0_2 : Option Addr) (c0_2 : Nat) (l0_2 : List (S45)) (a1 : Int) (a2 : Int) (a3 : ByteArray) (r1 : Int) (r2 : Int) (r3 : List (S45)) (r4 : Bool) (w : World) (hr0_2 : Kd.C k45 w A0_2 l0_2.length l0_2) (hc0_2 : l0_2.length ≤ c0_2) (h : impl_Keep.f k a0_0 a0_1 l0_2 a1 a2 a3 = some (r1, r2, r3, r4)) :
    Calls Try.prog 19 #[.agg #[.int .i64 a0_0, .int .i64 a0_1, .slice A0_2 l0_2.length c0_2], .int .i64 a1, .int .i64 a2, .string a3] w fun e w' => ∃ v2_ : Value, e = .returned (.tuple #[.agg #[.int .i64 r1, .int .i64 r2, v2_], .bool r4]) ∧ Kd.R k45 45 w' w.heap.size (fun _ => True) v2_ r3 ∧ Below w.heap.size w w' := by
  have hu29 := Try.underlying29
  have HR0_2 := Aside0.mk hr0_2
  have HC0_2 := Aside0.mk hc0_2
  clear hr0_2 hc0_2
  have HB := Aside0.mk (Below.refl w.heap.size w)
  have H : ((impl_keep.f k a0_0 a0_1 l0_2 a1 a2 a3).bind fun bt300 => (some (bt300.1, bt300.2.1, bt300.2.2.1, bt300.2.2.2))) = some (r1, r2, r3, r4) := h
  clear h
  replace H := Option.bind_eq_some_iff.mp H
  obtain ⟨⟨t300, t301, t302, t305⟩, A50, H⟩ := H
  replace H : (some (t300, t301, t302, t305)) = some (r1, r2, r3, r4) := H
  have A5 := Aside0.mk A50
  clear A50
  simp only [Option.some.injEq, Prod.mk.injEq] at H
  obtain ⟨rfl, rfl, rfl, rfl⟩ := H
  go_enter Try.func19, Try.ntmps19
  go_wp2_with (first | ((with_reducible refine gate_dst (N := 4) rfl ?_); refine box_event ?hg (N := 4) ?hd (cs := #[.int .i64 a0_0, .int .i64 a0_1, .slice A0_2 l0_2.length c0_2]) (t := 29) ?hr ?_; (case hd => rfl); (case hg => rfl); (case hr => first | (go_simp; done) | (go_simp; rfl)); intro gb298 hg w6 hbox hb; have n0_ := Aside0.mk (below_step u11_16 hb); have n1_ := Aside0.mk (hbox); have n2_ := Aside0.mk ((by rw [hg]; exact (below_size u11_16) : w.heap.size ≤ gb298)); have n3_ := Aside0.mk ((by rw [hg]; exact (below_size u11_16) : w.heap.size ≤ gb298)); clear HB; have HB := n0_; have BK298 := n1_; have GW298 := n2_; have GE298 := n3_; clear n0_ n1_ n2_ n3_; clear hb hbox hg) | ((with_reducible refine gate_dst (N := 8) rfl ?_); refine box_event ?hg (N := 8) ?hd (cs := #[.int .i64 0, .int .i64 0, .slice none 0 0]) (t := 29) ?hr ?_; (case hd => rfl); (case hg => rfl); (case hr => first | (go_simp; done) | (go_simp; rfl)); intro gb299 hg w7 hbox hb; have n0_ := Aside0.mk (blk_below (g := gb298) (o := .cells #[.int .i64 a0_0, .int .i64 a0_1, .slice A0_2 l0_2.length c0_2] 29 (0, 0)) u11_27 hb); have n1_ := Aside0.mk (below_step u11_29 hb); have n2_ := Aside0.mk (hbox); have n3_ := Aside0.mk ((by rw [hg]; exact (below_size u11_29) : w.heap.size ≤ gb299)); have n4_ := Aside0.mk ((by rw [hg]; exact (below_size u11_29) : w.heap.size ≤ gb299)); have n5_ := Aside0.mk ((by rw [hg]; exact Nat.ne_of_lt (blk_lt (g := gb298) (o := .cells #[.int .i64 a0_0, .int .i64 a0_1, .slice A0_2 l0_2.length c0_2] 29 (0, 0)) u11_27) : gb298 ≠ gb299)); have n6_ := Aside0.mk ((by rw [hg]; exact Nat.ne_of_gt (blk_lt (g := gb298) (o := .cells #[.int .i64 a0_0, .int .i64 a0_1, .slice A0_2 l0_2.length c0_2] 29 (0, 0)) u11_27) : gb299 ≠ gb298)); clear BK298; clear HB; have BK298 := n0_; have HB := n1_; have BK299 := n2_; have GW299 := n3_; have GE299 := n4_; have NB298_299 := n5_; have NB299_298 := n6_; clear n0_ n1_ n2_ n3_ n4_ n5_ n6_; clear hb hbox hg; have hnb8 := NB298_299.out; have hnc8 := NB299_298.out; have hcz9_0 : w7.cell? ⟨gb298, 0, none⟩ = some (.int .i64 a0_0) := (blk_cell BK298.out 0).trans rfl; have hcz9_1 : w7.cell? ⟨gb298, 1, none⟩ = some (.int .i64 a0_1) := (blk_cell BK298.out 1).trans rfl; have hcz9_2 : w7.cell? ⟨gb298, 2, none⟩ = some (.slice A0_2 l0_2.length c0_2) := (blk_cell BK298.out 2).trans rfl; have hfz9_0 := blk_frozen BK298.out 0; have hfz9_1 := blk_frozen BK298.out 1; have hfz9_2 := blk_frozen BK298.out 2) | ((with_reducible refine gate_callee (f := 34) rfl ?_); refine goesL_ (some 14) rfl rfl Try.func34 (by kernel_rfl) rfl #[.agg #[.int .i64 a0_0, .int .i64 a0_1, .slice A0_2 l0_2.length c0_2], .int .i64 a1, .int .i64 a2, .string a3] rfl u11_3 ?_; (with_reducible refine (impl_keep.calls k a0_0 a0_1 _ _ l0_2 a1 a2 a3 t300 t301 t302 t305 _ ?side1 ?side2 A5.out).mono ?_); (case side1 => exact u11_15); (case side2 => exact HC0_2.out); rintro e w10 ⟨v303, rfl, ho0, hb⟩; refine ⟨_, rfl, ?_⟩; have n0_ := Aside0.mk (Kd.R_lower ho0 (below_size u11_26)); have n1_ := Aside0.mk (blk_below (g := gb298) (o := .cells #[.int .i64 a0_0, .int .i64 a0_1, .slice A0_2 l0_2.length c0_2] 29 (0, 0)) u11_27 hb); have n2_ := Aside0.mk (blk_below (g := gb299) (o := .cells #[.int .i64 0, .int .i64 0, .slice none 0 0] 29 (0, 0)) (by (with_reducible repeat (first | refine blk_drewN ?_ _ | refine blk_drew ?_ | refine blk_alloc ?_ _)); exact BK299.out) hb); have n3_ := Aside0.mk (below_step u11_26 hb); clear BK298; clear BK299; clear HB; have HO304 := n0_; have BK298 := n1_; have BK299 := n2_; have HB := n3_; clear n0_ n1_ n2_ n3_; (try clear hb); (try clear hb2); (try clear hk); (try clear hi); (try clear ho0); have hcz11_0 : w10.cell? ⟨gb299, 0, none⟩ = some (.int .i64 0) := (blk_cell BK299.out 0).trans rfl; have hcz11_1 : w10.cell? ⟨gb299, 1, none⟩ = some (.int .i64 0) := (blk_cell BK299.out 1).trans rfl; have hcz11_2 : w10.cell? ⟨gb299, 2, none⟩ = some (.slice none 0 0) := (blk_cell BK299.out 2).trans rfl; have hfz11_0 := blk_frozen BK299.out 0; have hfz11_1 := blk_frozen BK299.out 1; have hfz11_2 := blk_frozen BK299.out 2; obtain ⟨Ao12, co12, eo12⟩ := Kd.R_slice HO304.out; subst eo12))
  refine bodyPost_ret (results_ct rfl _ _ gb299 29 #[.int .i64 t300, .int .i64 t301, .slice Ao12 t302.length co12] (0, 0) _ rfl (by (with_reducible repeat (first | refine blk_drewN ?_ _ | refine blk_drew ?_ | refine blk_alloc ?_ _)); refine blk_put (cs := #[.int .i64 t300, .int .i64 t301, .slice none 0 0]) ?_ 2 _ rfl; (with_reducible repeat (first | refine blk_drewN ?_ _ | refine blk_drew ?_ | refine blk_alloc ?_ _)); refine blk_put (cs := #[.int .i64 t300, .int .i64 0, .slice none 0 0]) ?_ 1 _ rfl; (with_reducible repeat (first | refine blk_drewN ?_ _ | refine blk_drew ?_ | refine blk_alloc ?_ _)); refine blk_put (cs := #[.int .i64 0, .int .i64 0, .slice none 0 0]) ?_ 0 _ rfl; (with_reducible repeat (first | refine blk_drewN ?_ _ | refine blk_drew ?_ | refine blk_alloc ?_ _)); exact BK299.out) Try.underlying29 rfl (by kernel_rfl)) rfl ?_
  exact ⟨_, by first | rfl | (simp [errW_none, errW_some] <;> rfl) | (simp [*, errW_none, errW_some] <;> rfl), (by (with_reducible repeat (first | apply Kd.R_alloc | apply Kd.R_drewN | apply Kd.R_drew)); exact Kd.R_mono (Kd.R_far (p := ⟨gb299, 2, none⟩) (Kd.R_far (p := ⟨gb299, 1, none⟩) (Kd.R_far (p := ⟨gb299, 0, none⟩) (Kd.R_types HO304.out BK299.out (by decide)) (fun _ hk => hk.2) (.int .i64 t300)) (fun _ hk => hk.2) (.int .i64 t301)) (fun _ hk => hk.2) (.slice Ao12 t302.length co12)) (fun _ hk => trivial)), u11_26⟩

/-! ### laws_FnExactKeep: function 6 -/
def laws_FnExactKeep.f (k : Nat) (a0_0 : Int) (a0_1 : Int) (l0_2 : List (S54)) (a1 : Int) (a2 : Int) (a3 : ByteArray) : Option (Bool) := if (a3.size : Int) > 1048576 then (some true) else ((laws_szSessions.f k a0_0 a0_1 l0_2 1048576).bind fun t307 => (if t307 < 0 then (some true) else ((laws_toSessions.f k a0_0 a0_1 l0_2).bind fun bt308 => ((spec_Keep.f k bt308.1 bt308.2.1 bt308.2.2 a1 a2 a3).bind fun bt313 => ((laws_toSessions.f k a0_0 a0_1 l0_2).bind fun bt320 => ((impl_Keep.f k bt320.1 bt320.2.1 bt320.2.2 a1 a2 a3).bind fun bt326 => ((laws_eqSessions.f k bt326.1 bt326.2.1 bt326.2.2.1 bt313.1 bt313.2.1 bt313.2.2.1).bind fun t333 => (if t333 = true then (if (bt326.2.2.2 != bt313.2.2.2) = true then (some false) else ((laws_toSessions.f k a0_0 a0_1 l0_2).bind fun bt334 => ((laws_eqSessions.f k bt320.1 bt320.2.1 bt320.2.2 bt334.1 bt334.2.1 bt334.2.2).bind fun t339 => (if t339 = true then ((laws_markSessions.f k bt320.1 bt320.2.1 bt320.2.2 1).bind fun bt340 => (if bt340.1 < 0 then (some false) else ((laws_eqSessions.f k bt326.1 bt326.2.1 bt326.2.2.1 bt313.1 bt313.2.1 bt313.2.2.1).bind fun t342 => (if t342 = true then ((laws_markSessions.f k bt326.1 bt326.2.1 bt326.2.2.1 1).bind fun bt343 => ((laws_heldSessions.f k bt326.1 bt326.2.1 bt343.2 1).bind fun t345 => (if t345 < 0 then (some false) else (if t345 = bt343.1 then ((laws_toSessions.f k a0_0 a0_1 l0_2).bind fun bt346 => ((impl_Keep.f k bt346.1 bt346.2.1 bt346.2.2 a1 a2 a3).bind fun bt351 => ((laws_eqSessions.f k bt351.1 bt351.2.1 bt351.2.2.1 bt313.1 bt313.2.1 bt313.2.2.1).bind fun t358 => (if t358 = true then (if (bt351.2.2.2 != bt313.2.2.2) = true then (some false) else ((laws_heldSessions.f k bt326.1 bt326.2.1 bt343.2 1).bind fun t359 => (if t359 < 0 then (some false) else (if t359 = bt343.1 then (some true) else (some false))))) else (some false))))) else (some false))))) else (some false))))) else (some false))))) else (some false)))))))))
theorem laws_FnExactKeep.mono : ∀ a0 a1 a2 a3 a4 a5 k, LeO (laws_FnExactKeep.f k a0 a1 a2 a3 a4 a5) (laws_FnExactKeep.f (k + 1) a0 a1 a2 a3 a4 a5) := by
  intro a0 a1 a2 a3 a4 a5 k
  unfold laws_FnExactKeep.f
  repeat' first
      | (with_reducible exact impl_Keep.mono _ _ _ _ _ _ _)
      | (with_reducible exact laws_eqSessions.mono _ _ _ _ _ _ _)
      | (with_reducible exact laws_heldSessions.mono _ _ _ _ _)
      | (with_reducible exact laws_markSessions.mono _ _ _ _ _)
      | (with_reducible exact laws_szSessions.mono _ _ _ _ _)
      | (with_reducible exact laws_toSessions.mono _ _ _ _)
      | (with_reducible exact spec_Keep.mono _ _ _ _ _ _ _)
      | (with_reducible exact LeO.refl _)
      | (with_reducible exact LeO.none _)
      | (with_reducible refine LeO.ite ?_ ?_)
      | (with_reducible refine LeO.bind ?_ (fun _ => ?_))
      | exact impl_Keep.mono _ _ _ _ _ _ _
      | exact laws_eqSessions.mono _ _ _ _ _ _ _
      | exact laws_heldSessions.mono _ _ _ _ _
      | exact laws_markSessions.mono _ _ _ _ _
      | exact laws_szSessions.mono _ _ _ _ _
      | exact laws_toSessions.mono _ _ _ _
      | exact spec_Keep.mono _ _ _ _ _ _ _
      | exact LeO.none _
      | refine LeO.ite ?_ ?_
      | refine LeO.bind ?_ (fun _ => ?_)
set_option maxHeartbeats 8000000 in
set_option maxRecDepth 100000 in
theorem laws_FnExactKeep.calls (k : Nat) (a0_0 : Int) (a0_1 : Int) (A0_2 : Option Addr) (c0_2 : Nat) (l0_2 : List (S54)) (a1 : Int) (a2 : Int) (a3 : ByteArray) (r : Bool) (w : World) (hr0_2 : Kd.C k54 w A0_2 l0_2.length l0_2) (hc0_2 : l0_2.length ≤ c0_2) (h : laws_FnExactKeep.f k a0_0 a0_1 l0_2 a1 a2 a3 = some r) (hr_ : Aside0 (r = true)) :
    Calls Try.prog 6 #[.agg #[.int .i64 a0_0, .int .i64 a0_1, .slice A0_2 l0_2.length c0_2], .int .i64 a1, .int .i64 a2, .string a3] w fun e w' => e = .returned (.bool r) ∧ Below w.heap.size w w' := by
  have hu24 := Try.underlying24
  have hu29 := Try.underlying29
  have HR0_2 := Aside0.mk hr0_2
  have HC0_2 := Aside0.mk hc0_2
  clear hr0_2 hc0_2
  have HB := Aside0.mk (Below.refl w.heap.size w)
  have H : (if (a3.size : Int) > 1048576 then (some true) else ((laws_szSessions.f k a0_0 a0_1 l0_2 1048576).bind fun t307 => (if t307 < 0 then (some true) else ((laws_toSessions.f k a0_0 a0_1 l0_2).bind fun bt308 => ((spec_Keep.f k bt308.1 bt308.2.1 bt308.2.2 a1 a2 a3).bind fun bt313 => ((laws_toSessions.f k a0_0 a0_1 l0_2).bind fun bt320 => ((impl_Keep.f k bt320.1 bt320.2.1 bt320.2.2 a1 a2 a3).bind fun bt326 => ((laws_eqSessions.f k bt326.1 bt326.2.1 bt326.2.2.1 bt313.1 bt313.2.1 bt313.2.2.1).bind fun t333 => (if t333 = true then (if (bt326.2.2.2 != bt313.2.2.2) = true then (some false) else ((laws_toSessions.f k a0_0 a0_1 l0_2).bind fun bt334 => ((laws_eqSessions.f k bt320.1 bt320.2.1 bt320.2.2 bt334.1 bt334.2.1 bt334.2.2).bind fun t339 => (if t339 = true then ((laws_markSessions.f k bt320.1 bt320.2.1 bt320.2.2 1).bind fun bt340 => (if bt340.1 < 0 then (some false) else ((laws_eqSessions.f k bt326.1 bt326.2.1 bt326.2.2.1 bt313.1 bt313.2.1 bt313.2.2.1).bind fun t342 => (if t342 = true then ((laws_markSessions.f k bt326.1 bt326.2.1 bt326.2.2.1 1).bind fun bt343 => ((laws_heldSessions.f k bt326.1 bt326.2.1 bt343.2 1).bind fun t345 => (if t345 < 0 then (some false) else (if t345 = bt343.1 then ((laws_toSessions.f k a0_0 a0_1 l0_2).bind fun bt346 => ((impl_Keep.f k bt346.1 bt346.2.1 bt346.2.2 a1 a2 a3).bind fun bt351 => ((laws_eqSessions.f k bt351.1 bt351.2.1 bt351.2.2.1 bt313.1 bt313.2.1 bt313.2.2.1).bind fun t358 => (if t358 = true then (if (bt351.2.2.2 != bt313.2.2.2) = true then (some false) else ((laws_heldSessions.f k bt326.1 bt326.2.1 bt343.2 1).bind fun t359 => (if t359 < 0 then (some false) else (if t359 = bt343.1 then (some true) else (some false))))) else (some false))))) else (some false))))) else (some false))))) else (some false))))) else (some false)))))))))) = some r := h
  clear h
  have H9 := Aside0.mk H
  clear H
  go_enter Try.func6, Try.ntmps6
  go_upto_if 22 with (first | ((with_reducible refine gate_dst (N := 4) rfl ?_); refine box_event ?hg (N := 4) ?hd (cs := #[.int .i64 a0_0, .int .i64 a0_1, .slice A0_2 l0_2.length c0_2]) (t := 24) ?hr ?_; (case hd => rfl); (case hg => rfl); (case hr => first | (go_simp; done) | (go_simp; rfl)); intro gb306 hg w5 hbox hb; have n0_ := Aside0.mk (below_step u11_16 hb); have n1_ := Aside0.mk (hbox); have n2_ := Aside0.mk ((by rw [hg]; exact (below_size u11_16) : w.heap.size ≤ gb306)); have n3_ := Aside0.mk ((by rw [hg]; exact (below_size u11_16) : w.heap.size ≤ gb306)); clear HB; have HB := n0_; have BK306 := n1_; have GW306 := n2_; have GE306 := n3_; clear n0_ n1_ n2_ n3_; clear hb hbox hg))
  have H := H9.out
  clear H9
  by_cases c6 : (a3.size : Int) > 1048576
  · rw [if_pos c6] at H
    have c6b0 : decide (1048576 < (a3.size : Int)) = true := decide_eq_true c6
    have c6b1 : decide (1048576 < a3.size) = true := decide_eq_true (by omega)
    clear c6
    (first | rw [c6b0] | (simp only [i64_w, i32_w]; rw [c6b0]) | skip)
    obtain rfl := Option.some.inj H
    go_wp2
    go_ret
    exact ⟨by first | rfl | (simp [errW_none, errW_some] <;> rfl) | (simp [*, errW_none, errW_some] <;> rfl), u11_6⟩
  rw [if_neg c6] at H
  have c6b0 : decide (1048576 < (a3.size : Int)) = false := decide_eq_false c6
  have c6b1 : decide (1048576 < a3.size) = false := decide_eq_false (by omega)
  clear c6
  (first | rw [c6b0] | (simp only [i64_w, i32_w]; rw [c6b0]) | skip)
  replace H := Option.bind_eq_some_iff.mp H
  obtain ⟨t307, A70, H⟩ := H
  have A7 := Aside0.mk A70
  clear A70
  have H9 := Aside0.mk H
  clear H
  have hcz8_0 : w5.cell? ⟨gb306, 0, none⟩ = some (.int .i64 a0_0) := (blk_cell BK306.out 0).trans rfl
  have hcz8_1 : w5.cell? ⟨gb306, 1, none⟩ = some (.int .i64 a0_1) := (blk_cell BK306.out 1).trans rfl
  have hcz8_2 : w5.cell? ⟨gb306, 2, none⟩ = some (.slice A0_2 l0_2.length c0_2) := (blk_cell BK306.out 2).trans rfl
  have hfz8_0 := blk_frozen BK306.out 0
  have hfz8_1 := blk_frozen BK306.out 1
  have hfz8_2 := blk_frozen BK306.out 2
  go_upto_if 27 with (first | ((with_reducible refine gate_callee (f := 7) rfl ?_); refine goesL_ (some 25) rfl rfl Try.func7 (by kernel_rfl) rfl #[.agg #[.int .i64 a0_0, .int .i64 a0_1, .slice A0_2 l0_2.length c0_2], .int .i64 1048576] rfl u11_3 ?_; (with_reducible refine (laws_szSessions.calls k a0_0 a0_1 _ _ l0_2 1048576 t307 _ ?side1 ?side2 A7.out).mono ?_); (case side1 => exact u11_15); (case side2 => exact HC0_2.out); rintro e w9 ⟨rfl, hb⟩; refine ⟨_, rfl, ?_⟩; have n0_ := Aside0.mk (blk_below (g := gb306) (o := .cells #[.int .i64 a0_0, .int .i64 a0_1, .slice A0_2 l0_2.length c0_2] 24 (0, 0)) u11_1 hb); have n1_ := Aside0.mk (below_step u11_6 hb); clear BK306; clear HB; have BK306 := n0_; have HB := n1_; clear n0_ n1_; (try clear hb); (try clear hb2); (try clear hk); (try clear hi)))
  have H := H9.out
  clear H9
  by_cases c10 : t307 < 0
  · rw [if_pos c10] at H
    have c10b0 : decide (t307 < 0) = true := decide_eq_true c10
    clear c10
    (first | rw [c10b0] | (simp only [i64_w, i32_w]; rw [c10b0]) | skip)
    obtain rfl := Option.some.inj H
    go_wp2
    go_ret
    exact ⟨by first | rfl | (simp [errW_none, errW_some] <;> rfl) | (simp [*, errW_none, errW_some] <;> rfl), u11_6⟩
  rw [if_neg c10] at H
  have c10b0 : decide (t307 < 0) = false := decide_eq_false c10
  clear c10
  (first | rw [c10b0] | (simp only [i64_w, i32_w]; rw [c10b0]) | skip)
  replace H := Option.bind_eq_some_iff.mp H
  obtain ⟨⟨t308, t309, t310⟩, A110, H⟩ := H
  (try dsimp only at H)
  have A11 := Aside0.mk A110
  clear A110
  replace H := Option.bind_eq_some_iff.mp H
  obtain ⟨⟨t313, t314, t315, t318⟩, A120, H⟩ := H
  (try dsimp only at H)
  have A12 := Aside0.mk A120
  clear A120
  replace H := Option.bind_eq_some_iff.mp H
  obtain ⟨⟨t320, t321, t322⟩, A130, H⟩ := H
  (try dsimp only at H)
  have A13 := Aside0.mk A130
  clear A130
  replace H := Option.bind_eq_some_iff.mp H
  obtain ⟨⟨t326, t327, t328, t331⟩, A140, H⟩ := H
  (try dsimp only at H)
  have A14 := Aside0.mk A140
  clear A140
  replace H := Option.bind_eq_some_iff.mp H
  obtain ⟨t333, A150, H⟩ := H
  have A15 := Aside0.mk A150
  clear A150
  by_cases c16 : t333 = true
  rotate_left
  · replace c16 := Bool.eq_false_iff.mpr c16
    subst c16
    rw [if_neg (show ¬ (false = true) by decide)] at H
    exact absurd ((Option.some.inj H).trans hr_.out) (by decide)
  subst c16
  rw [if_pos rfl] at H
  by_cases c17 : (t331 != t318) = true
  · rw [if_pos c17] at H
    have c17b0 : (t331 != t318) = true := c17
    (try (have c17b1 : decide (t331 = t318) = false := by simpa using c17))
    (try (have c17b2 : (t331 == t318) = false := by simpa using c17))
    (try (have c17b3 : ¬ (t331 = t318) := by simpa using c17))
    clear c17
    exact absurd ((Option.some.inj H).trans hr_.out) (by decide)
  rw [if_neg c17] at H
  have c17b0 : (t331 != t318) = false := by simpa using c17
  (try (have c17b1 : decide (t331 = t318) = true := by simpa using c17))
  (try (have c17b2 : (t331 == t318) = true := by simpa using c17))
  clear c17
  replace H := Option.bind_eq_some_iff.mp H
  obtain ⟨⟨t334, t335, t336⟩, A180, H⟩ := H
  (try dsimp only at H)
  have A18 := Aside0.mk A180
  clear A180
  replace H := Option.bind_eq_some_iff.mp H
  obtain ⟨t339, A190, H⟩ := H
  have A19 := Aside0.mk A190
  clear A190
  by_cases c20 : t339 = true
  rotate_left
  · replace c20 := Bool.eq_false_iff.mpr c20
    subst c20
    rw [if_neg (show ¬ (false = true) by decide)] at H
    exact absurd ((Option.some.inj H).trans hr_.out) (by decide)
  subst c20
  rw [if_pos rfl] at H
  replace H := Option.bind_eq_some_iff.mp H
  obtain ⟨⟨t340, t341⟩, A210, H⟩ := H
  (try dsimp only at H)
  have A21 := Aside0.mk A210
  clear A210
  by_cases c22 : t340 < 0
  · rw [if_pos c22] at H
    have c22b0 : decide (t340 < 0) = true := decide_eq_true c22
    clear c22
    exact absurd ((Option.some.inj H).trans hr_.out) (by decide)
  rw [if_neg c22] at H
  have c22b0 : decide (t340 < 0) = false := decide_eq_false c22
  clear c22
  replace H := Option.bind_eq_some_iff.mp H
  obtain ⟨t342, A230, H⟩ := H
  have A23 := Aside0.mk A230
  clear A230
  by_cases c24 : t342 = true
  rotate_left
  · replace c24 := Bool.eq_false_iff.mpr c24
    subst c24
    rw [if_neg (show ¬ (false = true) by decide)] at H
    exact absurd ((Option.some.inj H).trans hr_.out) (by decide)
  subst c24
  rw [if_pos rfl] at H
  replace H := Option.bind_eq_some_iff.mp H
  obtain ⟨⟨t343, t344⟩, A250, H⟩ := H
  (try dsimp only at H)
  have A25 := Aside0.mk A250
  clear A250
  replace H := Option.bind_eq_some_iff.mp H
  obtain ⟨t345, A260, H⟩ := H
  have A26 := Aside0.mk A260
  clear A260
  by_cases c27 : t345 < 0
  · rw [if_pos c27] at H
    have c27b0 : decide (t345 < 0) = true := decide_eq_true c27
    clear c27
    exact absurd ((Option.some.inj H).trans hr_.out) (by decide)
  rw [if_neg c27] at H
  have c27b0 : decide (t345 < 0) = false := decide_eq_false c27
  clear c27
  by_cases c28 : t345 = t343
  rotate_left
  · rw [if_neg c28] at H
    have c28b0 : (t345 == t343) = false := beq_eq_false_iff_ne.mpr c28
    have c28b1 : (t345 != t343) = true := bne_iff_ne.mpr c28
    exact absurd ((Option.some.inj H).trans hr_.out) (by decide)
  rw [if_pos c28] at H
  have c28b0 : (t345 == t343) = true := beq_iff_eq.mpr c28
  have c28b1 : (t345 != t343) = false := bne_eq_false_iff_eq.mpr c28
  clear c28
  replace H := Option.bind_eq_some_iff.mp H
  obtain ⟨⟨t346, t347, t348⟩, A290, H⟩ := H
  (try dsimp only at H)
  have A29 := Aside0.mk A290
  clear A290
  replace H := Option.bind_eq_some_iff.mp H
  obtain ⟨⟨t351, t352, t353, t356⟩, A300, H⟩ := H
  (try dsimp only at H)
  have A30 := Aside0.mk A300
  clear A300
  replace H := Option.bind_eq_some_iff.mp H
  obtain ⟨t358, A310, H⟩ := H
  have A31 := Aside0.mk A310
  clear A310
  by_cases c32 : t358 = true
  rotate_left
  · replace c32 := Bool.eq_false_iff.mpr c32
    subst c32
    rw [if_neg (show ¬ (false = true) by decide)] at H
    exact absurd ((Option.some.inj H).trans hr_.out) (by decide)
  subst c32
  rw [if_pos rfl] at H
  by_cases c33 : (t356 != t318) = true
  · rw [if_pos c33] at H
    have c33b0 : (t356 != t318) = true := c33
    (try (have c33b1 : decide (t356 = t318) = false := by simpa using c33))
    (try (have c33b2 : (t356 == t318) = false := by simpa using c33))
    (try (have c33b3 : ¬ (t356 = t318) := by simpa using c33))
    clear c33
    exact absurd ((Option.some.inj H).trans hr_.out) (by decide)
  rw [if_neg c33] at H
  have c33b0 : (t356 != t318) = false := by simpa using c33
  (try (have c33b1 : decide (t356 = t318) = true := by simpa using c33))
  (try (have c33b2 : (t356 == t318) = true := by simpa using c33))
  clear c33
  replace H := Option.bind_eq_some_iff.mp H
  obtain ⟨t359, A340, H⟩ := H
  replace H : (if t359 < 0 then (some false) else (if t359 = t343 then (some true) else (some false))) = some r := H
  have A34 := Aside0.mk A340
  clear A340
  by_cases c35 : t359 < 0
  · rw [if_pos c35] at H
    have c35b0 : decide (t359 < 0) = true := decide_eq_true c35
    clear c35
    exact absurd ((Option.some.inj H).trans hr_.out) (by decide)
  rw [if_neg c35] at H
  have c35b0 : decide (t359 < 0) = false := decide_eq_false c35
  clear c35
  by_cases c36 : t359 = t343
  rotate_left
  · rw [if_neg c36] at H
    have c36b0 : (t359 == t343) = false := beq_eq_false_iff_ne.mpr c36
    have c36b1 : (t359 != t343) = true := bne_iff_ne.mpr c36
    exact absurd ((Option.some.inj H).trans hr_.out) (by decide)
  rw [if_pos c36] at H
  have c36b0 : (t359 == t343) = true := beq_iff_eq.mpr c36
  have c36b1 : (t359 != t343) = false := bne_eq_false_iff_eq.mpr c36
  clear c36
  obtain rfl := Option.some.inj H
  have hcz37_0 : w9.cell? ⟨gb306, 0, none⟩ = some (.int .i64 a0_0) := (blk_cell BK306.out 0).trans rfl
  have hcz37_1 : w9.cell? ⟨gb306, 1, none⟩ = some (.int .i64 a0_1) := (blk_cell BK306.out 1).trans rfl
  have hcz37_2 : w9.cell? ⟨gb306, 2, none⟩ = some (.slice A0_2 l0_2.length c0_2) := (blk_cell BK306.out 2).trans rfl
  have hfz37_0 := blk_frozen BK306.out 0
  have hfz37_1 := blk_frozen BK306.out 1
  have hfz37_2 := blk_frozen BK306.out 2
  try go_wp2_with (first | ((with_reducible refine gate_callee (f := 9) rfl ?_); refine goesL_ (some 30) rfl rfl Try.func9 (by kernel_rfl) rfl #[.agg #[.int .i64 a0_0, .int .i64 a0_1, .slice A0_2 l0_2.length c0_2]] rfl u11_3 ?_; (with_reducible refine (laws_toSessions.calls k a0_0 a0_1 _ _ l0_2 t308 t309 t310 _ ?side1 ?side2 A11.out).mono ?_); (case side1 => exact u11_15); (case side2 => exact HC0_2.out); rintro e w38 ⟨v311, rfl, ho0, hb⟩; refine ⟨_, rfl, ?_⟩; have n0_ := Aside0.mk (Kd.R_lower ho0 (below_size u11_6)); have n1_ := Aside0.mk (blk_below (g := gb306) (o := .cells #[.int .i64 a0_0, .int .i64 a0_1, .slice A0_2 l0_2.length c0_2] 24 (0, 0)) u11_1 hb); have n2_ := Aside0.mk (below_step u11_6 hb); clear BK306; clear HB; have HO312 := n0_; have BK306 := n1_; have HB := n2_; clear n0_ n1_ n2_; (try clear hb); (try clear hb2); (try clear hk); (try clear hi); (try clear ho0); obtain ⟨Ao39, co39, eo39⟩ := Kd.R_slice HO312.out; subst eo39) | ((with_reducible refine gate_callee (f := 18) rfl ?_); refine goesL_ (some 34) rfl rfl Try.func18 (by kernel_rfl) rfl #[.agg #[.int .i64 t308, .int .i64 t309, .slice Ao39 t310.length co39], .int .i64 a1, .int .i64 a2, .string a3] rfl u11_3 ?_; (with_reducible refine (spec_Keep.calls k t308 t309 _ _ t310 a1 a2 a3 t313 t314 t315 t318 _ ?side1 ?side2 A12.out).mono ?_); (case side1 => exact (by repeat (first | exact (Kd.R_reads' HO312.out).2.2 | (with_reducible refine Kd.C_alloc ?_ _) | (with_reducible refine Kd.C_drewN ?_ _) | (with_reducible refine Kd.C_drew ?_)))); (case side2 => exact (Kd.R_reads' HO312.out).2.1); rintro e w40 ⟨v316, rfl, ho0, hb⟩; refine ⟨_, rfl, ?_⟩; have n0_ := Aside0.mk (Kd.R_elder' u11_5 (Kd.R_base ho0) hb); have n1_ := Aside0.mk (Kd.R_lower (Kd.R_new' ho0 (Kd.R_lt u11_5)) (below_size u11_6)); have n2_ := Aside0.mk (blk_below (g := gb306) (o := .cells #[.int .i64 a0_0, .int .i64 a0_1, .slice A0_2 l0_2.length c0_2] 24 (0, 0)) u11_1 hb); have n3_ := Aside0.mk (below_step u11_6 hb); clear HO312; clear BK306; clear HB; have HO312 := n0_; have HO317 := n1_; have BK306 := n2_; have HB := n3_; clear n0_ n1_ n2_ n3_; (try clear hb); (try clear hb2); (try clear hk); (try clear hi); (try clear ho0)) | ((with_reducible refine gate_dst (N := 10) rfl ?_); refine box_event ?hg (N := 10) ?hd (cs := #[.int .i64 0, .int .i64 0, .slice none 0 0]) (t := 29) ?hr ?_; (case hd => rfl); (case hg => rfl); (case hr => first | (go_simp; done) | (go_simp; rfl)); intro gb319 hg w41 hbox hb; have n0_ := Aside0.mk (Kd.R_below u11_5 hb); have n1_ := Aside0.mk (Kd.R_below u11_7 hb); have n2_ := Aside0.mk (blk_below (g := gb306) (o := .cells #[.int .i64 a0_0, .int .i64 a0_1, .slice A0_2 l0_2.length c0_2] 24 (0, 0)) u11_1 hb); have n3_ := Aside0.mk (below_step u11_6 hb); have n4_ := Aside0.mk (hbox); have n5_ := Aside0.mk ((by rw [hg]; exact (below_size u11_6) : w.heap.size ≤ gb319)); have n6_ := Aside0.mk ((by rw [hg]; exact (below_size u11_6) : w.heap.size ≤ gb319)); have n7_ := Aside0.mk ((by rw [hg]; exact Nat.ne_of_lt (blk_lt (g := gb306) (o := .cells #[.int .i64 a0_0, .int .i64 a0_1, .slice A0_2 l0_2.length c0_2] 24 (0, 0)) u11_1) : gb306 ≠ gb319)); have n8_ := Aside0.mk ((by rw [hg]; exact Nat.ne_of_gt (blk_lt (g := gb306) (o := .cells #[.int .i64 a0_0, .int .i64 a0_1, .slice A0_2 l0_2.length c0_2] 24 (0, 0)) u11_1) : gb319 ≠ gb306)); clear HO312; clear HO317; clear BK306; clear HB; have HO312 := n0_; have HO317 := n1_; have BK306 := n2_; have HB := n3_; have BK319 := n4_; have GW319 := n5_; have GE319 := n6_; have NB306_319 := n7_; have NB319_306 := n8_; clear n0_ n1_ n2_ n3_ n4_ n5_ n6_ n7_ n8_; clear hb hbox hg; have hnb42 := NB319_306.out; have hnc42 := NB306_319.out; have hcz43_0 : w41.cell? ⟨gb319, 0, none⟩ = some (.int .i64 0) := (blk_cell BK319.out 0).trans rfl; have hcz43_1 : w41.cell? ⟨gb319, 1, none⟩ = some (.int .i64 0) := (blk_cell BK319.out 1).trans rfl; have hcz43_2 : w41.cell? ⟨gb319, 2, none⟩ = some (.slice none 0 0) := (blk_cell BK319.out 2).trans rfl; have hfz43_0 := blk_frozen BK319.out 0; have hfz43_1 := blk_frozen BK319.out 1; have hfz43_2 := blk_frozen BK319.out 2; obtain ⟨Ao44, co44, eo44⟩ := Kd.R_slice HO317.out; subst eo44; have hcz45_0 : w41.cell? ⟨gb306, 0, none⟩ = some (.int .i64 a0_0) := (blk_cell BK306.out 0).trans rfl; have hcz45_1 : w41.cell? ⟨gb306, 1, none⟩ = some (.int .i64 a0_1) := (blk_cell BK306.out 1).trans rfl; have hcz45_2 : w41.cell? ⟨gb306, 2, none⟩ = some (.slice A0_2 l0_2.length c0_2) := (blk_cell BK306.out 2).trans rfl; have hfz45_0 := blk_frozen BK306.out 0; have hfz45_1 := blk_frozen BK306.out 1; have hfz45_2 := blk_frozen BK306.out 2) | ((with_reducible refine gate_callee (f := 9) rfl ?_); refine goesL_ (some 38) rfl rfl Try.func9 (by kernel_rfl) rfl #[.agg #[.int .i64 a0_0, .int .i64 a0_1, .slice A0_2 l0_2.length c0_2]] rfl u11_3 ?_; (with_reducible refine (laws_toSessions.calls k a0_0 a0_1 _ _ l0_2 t320 t321 t322 _ ?side1 ?side2 A13.out).mono ?_); (case side1 => exact (by exact Kd.C_below HR0_2.out u11_11)); (case side2 => exact HC0_2.out); rintro e w46 ⟨v323, rfl, ho0, hb⟩; refine ⟨_, rfl, ?_⟩; have n0_ := Aside0.mk (Kd.R_elder' u11_18 (Kd.R_base ho0) hb); have n1_ := Aside0.mk (Kd.R_elder' u11_19 (Kd.R_base ho0) hb); have n2_ := Aside0.mk (Kd.R_lower (Kd.R_new' (Kd.R_new' ho0 (Kd.R_lt u11_18)) (Kd.R_lt u11_19)) (below_size u11_11)); have n3_ := Aside0.mk (blk_below (g := gb306) (o := .cells #[.int .i64 a0_0, .int .i64 a0_1, .slice A0_2 l0_2.length c0_2] 24 (0, 0)) (by (with_reducible repeat (first | refine blk_drewN ?_ _ | refine blk_drew ?_ | refine blk_alloc ?_ _)); refine blk_far ?_ NB306_319.out _; (with_reducible repeat (first | refine blk_drewN ?_ _ | refine blk_drew ?_ | refine blk_alloc ?_ _)); refine blk_far ?_ NB306_319.out _; (with_reducible repeat (first | refine blk_drewN ?_ _ | refine blk_drew ?_ | refine blk_alloc ?_ _)); refine blk_far ?_ NB306_319.out _; (with_reducible repeat (first | refine blk_drewN ?_ _ | refine blk_drew ?_ | refine blk_alloc ?_ _)); exact BK306.out) hb); have n4_ := Aside0.mk (blk_below (g := gb319) (o := .cells #[.int .i64 t313, .int .i64 t314, .slice Ao44 t315.length co44] 29 (0, 0)) (by (with_reducible repeat (first | refine blk_drewN ?_ _ | refine blk_drew ?_ | refine blk_alloc ?_ _)); refine blk_put (cs := #[.int .i64 t313, .int .i64 t314, .slice none 0 0]) ?_ 2 _ rfl; (with_reducible repeat (first | refine blk_drewN ?_ _ | refine blk_drew ?_ | refine blk_alloc ?_ _)); refine blk_put (cs := #[.int .i64 t313, .int .i64 0, .slice none 0 0]) ?_ 1 _ rfl; (with_reducible repeat (first | refine blk_drewN ?_ _ | refine blk_drew ?_ | refine blk_alloc ?_ _)); refine blk_put (cs := #[.int .i64 0, .int .i64 0, .slice none 0 0]) ?_ 0 _ rfl; (with_reducible repeat (first | refine blk_drewN ?_ _ | refine blk_drew ?_ | refine blk_alloc ?_ _)); exact BK319.out) hb); have n5_ := Aside0.mk (below_step u11_11 hb); clear HO312; clear HO317; clear BK306; clear BK319; clear HB; have HO312 := n0_; have HO317 := n1_; have HO324 := n2_; have BK306 := n3_; have BK319 := n4_; have HB := n5_; clear n0_ n1_ n2_ n3_ n4_ n5_; (try clear hb); (try clear hb2); (try clear hk); (try clear hi); (try clear ho0)) | ((with_reducible refine gate_dst (N := 12) rfl ?_); refine box_event ?hg (N := 12) ?hd (cs := #[.int .i64 0, .int .i64 0, .slice none 0 0]) (t := 29) ?hr ?_; (case hd => rfl); (case hg => rfl); (case hr => first | (go_simp; done) | (go_simp; rfl)); intro gb325 hg w47 hbox hb; have n0_ := Aside0.mk (Kd.R_below u11_5 hb); have n1_ := Aside0.mk (Kd.R_below u11_7 hb); have n2_ := Aside0.mk (Kd.R_below u11_9 hb); have n3_ := Aside0.mk (blk_below (g := gb306) (o := .cells #[.int .i64 a0_0, .int .i64 a0_1, .slice A0_2 l0_2.length c0_2] 24 (0, 0)) u11_1 hb); have n4_ := Aside0.mk (blk_below (g := gb319) (o := .cells #[.int .i64 t313, .int .i64 t314, .slice Ao44 t315.length co44] 29 (0, 0)) u11_2 hb); have n5_ := Aside0.mk (below_step u11_11 hb); have n6_ := Aside0.mk (hbox); have n7_ := Aside0.mk ((by rw [hg]; exact (below_size u11_11) : w.heap.size ≤ gb325)); have n8_ := Aside0.mk ((by rw [hg]; exact (below_size u11_11) : w.heap.size ≤ gb325)); have n9_ := Aside0.mk ((by rw [hg]; exact Nat.ne_of_lt (blk_lt (g := gb306) (o := .cells #[.int .i64 a0_0, .int .i64 a0_1, .slice A0_2 l0_2.length c0_2] 24 (0, 0)) u11_1) : gb306 ≠ gb325)); have n10_ := Aside0.mk ((by rw [hg]; exact Nat.ne_of_gt (blk_lt (g := gb306) (o := .cells #[.int .i64 a0_0, .int .i64 a0_1, .slice A0_2 l0_2.length c0_2] 24 (0, 0)) u11_1) : gb325 ≠ gb306)); have n11_ := Aside0.mk ((by rw [hg]; exact Nat.ne_of_lt (blk_lt (g := gb319) (o := .cells #[.int .i64 t313, .int .i64 t314, .slice Ao44 t315.length co44] 29 (0, 0)) u11_2) : gb319 ≠ gb325)); have n12_ := Aside0.mk ((by rw [hg]; exact Nat.ne_of_gt (blk_lt (g := gb319) (o := .cells #[.int .i64 t313, .int .i64 t314, .slice Ao44 t315.length co44] 29 (0, 0)) u11_2) : gb325 ≠ gb319)); clear HO312; clear HO317; clear HO324; clear BK306; clear BK319; clear HB; have HO312 := n0_; have HO317 := n1_; have HO324 := n2_; have BK306 := n3_; have BK319 := n4_; have HB := n5_; have BK325 := n6_; have GW325 := n7_; have GE325 := n8_; have NB306_325 := n9_; have NB325_306 := n10_; have NB319_325 := n11_; have NB325_319 := n12_; clear n0_ n1_ n2_ n3_ n4_ n5_ n6_ n7_ n8_ n9_ n10_ n11_ n12_; clear hb hbox hg; have hnb48 := NB325_306.out; have hnc48 := NB306_325.out; have hnb49 := NB325_319.out; have hnc49 := NB319_325.out; have hcz50_0 : w47.cell? ⟨gb325, 0, none⟩ = some (.int .i64 0) := (blk_cell BK325.out 0).trans rfl; have hcz50_1 : w47.cell? ⟨gb325, 1, none⟩ = some (.int .i64 0) := (blk_cell BK325.out 1).trans rfl; have hcz50_2 : w47.cell? ⟨gb325, 2, none⟩ = some (.slice none 0 0) := (blk_cell BK325.out 2).trans rfl; have hfz50_0 := blk_frozen BK325.out 0; have hfz50_1 := blk_frozen BK325.out 1; have hfz50_2 := blk_frozen BK325.out 2; obtain ⟨Ao51, co51, eo51⟩ := Kd.R_slice HO324.out; subst eo51) | ((with_reducible refine gate_callee (f := 19) rfl ?_); refine goesL_ (some 44) rfl rfl Try.func19 (by kernel_rfl) rfl #[.agg #[.int .i64 t320, .int .i64 t321, .slice Ao51 t322.length co51], .int .i64 a1, .int .i64 a2, .string a3] rfl u11_3 ?_; (with_reducible refine (impl_Keep.calls k t320 t321 _ _ t322 a1 a2 a3 t326 t327 t328 t331 _ ?side1 ?side2 A14.out).mono ?_); (case side1 => exact (by refine (Kd.R_reads' (e := 45) (base := w.heap.size) (ok := fun k_ => ((True ∧ some k_ ≠ (.slice Ao39 t310.length co39 : Value).ownBlock) ∧ some k_ ≠ (.slice Ao44 t315.length co44 : Value).ownBlock)) (n := t322.length) (c := co51) ?_).2.2; exact u11_14)); (case side2 => exact (Kd.R_reads' HO324.out).2.1); rintro e w52 ⟨v329, rfl, ho0, hb⟩; refine ⟨_, rfl, ?_⟩; have n0_ := Aside0.mk (Kd.R_elder' u11_20 (Kd.R_base ho0) hb); have n1_ := Aside0.mk (Kd.R_elder' u11_21 (Kd.R_base ho0) hb); have n2_ := Aside0.mk (Kd.R_elder' u11_14 (Kd.R_base ho0) hb); have n3_ := Aside0.mk (Kd.R_lower (Kd.R_new' (Kd.R_new' (Kd.R_new' ho0 (Kd.R_lt u11_20)) (Kd.R_lt u11_21)) (Kd.R_lt u11_14)) (below_size u11_12)); have n4_ := Aside0.mk (blk_below (g := gb306) (o := .cells #[.int .i64 a0_0, .int .i64 a0_1, .slice A0_2 l0_2.length c0_2] 24 (0, 0)) (by (with_reducible repeat (first | refine blk_drewN ?_ _ | refine blk_drew ?_ | refine blk_alloc ?_ _)); refine blk_far ?_ NB306_325.out _; (with_reducible repeat (first | refine blk_drewN ?_ _ | refine blk_drew ?_ | refine blk_alloc ?_ _)); refine blk_far ?_ NB306_325.out _; (with_reducible repeat (first | refine blk_drewN ?_ _ | refine blk_drew ?_ | refine blk_alloc ?_ _)); refine blk_far ?_ NB306_325.out _; (with_reducible repeat (first | refine blk_drewN ?_ _ | refine blk_drew ?_ | refine blk_alloc ?_ _)); exact BK306.out) hb); have n5_ := Aside0.mk (blk_below (g := gb319) (o := .cells #[.int .i64 t313, .int .i64 t314, .slice Ao44 t315.length co44] 29 (0, 0)) (by (with_reducible repeat (first | refine blk_drewN ?_ _ | refine blk_drew ?_ | refine blk_alloc ?_ _)); refine blk_far ?_ NB319_325.out _; (with_reducible repeat (first | refine blk_drewN ?_ _ | refine blk_drew ?_ | refine blk_alloc ?_ _)); refine blk_far ?_ NB319_325.out _; (with_reducible repeat (first | refine blk_drewN ?_ _ | refine blk_drew ?_ | refine blk_alloc ?_ _)); refine blk_far ?_ NB319_325.out _; (with_reducible repeat (first | refine blk_drewN ?_ _ | refine blk_drew ?_ | refine blk_alloc ?_ _)); exact BK319.out) hb); have n6_ := Aside0.mk (blk_below (g := gb325) (o := .cells #[.int .i64 t320, .int .i64 t321, .slice Ao51 t322.length co51] 29 (0, 0)) (by (with_reducible repeat (first | refine blk_drewN ?_ _ | refine blk_drew ?_ | refine blk_alloc ?_ _)); refine blk_put (cs := #[.int .i64 t320, .int .i64 t321, .slice none 0 0]) ?_ 2 _ rfl; (with_reducible repeat (first | refine blk_drewN ?_ _ | refine blk_drew ?_ | refine blk_alloc ?_ _)); refine blk_put (cs := #[.int .i64 t320, .int .i64 0, .slice none 0 0]) ?_ 1 _ rfl; (with_reducible repeat (first | refine blk_drewN ?_ _ | refine blk_drew ?_ | refine blk_alloc ?_ _)); refine blk_put (cs := #[.int .i64 0, .int .i64 0, .slice none 0 0]) ?_ 0 _ rfl; (with_reducible repeat (first | refine blk_drewN ?_ _ | refine blk_drew ?_ | refine blk_alloc ?_ _)); exact BK325.out) hb); have n7_ := Aside0.mk (below_step u11_12 hb); clear HO312; clear HO317; clear HO324; clear BK306; clear BK319; clear BK325; clear HB; have HO312 := n0_; have HO317 := n1_; have HO324 := n2_; have HO330 := n3_; have BK306 := n4_; have BK319 := n5_; have BK325 := n6_; have HB := n7_; clear n0_ n1_ n2_ n3_ n4_ n5_ n6_ n7_; (try clear hb); (try clear hb2); (try clear hk); (try clear hi); (try clear ho0)) | ((with_reducible refine gate_dst (N := 13) rfl ?_); refine box_event ?hg (N := 13) ?hd (cs := #[.int .i64 0, .int .i64 0, .slice none 0 0]) (t := 29) ?hr ?_; (case hd => rfl); (case hg => rfl); (case hr => first | (go_simp; done) | (go_simp; rfl)); intro gb332 hg w53 hbox hb; have n0_ := Aside0.mk (Kd.R_below u11_5 hb); have n1_ := Aside0.mk (Kd.R_below u11_7 hb); have n2_ := Aside0.mk (Kd.R_below u11_9 hb); have n3_ := Aside0.mk (Kd.R_below u11_10 hb); have n4_ := Aside0.mk (blk_below (g := gb306) (o := .cells #[.int .i64 a0_0, .int .i64 a0_1, .slice A0_2 l0_2.length c0_2] 24 (0, 0)) u11_1 hb); have n5_ := Aside0.mk (blk_below (g := gb319) (o := .cells #[.int .i64 t313, .int .i64 t314, .slice Ao44 t315.length co44] 29 (0, 0)) u11_2 hb); have n6_ := Aside0.mk (blk_below (g := gb325) (o := .cells #[.int .i64 t320, .int .i64 t321, .slice Ao51 t322.length co51] 29 (0, 0)) u11_4 hb); have n7_ := Aside0.mk (below_step u11_12 hb); have n8_ := Aside0.mk (hbox); have n9_ := Aside0.mk ((by rw [hg]; exact (below_size u11_12) : w.heap.size ≤ gb332)); have n10_ := Aside0.mk ((by rw [hg]; exact (below_size u11_12) : w.heap.size ≤ gb332)); have n11_ := Aside0.mk ((by rw [hg]; exact Nat.ne_of_lt (blk_lt (g := gb306) (o := .cells #[.int .i64 a0_0, .int .i64 a0_1, .slice A0_2 l0_2.length c0_2] 24 (0, 0)) u11_1) : gb306 ≠ gb332)); have n12_ := Aside0.mk ((by rw [hg]; exact Nat.ne_of_gt (blk_lt (g := gb306) (o := .cells #[.int .i64 a0_0, .int .i64 a0_1, .slice A0_2 l0_2.length c0_2] 24 (0, 0)) u11_1) : gb332 ≠ gb306)); have n13_ := Aside0.mk ((by rw [hg]; exact Nat.ne_of_lt (blk_lt (g := gb319) (o := .cells #[.int .i64 t313, .int .i64 t314, .slice Ao44 t315.length co44] 29 (0, 0)) u11_2) : gb319 ≠ gb332)); have n14_ := Aside0.mk ((by rw [hg]; exact Nat.ne_of_gt (blk_lt (g := gb319) (o := .cells #[.int .i64 t313, .int .i64 t314, .slice Ao44 t315.length co44] 29 (0, 0)) u11_2) : gb332 ≠ gb319)); have n15_ := Aside0.mk ((by rw [hg]; exact Nat.ne_of_lt (blk_lt (g := gb325) (o := .cells #[.int .i64 t320, .int .i64 t321, .slice Ao51 t322.length co51] 29 (0, 0)) u11_4) : gb325 ≠ gb332)); have n16_ := Aside0.mk ((by rw [hg]; exact Nat.ne_of_gt (blk_lt (g := gb325) (o := .cells #[.int .i64 t320, .int .i64 t321, .slice Ao51 t322.length co51] 29 (0, 0)) u11_4) : gb332 ≠ gb325)); clear HO312; clear HO317; clear HO324; clear HO330; clear BK306; clear BK319; clear BK325; clear HB; have HO312 := n0_; have HO317 := n1_; have HO324 := n2_; have HO330 := n3_; have BK306 := n4_; have BK319 := n5_; have BK325 := n6_; have HB := n7_; have BK332 := n8_; have GW332 := n9_; have GE332 := n10_; have NB306_332 := n11_; have NB332_306 := n12_; have NB319_332 := n13_; have NB332_319 := n14_; have NB325_332 := n15_; have NB332_325 := n16_; clear n0_ n1_ n2_ n3_ n4_ n5_ n6_ n7_ n8_ n9_ n10_ n11_ n12_ n13_ n14_ n15_ n16_; clear hb hbox hg; have hnb54 := NB332_306.out; have hnc54 := NB306_332.out; have hnb55 := NB332_319.out; have hnc55 := NB319_332.out; have hnb56 := NB332_325.out; have hnc56 := NB325_332.out; have hcz57_0 : w53.cell? ⟨gb332, 0, none⟩ = some (.int .i64 0) := (blk_cell BK332.out 0).trans rfl; have hcz57_1 : w53.cell? ⟨gb332, 1, none⟩ = some (.int .i64 0) := (blk_cell BK332.out 1).trans rfl; have hcz57_2 : w53.cell? ⟨gb332, 2, none⟩ = some (.slice none 0 0) := (blk_cell BK332.out 2).trans rfl; have hfz57_0 := blk_frozen BK332.out 0; have hfz57_1 := blk_frozen BK332.out 1; have hfz57_2 := blk_frozen BK332.out 2; obtain ⟨Ao58, co58, eo58⟩ := Kd.R_slice HO330.out; subst eo58; have hcz59_0 : w53.cell? ⟨gb319, 0, none⟩ = some (.int .i64 t313) := (blk_cell BK319.out 0).trans rfl; have hcz59_1 : w53.cell? ⟨gb319, 1, none⟩ = some (.int .i64 t314) := (blk_cell BK319.out 1).trans rfl; have hcz59_2 : w53.cell? ⟨gb319, 2, none⟩ = some (.slice Ao44 t315.length co44) := (blk_cell BK319.out 2).trans rfl; have hfz59_0 := blk_frozen BK319.out 0; have hfz59_1 := blk_frozen BK319.out 1; have hfz59_2 := blk_frozen BK319.out 2) | ((with_reducible refine gate_callee (f := 11) rfl ?_); refine goesL_ (some 49) rfl rfl Try.func11 (by kernel_rfl) rfl #[.agg #[.int .i64 t326, .int .i64 t327, .slice Ao58 t328.length co58], .agg #[.int .i64 t313, .int .i64 t314, .slice Ao44 t315.length co44]] rfl u11_3 ?_; (with_reducible refine (laws_eqSessions.calls k t326 t327 _ _ t328 t313 t314 _ _ t315 true _ ?side1 ?side2 ?side3 ?side4 A15.out).mono ?_); (case side1 => exact (by refine (Kd.R_reads' (e := 45) (base := w.heap.size) (ok := fun k_ => (((True ∧ some k_ ≠ (.slice Ao39 t310.length co39 : Value).ownBlock) ∧ some k_ ≠ (.slice Ao44 t315.length co44 : Value).ownBlock) ∧ some k_ ≠ (.slice Ao51 t322.length co51 : Value).ownBlock)) (n := t328.length) (c := co58) ?_).2.2; exact u11_22)); (case side2 => exact (Kd.R_reads' HO330.out).2.1); (case side3 => exact (by refine (Kd.R_reads' (e := 45) (base := w.heap.size) (ok := fun k_ => (((True ∧ some k_ ≠ (.slice Ao39 t310.length co39 : Value).ownBlock) ∧ some k_ ≠ (.slice Ao51 t322.length co51 : Value).ownBlock) ∧ some k_ ≠ (.slice Ao58 t328.length co58 : Value).ownBlock)) (n := t315.length) (c := co44) ?_).2.2; exact u11_23)); (case side4 => exact (Kd.R_reads' HO317.out).2.1); rintro e w60 ⟨rfl, hb⟩; refine ⟨_, rfl, ?_⟩; have n0_ := Aside0.mk (Kd.R_below (by (with_reducible repeat (first | apply Kd.R_alloc | apply Kd.R_drewN | apply Kd.R_drew)); exact (Kd.R_mono (Kd.R_far (p := ⟨gb332, 2, none⟩) (Kd.R_far (p := ⟨gb332, 1, none⟩) (Kd.R_far (p := ⟨gb332, 0, none⟩) (Kd.R_types HO312.out BK332.out (by decide)) (fun _ hk => hk.2) (.int .i64 t326)) (fun _ hk => hk.2) (.int .i64 t327)) (fun _ hk => hk.2) (.slice Ao58 t328.length co58)) (fun _ h_ => h_.1))) hb); have n1_ := Aside0.mk (Kd.R_below u11_23 hb); have n2_ := Aside0.mk (Kd.R_below (by (with_reducible repeat (first | apply Kd.R_alloc | apply Kd.R_drewN | apply Kd.R_drew)); exact (Kd.R_mono (Kd.R_far (p := ⟨gb332, 2, none⟩) (Kd.R_far (p := ⟨gb332, 1, none⟩) (Kd.R_far (p := ⟨gb332, 0, none⟩) (Kd.R_types HO324.out BK332.out (by decide)) (fun _ hk => hk.2) (.int .i64 t326)) (fun _ hk => hk.2) (.int .i64 t327)) (fun _ hk => hk.2) (.slice Ao58 t328.length co58)) (fun _ h_ => h_.1))) hb); have n3_ := Aside0.mk (Kd.R_below u11_22 hb); have n4_ := Aside0.mk (blk_below (g := gb306) (o := .cells #[.int .i64 a0_0, .int .i64 a0_1, .slice A0_2 l0_2.length c0_2] 24 (0, 0)) (by (with_reducible repeat (first | refine blk_drewN ?_ _ | refine blk_drew ?_ | refine blk_alloc ?_ _)); refine blk_far ?_ NB306_332.out _; (with_reducible repeat (first | refine blk_drewN ?_ _ | refine blk_drew ?_ | refine blk_alloc ?_ _)); refine blk_far ?_ NB306_332.out _; (with_reducible repeat (first | refine blk_drewN ?_ _ | refine blk_drew ?_ | refine blk_alloc ?_ _)); refine blk_far ?_ NB306_332.out _; (with_reducible repeat (first | refine blk_drewN ?_ _ | refine blk_drew ?_ | refine blk_alloc ?_ _)); exact BK306.out) hb); have n5_ := Aside0.mk (blk_below (g := gb319) (o := .cells #[.int .i64 t313, .int .i64 t314, .slice Ao44 t315.length co44] 29 (0, 0)) (by (with_reducible repeat (first | refine blk_drewN ?_ _ | refine blk_drew ?_ | refine blk_alloc ?_ _)); refine blk_far ?_ NB319_332.out _; (with_reducible repeat (first | refine blk_drewN ?_ _ | refine blk_drew ?_ | refine blk_alloc ?_ _)); refine blk_far ?_ NB319_332.out _; (with_reducible repeat (first | refine blk_drewN ?_ _ | refine blk_drew ?_ | refine blk_alloc ?_ _)); refine blk_far ?_ NB319_332.out _; (with_reducible repeat (first | refine blk_drewN ?_ _ | refine blk_drew ?_ | refine blk_alloc ?_ _)); exact BK319.out) hb); have n6_ := Aside0.mk (blk_below (g := gb325) (o := .cells #[.int .i64 t320, .int .i64 t321, .slice Ao51 t322.length co51] 29 (0, 0)) (by (with_reducible repeat (first | refine blk_drewN ?_ _ | refine blk_drew ?_ | refine blk_alloc ?_ _)); refine blk_far ?_ NB325_332.out _; (with_reducible repeat (first | refine blk_drewN ?_ _ | refine blk_drew ?_ | refine blk_alloc ?_ _)); refine blk_far ?_ NB325_332.out _; (with_reducible repeat (first | refine blk_drewN ?_ _ | refine blk_drew ?_ | refine blk_alloc ?_ _)); refine blk_far ?_ NB325_332.out _; (with_reducible repeat (first | refine blk_drewN ?_ _ | refine blk_drew ?_ | refine blk_alloc ?_ _)); exact BK325.out) hb); have n7_ := Aside0.mk (blk_below (g := gb332) (o := .cells #[.int .i64 t326, .int .i64 t327, .slice Ao58 t328.length co58] 29 (0, 0)) (by (with_reducible repeat (first | refine blk_drewN ?_ _ | refine blk_drew ?_ | refine blk_alloc ?_ _)); refine blk_put (cs := #[.int .i64 t326, .int .i64 t327, .slice none 0 0]) ?_ 2 _ rfl; (with_reducible repeat (first | refine blk_drewN ?_ _ | refine blk_drew ?_ | refine blk_alloc ?_ _)); refine blk_put (cs := #[.int .i64 t326, .int .i64 0, .slice none 0 0]) ?_ 1 _ rfl; (with_reducible repeat (first | refine blk_drewN ?_ _ | refine blk_drew ?_ | refine blk_alloc ?_ _)); refine blk_put (cs := #[.int .i64 0, .int .i64 0, .slice none 0 0]) ?_ 0 _ rfl; (with_reducible repeat (first | refine blk_drewN ?_ _ | refine blk_drew ?_ | refine blk_alloc ?_ _)); exact BK332.out) hb); have n8_ := Aside0.mk (below_step u11_0 hb); clear HO312; clear HO317; clear HO324; clear HO330; clear BK306; clear BK319; clear BK325; clear BK332; clear HB; have HO312 := n0_; have HO317 := n1_; have HO324 := n2_; have HO330 := n3_; have BK306 := n4_; have BK319 := n5_; have BK325 := n6_; have BK332 := n7_; have HB := n8_; clear n0_ n1_ n2_ n3_ n4_ n5_ n6_ n7_ n8_; (try clear hb); (try clear hb2); (try clear hk); (try clear hi)))
  have n0_ := Aside0.mk (Kd.R_drew HO312.out)
  have n1_ := Aside0.mk (Kd.R_drew HO317.out)
  have n2_ := Aside0.mk (Kd.R_drew HO324.out)
  have n3_ := Aside0.mk (Kd.R_drew HO330.out)
  have n4_ := Aside0.mk (blk_drew BK306.out)
  have n5_ := Aside0.mk (blk_drew BK319.out)
  have n6_ := Aside0.mk (blk_drew BK325.out)
  have n7_ := Aside0.mk (blk_drew BK332.out)
  have n8_ := Aside0.mk (below_drew1 HB.out)
  clear HO312
  clear HO317
  clear HO324
  clear HO330
  clear BK306
  clear BK319
  clear BK325
  clear BK332
  clear HB
  have HO312 := n0_
  have HO317 := n1_
  have HO324 := n2_
  have HO330 := n3_
  have BK306 := n4_
  have BK319 := n5_
  have BK325 := n6_
  have BK332 := n7_
  have HB := n8_
  clear n0_ n1_ n2_ n3_ n4_ n5_ n6_ n7_ n8_
  refine start_ (n := 5) (S := fun w' => w'.cell? ⟨gb325, 0, none⟩ = some (.int .i64 t320) ∧ w'.cell? ⟨gb325, 1, none⟩ = some (.int .i64 t321) ∧ w'.cell? ⟨gb325, 2, none⟩ = some (.slice Ao51 t322.length co51) ∧ w'.cell? ⟨gb306, 0, none⟩ = some (.int .i64 a0_0) ∧ w'.cell? ⟨gb306, 1, none⟩ = some (.int .i64 a0_1) ∧ w'.cell? ⟨gb306, 2, none⟩ = some (.slice A0_2 l0_2.length c0_2)) (ds := []) #[false, false, false, false, false] (by kernel_rfl) rfl rfl ⟨(blk_cell BK325.out 0).trans rfl, (blk_cell BK325.out 1).trans rfl, (blk_cell BK325.out 2).trans rfl, (blk_cell BK306.out 0).trans rfl, (blk_cell BK306.out 1).trans rfl, (blk_cell BK306.out 2).trans rfl⟩ (fun hHeld => ?_)
  generalize w60.drew = w61 at HO312 HO317 HO324 HO330 BK306 BK319 BK325 BK332 HB hHeld ⊢
  refine take_ (i := 0) (N := some 56) (v := ?_) (a' := ?_) #[true, false, false, false, false] rfl rfl (by kernel_rfl) (fun _ _ _ h => h) (Or.inl ⟨by rfl, ?_⟩) hHeld ?_ ?_
  rotate_left
  · rintro w' ⟨s0, s1, s2, s3, s4, s5⟩
    go_simp
    with_reducible rfl
  rotate_left
  · simp only [Act.put, List.setIfInBounds_toArray, List.set_cons_zero, List.set_cons_succ, i64_w, i32_w]
    rfl
  refine take_ (i := 1) (N := some 57) (v := ?_) (a' := ?_) #[true, true, false, false, false] rfl rfl (by kernel_rfl) (fun _ _ _ h => h) (Or.inl ⟨by rfl, ?_⟩) hHeld ?_ ?_
  rotate_left
  · rintro w' ⟨s0, s1, s2, s3, s4, s5⟩
    go_simp
    with_reducible rfl
  rotate_left
  · simp only [Act.put, List.setIfInBounds_toArray, List.set_cons_zero, List.set_cons_succ, i64_w, i32_w]
    rfl
  refine one_ (i := 2) (N := some 58) #[true, true, true, false, false] rfl rfl (by kernel_rfl) (by decide) (fun K hK => ?_)
  refine goes_ Try.func9 (by kernel_rfl) rfl #[.agg #[.int .i64 a0_0, .int .i64 a0_1, .slice A0_2 l0_2.length c0_2]] (by rfl) rfl rfl u11_3 ?_
  with_reducible refine (laws_toSessions.calls k a0_0 a0_1 _ _ l0_2 t334 t335 t336 _ ?side1 ?side2 A18.out).mono ?_
  (case side1 => exact u11_15)
  (case side2 => exact HC0_2.out)
  rintro e w62 ⟨v337, rfl, ho0, hb⟩
  refine ⟨_, rfl, ?_⟩
  have n0_ := Aside0.mk (Kd.R_elder' u11_5 (Kd.R_base ho0) hb)
  have n1_ := Aside0.mk (Kd.R_elder' u11_7 (Kd.R_base ho0) hb)
  have n2_ := Aside0.mk (Kd.R_elder' u11_9 (Kd.R_base ho0) hb)
  have n3_ := Aside0.mk (Kd.R_elder' u11_10 (Kd.R_base ho0) hb)
  have n4_ := Aside0.mk (Kd.R_lower (Kd.R_new' (Kd.R_new' (Kd.R_new' (Kd.R_new' ho0 (Kd.R_lt u11_5)) (Kd.R_lt u11_7)) (Kd.R_lt u11_9)) (Kd.R_lt u11_10)) (below_size u11_0))
  have n5_ := Aside0.mk (blk_below (g := gb306) (o := .cells #[.int .i64 a0_0, .int .i64 a0_1, .slice A0_2 l0_2.length c0_2] 24 (0, 0)) u11_1 hb)
  have n6_ := Aside0.mk (blk_below (g := gb319) (o := .cells #[.int .i64 t313, .int .i64 t314, .slice Ao44 t315.length co44] 29 (0, 0)) u11_2 hb)
  have n7_ := Aside0.mk (blk_below (g := gb325) (o := .cells #[.int .i64 t320, .int .i64 t321, .slice Ao51 t322.length co51] 29 (0, 0)) u11_4 hb)
  have n8_ := Aside0.mk (blk_below (g := gb332) (o := .cells #[.int .i64 t326, .int .i64 t327, .slice Ao58 t328.length co58] 29 (0, 0)) u11_8 hb)
  have n9_ := Aside0.mk (below_step u11_0 hb)
  clear HO312
  clear HO317
  clear HO324
  clear HO330
  clear BK306
  clear BK319
  clear BK325
  clear BK332
  clear HB
  have HO312 := n0_
  have HO317 := n1_
  have HO324 := n2_
  have HO330 := n3_
  have HO338 := n4_
  have BK306 := n5_
  have BK319 := n6_
  have BK325 := n7_
  have BK332 := n8_
  have HB := n9_
  clear n0_ n1_ n2_ n3_ n4_ n5_ n6_ n7_ n8_ n9_
  (try clear hb)
  (try clear hb2)
  (try clear hk)
  (try clear hi)
  (try clear ho0)
  obtain ⟨Ao63, co63, eo63⟩ := Kd.R_slice HO338.out
  (first | subst eo63 | (injection eo63 with f1_ f2_ f3_; have f4_ := f1_.symm; have f5_ := f3_.symm; clear f1_ f2_ f3_; subst f4_; subst f5_))
  refine hK.out _ _ ⟨(blk_cell BK325.out 0).trans rfl, (blk_cell BK325.out 1).trans rfl, (blk_cell BK325.out 2).trans rfl, (blk_cell BK306.out 0).trans rfl, (blk_cell BK306.out 1).trans rfl, (blk_cell BK306.out 2).trans rfl⟩ (fun hHeld => ?_)
  clear hK K
  refine norm_ (a' := ?_) ?_ ?_
  rotate_left
  · show Act.put _ (some 58) _ = _
    simp only [Act.put, List.setIfInBounds_toArray, List.set_cons_zero, List.set_cons_succ, i64_w, i32_w]
    rfl
  refine one_ (i := 3) (N := some 59) #[true, true, true, true, false] rfl rfl (by kernel_rfl) (by decide) (fun K hK => ?_)
  refine goes_ Try.func11 (by kernel_rfl) rfl #[.agg #[.int .i64 t320, .int .i64 t321, .slice Ao51 t322.length co51], .agg #[.int .i64 t334, .int .i64 t335, .slice Ao63 t336.length co63]] (by rfl) rfl rfl u11_3 ?_
  with_reducible refine (laws_eqSessions.calls k t320 t321 _ _ t322 t334 t335 _ _ t336 true _ ?side1 ?side2 ?side3 ?side4 A19.out).mono ?_
  (case side1 => exact (by repeat (first | exact (Kd.R_reads' HO324.out).2.2 | (with_reducible refine Kd.C_alloc ?_ _) | (with_reducible refine Kd.C_drewN ?_ _) | (with_reducible refine Kd.C_drew ?_))))
  (case side2 => exact (Kd.R_reads' HO324.out).2.1)
  (case side3 => exact (by repeat (first | exact (Kd.R_reads' HO338.out).2.2 | (with_reducible refine Kd.C_alloc ?_ _) | (with_reducible refine Kd.C_drewN ?_ _) | (with_reducible refine Kd.C_drew ?_))))
  (case side4 => exact (Kd.R_reads' HO338.out).2.1)
  rintro e w64 ⟨rfl, hb⟩
  refine ⟨_, rfl, ?_⟩
  have n0_ := Aside0.mk (Kd.R_below u11_5 hb)
  have n1_ := Aside0.mk (Kd.R_below u11_7 hb)
  have n2_ := Aside0.mk (Kd.R_below u11_9 hb)
  have n3_ := Aside0.mk (Kd.R_below u11_10 hb)
  have n4_ := Aside0.mk (Kd.R_below u11_13 hb)
  have n5_ := Aside0.mk (blk_below (g := gb306) (o := .cells #[.int .i64 a0_0, .int .i64 a0_1, .slice A0_2 l0_2.length c0_2] 24 (0, 0)) u11_1 hb)
  have n6_ := Aside0.mk (blk_below (g := gb319) (o := .cells #[.int .i64 t313, .int .i64 t314, .slice Ao44 t315.length co44] 29 (0, 0)) u11_2 hb)
  have n7_ := Aside0.mk (blk_below (g := gb325) (o := .cells #[.int .i64 t320, .int .i64 t321, .slice Ao51 t322.length co51] 29 (0, 0)) u11_4 hb)
  have n8_ := Aside0.mk (blk_below (g := gb332) (o := .cells #[.int .i64 t326, .int .i64 t327, .slice Ao58 t328.length co58] 29 (0, 0)) u11_8 hb)
  have n9_ := Aside0.mk (below_step u11_0 hb)
  clear HO312
  clear HO317
  clear HO324
  clear HO330
  clear HO338
  clear BK306
  clear BK319
  clear BK325
  clear BK332
  clear HB
  have HO312 := n0_
  have HO317 := n1_
  have HO324 := n2_
  have HO330 := n3_
  have HO338 := n4_
  have BK306 := n5_
  have BK319 := n6_
  have BK325 := n7_
  have BK332 := n8_
  have HB := n9_
  clear n0_ n1_ n2_ n3_ n4_ n5_ n6_ n7_ n8_ n9_
  (try clear hb)
  (try clear hb2)
  (try clear hk)
  (try clear hi)
  refine hK.out _ _ ⟨(blk_cell BK325.out 0).trans rfl, (blk_cell BK325.out 1).trans rfl, (blk_cell BK325.out 2).trans rfl, (blk_cell BK306.out 0).trans rfl, (blk_cell BK306.out 1).trans rfl, (blk_cell BK306.out 2).trans rfl⟩ (fun hHeld => ?_)
  clear hK K
  refine norm_ (a' := ?_) ?_ ?_
  rotate_left
  · show Act.put _ (some 59) _ = _
    simp only [Act.put, List.setIfInBounds_toArray, List.set_cons_zero, List.set_cons_succ, i64_w, i32_w]
    rfl
  refine pure_ (i := 4) (N := some 60) (v := ?_) (a' := ?_) #[true, true, true, true, true] rfl rfl (by kernel_rfl) (fun _ _ _ h => h) (Or.inl ⟨by rfl, ?_⟩) ?_ ?_
  rotate_left
  · intro w'
    go_simp
    with_reducible rfl
  rotate_left
  · simp only [Act.put, List.setIfInBounds_toArray, List.set_cons_zero, List.set_cons_succ, i64_w, i32_w]
    rfl
  refine done_ (by kernel_rfl) ?_
  have hcz65_0 : w64.cell? ⟨gb325, 0, none⟩ = some (.int .i64 t320) := (blk_cell BK325.out 0).trans rfl
  have hcz65_1 : w64.cell? ⟨gb325, 1, none⟩ = some (.int .i64 t321) := (blk_cell BK325.out 1).trans rfl
  have hcz65_2 : w64.cell? ⟨gb325, 2, none⟩ = some (.slice Ao51 t322.length co51) := (blk_cell BK325.out 2).trans rfl
  have hfz65_0 := blk_frozen BK325.out 0
  have hfz65_1 := blk_frozen BK325.out 1
  have hfz65_2 := blk_frozen BK325.out 2
  try go_wp2_with (first | ((with_reducible refine gate_callee (f := 16) rfl ?_); refine goesL_ (some 63) rfl rfl Try.func16 (by kernel_rfl) rfl #[.agg #[.int .i64 t320, .int .i64 t321, .slice Ao51 t322.length co51], .int .i64 1] rfl u11_3 ?_; (with_reducible refine (laws_markSessions.calls k t320 t321 (fun k_ => some k_ = (.slice Ao51 t322.length co51 : Value).ownBlock) (.slice Ao51 t322.length co51) t322 1 t340 t341 w _ ?side1 ?side2 A21.out).mono ?_); (case side1 => exact u11_0); (case side2 => exact Kd.R_tight rfl HO324.out); rintro e w66 ⟨rfl, hy0, hb, hkp⟩; refine ⟨_, rfl, ?_⟩; have n0_ := Aside0.mk (blk_kept u11_1 hkp (fun hs_ => (fun e_ => (Kd.R_ne HO324.out BK306.out (by decide)) e_) hs_)); have n1_ := Aside0.mk (Kd.R_mono (ok' := fun k_ => some k_ ≠ (.slice Ao44 t315.length co44 : Value).ownBlock ∧ some k_ ≠ (.slice Ao51 t322.length co51 : Value).ownBlock ∧ some k_ ≠ (.slice Ao58 t328.length co58 : Value).ownBlock ∧ some k_ ≠ (.slice Ao63 t336.length co63 : Value).ownBlock) (Kd.R_keptB (HO312.out) hkp (fun k_ hk_ hs_ => (hk_.1.1.2) hs_)) (fun k_ hk_ => ⟨hk_.1.1.1.1.2, hk_.1.1.1.2, hk_.1.1.2, hk_.1.2⟩)); have n2_ := Aside0.mk (Kd.R_mono (ok' := fun k_ => some k_ ≠ (.slice Ao39 t310.length co39 : Value).ownBlock ∧ some k_ ≠ (.slice Ao51 t322.length co51 : Value).ownBlock ∧ some k_ ≠ (.slice Ao58 t328.length co58 : Value).ownBlock ∧ some k_ ≠ (.slice Ao63 t336.length co63 : Value).ownBlock) (Kd.R_keptB (HO317.out) hkp (fun k_ hk_ hs_ => (hk_.1.1.2) hs_)) (fun k_ hk_ => ⟨hk_.1.1.1.1.2, hk_.1.1.1.2, hk_.1.1.2, hk_.1.2⟩)); have n3_ := Aside0.mk (blk_kept u11_2 hkp (fun hs_ => (fun e_ => (Kd.R_ne HO324.out BK319.out (by decide)) e_) hs_)); have n4_ := Aside0.mk (Kd.R_reok rfl hy0 (fun k_ e_ => HO324.out.1 k_ e_)); have n5_ := Aside0.mk (blk_kept u11_4 hkp (fun hs_ => (fun e_ => (Kd.R_ne HO324.out BK325.out (by decide)) e_) hs_)); have n6_ := Aside0.mk (Kd.R_mono (ok' := fun k_ => some k_ ≠ (.slice Ao39 t310.length co39 : Value).ownBlock ∧ some k_ ≠ (.slice Ao44 t315.length co44 : Value).ownBlock ∧ some k_ ≠ (.slice Ao51 t322.length co51 : Value).ownBlock ∧ some k_ ≠ (.slice Ao63 t336.length co63 : Value).ownBlock) (Kd.R_keptB (HO330.out) hkp (fun k_ hk_ hs_ => (hk_.1.2) hs_)) (fun k_ hk_ => ⟨hk_.1.1.1.1.2, hk_.1.1.1.2, hk_.1.1.2, hk_.1.2⟩)); have n7_ := Aside0.mk (blk_kept u11_8 hkp (fun hs_ => (fun e_ => (Kd.R_ne HO324.out BK332.out (by decide)) e_) hs_)); have n8_ := Aside0.mk (Kd.R_mono (ok' := fun k_ => some k_ ≠ (.slice Ao39 t310.length co39 : Value).ownBlock ∧ some k_ ≠ (.slice Ao44 t315.length co44 : Value).ownBlock ∧ some k_ ≠ (.slice Ao51 t322.length co51 : Value).ownBlock ∧ some k_ ≠ (.slice Ao58 t328.length co58 : Value).ownBlock) (Kd.R_keptB (HO338.out) hkp (fun k_ hk_ hs_ => (hk_.1.2) hs_)) (fun k_ hk_ => ⟨hk_.1.1.1.1.2, hk_.1.1.1.2, hk_.1.1.2, hk_.1.2⟩)); have n9_ := Aside0.mk (hb); clear BK306; clear HO312; clear HO317; clear BK319; clear HO324; clear BK325; clear HO330; clear BK332; clear HO338; clear HB; have BK306 := n0_; have HO312 := n1_; have HO317 := n2_; have BK319 := n3_; have HO324 := n4_; have BK325 := n5_; have HO330 := n6_; have BK332 := n7_; have HO338 := n8_; have HB := n9_; clear n0_ n1_ n2_ n3_ n4_ n5_ n6_ n7_ n8_ n9_; (try clear hb); (try clear hkp); (try clear hy0); have hcz67_0 : w66.cell? ⟨gb332, 0, none⟩ = some (.int .i64 t326) := (blk_cell BK332.out 0).trans rfl; have hcz67_1 : w66.cell? ⟨gb332, 1, none⟩ = some (.int .i64 t327) := (blk_cell BK332.out 1).trans rfl; have hcz67_2 : w66.cell? ⟨gb332, 2, none⟩ = some (.slice Ao58 t328.length co58) := (blk_cell BK332.out 2).trans rfl; have hfz67_0 := blk_frozen BK332.out 0; have hfz67_1 := blk_frozen BK332.out 1; have hfz67_2 := blk_frozen BK332.out 2; have hcz68_0 : w66.cell? ⟨gb319, 0, none⟩ = some (.int .i64 t313) := (blk_cell BK319.out 0).trans rfl; have hcz68_1 : w66.cell? ⟨gb319, 1, none⟩ = some (.int .i64 t314) := (blk_cell BK319.out 1).trans rfl; have hcz68_2 : w66.cell? ⟨gb319, 2, none⟩ = some (.slice Ao44 t315.length co44) := (blk_cell BK319.out 2).trans rfl; have hfz68_0 := blk_frozen BK319.out 0; have hfz68_1 := blk_frozen BK319.out 1; have hfz68_2 := blk_frozen BK319.out 2) | (go_at_call 11; (with_reducible refine (laws_eqSessions.calls k t326 t327 _ _ t328 t313 t314 _ _ t315 true _ ?side1 ?side2 ?side3 ?side4 A23.out).mono ?_); (case side1 => exact u11_28); (case side2 => exact (Kd.R_reads' HO330.out).2.1); (case side3 => exact (by repeat (first | exact (Kd.R_reads' HO317.out).2.2 | (with_reducible refine Kd.C_alloc ?_ _) | (with_reducible refine Kd.C_drewN ?_ _) | (with_reducible refine Kd.C_drew ?_)))); (case side4 => exact (Kd.R_reads' HO317.out).2.1); rintro e w69 ⟨rfl, hb⟩; have n0_ := Aside0.mk (Kd.R_below u11_5 hb); have n1_ := Aside0.mk (Kd.R_below u11_7 hb); have n2_ := Aside0.mk (Kd.R_below u11_9 hb); have n3_ := Aside0.mk (Kd.R_below u11_10 hb); have n4_ := Aside0.mk (Kd.R_below u11_13 hb); have n5_ := Aside0.mk (blk_below (g := gb306) (o := .cells #[.int .i64 a0_0, .int .i64 a0_1, .slice A0_2 l0_2.length c0_2] 24 (0, 0)) u11_1 hb); have n6_ := Aside0.mk (blk_below (g := gb319) (o := .cells #[.int .i64 t313, .int .i64 t314, .slice Ao44 t315.length co44] 29 (0, 0)) u11_2 hb); have n7_ := Aside0.mk (blk_below (g := gb325) (o := .cells #[.int .i64 t320, .int .i64 t321, .slice Ao51 t322.length co51] 29 (0, 0)) u11_4 hb); have n8_ := Aside0.mk (blk_below (g := gb332) (o := .cells #[.int .i64 t326, .int .i64 t327, .slice Ao58 t328.length co58] 29 (0, 0)) u11_8 hb); have n9_ := Aside0.mk (below_step u11_0 hb); clear HO312; clear HO317; clear HO324; clear HO330; clear HO338; clear BK306; clear BK319; clear BK325; clear BK332; clear HB; have HO312 := n0_; have HO317 := n1_; have HO324 := n2_; have HO330 := n3_; have HO338 := n4_; have BK306 := n5_; have BK319 := n6_; have BK325 := n7_; have BK332 := n8_; have HB := n9_; clear n0_ n1_ n2_ n3_ n4_ n5_ n6_ n7_ n8_ n9_; (try clear hb); (try clear hb2); (try clear hk); (try clear hi); have hcz70_0 : w69.cell? ⟨gb332, 0, none⟩ = some (.int .i64 t326) := (blk_cell BK332.out 0).trans rfl; have hcz70_1 : w69.cell? ⟨gb332, 1, none⟩ = some (.int .i64 t327) := (blk_cell BK332.out 1).trans rfl; have hcz70_2 : w69.cell? ⟨gb332, 2, none⟩ = some (.slice Ao58 t328.length co58) := (blk_cell BK332.out 2).trans rfl; have hfz70_0 := blk_frozen BK332.out 0; have hfz70_1 := blk_frozen BK332.out 1; have hfz70_2 := blk_frozen BK332.out 2) | ((with_reducible refine gate_callee (f := 16) rfl ?_); refine goesL_ (some 79) rfl rfl Try.func16 (by kernel_rfl) rfl #[.agg #[.int .i64 t326, .int .i64 t327, .slice Ao58 t328.length co58], .int .i64 1] rfl u11_3 ?_; (with_reducible refine (laws_markSessions.calls k t326 t327 (fun k_ => some k_ = (.slice Ao58 t328.length co58 : Value).ownBlock) (.slice Ao58 t328.length co58) t328 1 t343 t344 w _ ?side1 ?side2 A25.out).mono ?_); (case side1 => exact u11_0); (case side2 => exact Kd.R_tight rfl HO330.out); rintro e w71 ⟨rfl, hy0, hb, hkp⟩; refine ⟨_, rfl, ?_⟩; have n0_ := Aside0.mk (blk_kept u11_1 hkp (fun hs_ => (fun e_ => (Kd.R_ne HO330.out BK306.out (by decide)) e_) hs_)); have n1_ := Aside0.mk (Kd.R_mono (ok' := fun k_ => some k_ ≠ (.slice Ao44 t315.length co44 : Value).ownBlock ∧ some k_ ≠ (.slice Ao51 t322.length co51 : Value).ownBlock ∧ some k_ ≠ (.slice Ao58 t328.length co58 : Value).ownBlock ∧ some k_ ≠ (.slice Ao63 t336.length co63 : Value).ownBlock) (Kd.R_keptB (HO312.out) hkp (fun k_ hk_ hs_ => (hk_.2.2.1) hs_)) (fun k_ hk_ => ⟨hk_.1.1, hk_.1.2.1, hk_.1.2.2.1, hk_.1.2.2.2⟩)); have n2_ := Aside0.mk (Kd.R_mono (ok' := fun k_ => some k_ ≠ (.slice Ao39 t310.length co39 : Value).ownBlock ∧ some k_ ≠ (.slice Ao51 t322.length co51 : Value).ownBlock ∧ some k_ ≠ (.slice Ao58 t328.length co58 : Value).ownBlock ∧ some k_ ≠ (.slice Ao63 t336.length co63 : Value).ownBlock) (Kd.R_keptB (HO317.out) hkp (fun k_ hk_ hs_ => (hk_.2.2.1) hs_)) (fun k_ hk_ => ⟨hk_.1.1, hk_.1.2.1, hk_.1.2.2.1, hk_.1.2.2.2⟩)); have n3_ := Aside0.mk (blk_kept u11_2 hkp (fun hs_ => (fun e_ => (Kd.R_ne HO330.out BK319.out (by decide)) e_) hs_)); have n4_ := Aside0.mk (Kd.R_mono (ok' := fun k_ => some k_ ≠ (.slice Ao39 t310.length co39 : Value).ownBlock ∧ some k_ ≠ (.slice Ao44 t315.length co44 : Value).ownBlock ∧ some k_ ≠ (.slice Ao58 t328.length co58 : Value).ownBlock ∧ some k_ ≠ (.slice Ao63 t336.length co63 : Value).ownBlock) (Kd.R_keptB (HO324.out) hkp (fun k_ hk_ hs_ => (hk_.1.2) hs_)) (fun k_ hk_ => ⟨hk_.1.1.1.1.2, hk_.1.1.1.2, hk_.1.1.2, hk_.1.2⟩)); have n5_ := Aside0.mk (blk_kept u11_4 hkp (fun hs_ => (fun e_ => (Kd.R_ne HO330.out BK325.out (by decide)) e_) hs_)); have n6_ := Aside0.mk (Kd.R_reok rfl hy0 (fun k_ e_ => HO330.out.1 k_ e_)); have n7_ := Aside0.mk (blk_kept u11_8 hkp (fun hs_ => (fun e_ => (Kd.R_ne HO330.out BK332.out (by decide)) e_) hs_)); have n8_ := Aside0.mk (Kd.R_mono (ok' := fun k_ => some k_ ≠ (.slice Ao39 t310.length co39 : Value).ownBlock ∧ some k_ ≠ (.slice Ao44 t315.length co44 : Value).ownBlock ∧ some k_ ≠ (.slice Ao51 t322.length co51 : Value).ownBlock ∧ some k_ ≠ (.slice Ao58 t328.length co58 : Value).ownBlock) (Kd.R_keptB (HO338.out) hkp (fun k_ hk_ hs_ => (hk_.2.2.2) hs_)) (fun k_ hk_ => ⟨hk_.1.1, hk_.1.2.1, hk_.1.2.2.1, hk_.1.2.2.2⟩)); have n9_ := Aside0.mk (hb); clear BK306; clear HO312; clear HO317; clear BK319; clear HO324; clear BK325; clear HO330; clear BK332; clear HO338; clear HB; have BK306 := n0_; have HO312 := n1_; have HO317 := n2_; have BK319 := n3_; have HO324 := n4_; have BK325 := n5_; have HO330 := n6_; have BK332 := n7_; have HO338 := n8_; have HB := n9_; clear n0_ n1_ n2_ n3_ n4_ n5_ n6_ n7_ n8_ n9_; (try clear hb); (try clear hkp); (try clear hy0); have hcz72_0 : w71.cell? ⟨gb332, 0, none⟩ = some (.int .i64 t326) := (blk_cell BK332.out 0).trans rfl; have hcz72_1 : w71.cell? ⟨gb332, 1, none⟩ = some (.int .i64 t327) := (blk_cell BK332.out 1).trans rfl; have hcz72_2 : w71.cell? ⟨gb332, 2, none⟩ = some (.slice Ao58 t328.length co58) := (blk_cell BK332.out 2).trans rfl; have hfz72_0 := blk_frozen BK332.out 0; have hfz72_1 := blk_frozen BK332.out 1; have hfz72_2 := blk_frozen BK332.out 2) | ((with_reducible refine gate_callee (f := 17) rfl ?_); refine goesL_ (some 82) rfl rfl Try.func17 (by kernel_rfl) rfl #[.agg #[.int .i64 t326, .int .i64 t327, .slice Ao58 t344.length co58], .int .i64 1] rfl u11_31 ?_; (with_reducible refine (laws_heldSessions.calls k t326 t327 _ _ t344 1 t345 _ ?side1 ?side2 A26.out).mono ?_); (case side1 => exact u11_28); (case side2 => exact u11_32); rintro e w73 ⟨rfl, hb⟩; refine ⟨_, rfl, ?_⟩; have n0_ := Aside0.mk (Kd.R_below u11_5 hb); have n1_ := Aside0.mk (Kd.R_below u11_7 hb); have n2_ := Aside0.mk (Kd.R_below u11_9 hb); have n3_ := Aside0.mk (Kd.R_below u11_10 hb); have n4_ := Aside0.mk (Kd.R_below u11_13 hb); have n5_ := Aside0.mk (blk_below (g := gb306) (o := .cells #[.int .i64 a0_0, .int .i64 a0_1, .slice A0_2 l0_2.length c0_2] 24 (0, 0)) u11_1 hb); have n6_ := Aside0.mk (blk_below (g := gb319) (o := .cells #[.int .i64 t313, .int .i64 t314, .slice Ao44 t315.length co44] 29 (0, 0)) u11_2 hb); have n7_ := Aside0.mk (blk_below (g := gb325) (o := .cells #[.int .i64 t320, .int .i64 t321, .slice Ao51 t322.length co51] 29 (0, 0)) u11_4 hb); have n8_ := Aside0.mk (blk_below (g := gb332) (o := .cells #[.int .i64 t326, .int .i64 t327, .slice Ao58 t328.length co58] 29 (0, 0)) u11_8 hb); have n9_ := Aside0.mk (below_step u11_0 hb); clear HO312; clear HO317; clear HO324; clear HO330; clear HO338; clear BK306; clear BK319; clear BK325; clear BK332; clear HB; have HO312 := n0_; have HO317 := n1_; have HO324 := n2_; have HO330 := n3_; have HO338 := n4_; have BK306 := n5_; have BK319 := n6_; have BK325 := n7_; have BK332 := n8_; have HB := n9_; clear n0_ n1_ n2_ n3_ n4_ n5_ n6_ n7_ n8_ n9_; (try clear hb); (try clear hb2); (try clear hk); (try clear hi); have hcz74_0 : w73.cell? ⟨gb306, 0, none⟩ = some (.int .i64 a0_0) := (blk_cell BK306.out 0).trans rfl; have hcz74_1 : w73.cell? ⟨gb306, 1, none⟩ = some (.int .i64 a0_1) := (blk_cell BK306.out 1).trans rfl; have hcz74_2 : w73.cell? ⟨gb306, 2, none⟩ = some (.slice A0_2 l0_2.length c0_2) := (blk_cell BK306.out 2).trans rfl; have hfz74_0 := blk_frozen BK306.out 0; have hfz74_1 := blk_frozen BK306.out 1; have hfz74_2 := blk_frozen BK306.out 2) | ((with_reducible refine gate_callee (f := 9) rfl ?_); refine goesL_ (some 90) rfl rfl Try.func9 (by kernel_rfl) rfl #[.agg #[.int .i64 a0_0, .int .i64 a0_1, .slice A0_2 l0_2.length c0_2]] rfl u11_3 ?_; (with_reducible refine (laws_toSessions.calls k a0_0 a0_1 _ _ l0_2 t346 t347 t348 _ ?side1 ?side2 A29.out).mono ?_); (case side1 => exact u11_15); (case side2 => exact HC0_2.out); rintro e w75 ⟨v349, rfl, ho0, hb⟩; refine ⟨_, rfl, ?_⟩; have n0_ := Aside0.mk (Kd.R_elder' u11_5 (Kd.R_base ho0) hb); have n1_ := Aside0.mk (Kd.R_elder' u11_7 (Kd.R_base ho0) hb); have n2_ := Aside0.mk (Kd.R_elder' u11_9 (Kd.R_base ho0) hb); have n3_ := Aside0.mk (Kd.R_elder' u11_10 (Kd.R_base ho0) hb); have n4_ := Aside0.mk (Kd.R_elder' u11_13 (Kd.R_base ho0) hb); have n5_ := Aside0.mk (Kd.R_lower (Kd.R_new' (Kd.R_new' (Kd.R_new' (Kd.R_new' (Kd.R_new' ho0 (Kd.R_lt u11_5)) (Kd.R_lt u11_7)) (Kd.R_lt u11_9)) (Kd.R_lt u11_10)) (Kd.R_lt u11_13)) (below_size u11_0)); have n6_ := Aside0.mk (blk_below (g := gb306) (o := .cells #[.int .i64 a0_0, .int .i64 a0_1, .slice A0_2 l0_2.length c0_2] 24 (0, 0)) u11_1 hb); have n7_ := Aside0.mk (blk_below (g := gb319) (o := .cells #[.int .i64 t313, .int .i64 t314, .slice Ao44 t315.length co44] 29 (0, 0)) u11_2 hb); have n8_ := Aside0.mk (blk_below (g := gb325) (o := .cells #[.int .i64 t320, .int .i64 t321, .slice Ao51 t322.length co51] 29 (0, 0)) u11_4 hb); have n9_ := Aside0.mk (blk_below (g := gb332) (o := .cells #[.int .i64 t326, .int .i64 t327, .slice Ao58 t328.length co58] 29 (0, 0)) u11_8 hb); have n10_ := Aside0.mk (below_step u11_0 hb); clear HO312; clear HO317; clear HO324; clear HO330; clear HO338; clear BK306; clear BK319; clear BK325; clear BK332; clear HB; have HO312 := n0_; have HO317 := n1_; have HO324 := n2_; have HO330 := n3_; have HO338 := n4_; have HO350 := n5_; have BK306 := n6_; have BK319 := n7_; have BK325 := n8_; have BK332 := n9_; have HB := n10_; clear n0_ n1_ n2_ n3_ n4_ n5_ n6_ n7_ n8_ n9_ n10_; (try clear hb); (try clear hb2); (try clear hk); (try clear hi); (try clear ho0); obtain ⟨Ao76, co76, eo76⟩ := Kd.R_slice HO350.out; subst eo76) | ((with_reducible refine gate_callee (f := 19) rfl ?_); refine goesL_ (some 94) rfl rfl Try.func19 (by kernel_rfl) rfl #[.agg #[.int .i64 t346, .int .i64 t347, .slice Ao76 t348.length co76], .int .i64 a1, .int .i64 a2, .string a3] rfl u11_3 ?_; (with_reducible refine (impl_Keep.calls k t346 t347 _ _ t348 a1 a2 a3 t351 t352 t353 t356 _ ?side1 ?side2 A30.out).mono ?_); (case side1 => exact (by repeat (first | exact (Kd.R_reads' HO350.out).2.2 | (with_reducible refine Kd.C_alloc ?_ _) | (with_reducible refine Kd.C_drewN ?_ _) | (with_reducible refine Kd.C_drew ?_)))); (case side2 => exact (Kd.R_reads' HO350.out).2.1); rintro e w77 ⟨v354, rfl, ho0, hb⟩; refine ⟨_, rfl, ?_⟩; have n0_ := Aside0.mk (Kd.R_elder' u11_5 (Kd.R_base ho0) hb); have n1_ := Aside0.mk (Kd.R_elder' u11_7 (Kd.R_base ho0) hb); have n2_ := Aside0.mk (Kd.R_elder' u11_9 (Kd.R_base ho0) hb); have n3_ := Aside0.mk (Kd.R_elder' u11_10 (Kd.R_base ho0) hb); have n4_ := Aside0.mk (Kd.R_elder' u11_13 (Kd.R_base ho0) hb); have n5_ := Aside0.mk (Kd.R_elder' u11_30 (Kd.R_base ho0) hb); have n6_ := Aside0.mk (Kd.R_lower (Kd.R_new' (Kd.R_new' (Kd.R_new' (Kd.R_new' (Kd.R_new' (Kd.R_new' ho0 (Kd.R_lt u11_5)) (Kd.R_lt u11_7)) (Kd.R_lt u11_9)) (Kd.R_lt u11_10)) (Kd.R_lt u11_13)) (Kd.R_lt u11_30)) (below_size u11_0)); have n7_ := Aside0.mk (blk_below (g := gb306) (o := .cells #[.int .i64 a0_0, .int .i64 a0_1, .slice A0_2 l0_2.length c0_2] 24 (0, 0)) u11_1 hb); have n8_ := Aside0.mk (blk_below (g := gb319) (o := .cells #[.int .i64 t313, .int .i64 t314, .slice Ao44 t315.length co44] 29 (0, 0)) u11_2 hb); have n9_ := Aside0.mk (blk_below (g := gb325) (o := .cells #[.int .i64 t320, .int .i64 t321, .slice Ao51 t322.length co51] 29 (0, 0)) u11_4 hb); have n10_ := Aside0.mk (blk_below (g := gb332) (o := .cells #[.int .i64 t326, .int .i64 t327, .slice Ao58 t328.length co58] 29 (0, 0)) u11_8 hb); have n11_ := Aside0.mk (below_step u11_0 hb); clear HO312; clear HO317; clear HO324; clear HO330; clear HO338; clear HO350; clear BK306; clear BK319; clear BK325; clear BK332; clear HB; have HO312 := n0_; have HO317 := n1_; have HO324 := n2_; have HO330 := n3_; have HO338 := n4_; have HO350 := n5_; have HO355 := n6_; have BK306 := n7_; have BK319 := n8_; have BK325 := n9_; have BK332 := n10_; have HB := n11_; clear n0_ n1_ n2_ n3_ n4_ n5_ n6_ n7_ n8_ n9_ n10_ n11_; (try clear hb); (try clear hb2); (try clear hk); (try clear hi); (try clear ho0)) | ((with_reducible refine gate_dst (N := 18) rfl ?_); refine box_event ?hg (N := 18) ?hd (cs := #[.int .i64 0, .int .i64 0, .slice none 0 0]) (t := 29) ?hr ?_; (case hd => rfl); (case hg => rfl); (case hr => first | (go_simp; done) | (go_simp; rfl)); intro gb357 hg w78 hbox hb; have n0_ := Aside0.mk (Kd.R_below u11_5 hb); have n1_ := Aside0.mk (Kd.R_below u11_7 hb); have n2_ := Aside0.mk (Kd.R_below u11_9 hb); have n3_ := Aside0.mk (Kd.R_below u11_10 hb); have n4_ := Aside0.mk (Kd.R_below u11_13 hb); have n5_ := Aside0.mk (Kd.R_below u11_30 hb); have n6_ := Aside0.mk (Kd.R_below u11_33 hb); have n7_ := Aside0.mk (blk_below (g := gb306) (o := .cells #[.int .i64 a0_0, .int .i64 a0_1, .slice A0_2 l0_2.length c0_2] 24 (0, 0)) u11_1 hb); have n8_ := Aside0.mk (blk_below (g := gb319) (o := .cells #[.int .i64 t313, .int .i64 t314, .slice Ao44 t315.length co44] 29 (0, 0)) u11_2 hb); have n9_ := Aside0.mk (blk_below (g := gb325) (o := .cells #[.int .i64 t320, .int .i64 t321, .slice Ao51 t322.length co51] 29 (0, 0)) u11_4 hb); have n10_ := Aside0.mk (blk_below (g := gb332) (o := .cells #[.int .i64 t326, .int .i64 t327, .slice Ao58 t328.length co58] 29 (0, 0)) u11_8 hb); have n11_ := Aside0.mk (below_step u11_0 hb); have n12_ := Aside0.mk (hbox); have n13_ := Aside0.mk ((by rw [hg]; exact (below_size u11_0) : w.heap.size ≤ gb357)); have n14_ := Aside0.mk ((by rw [hg]; exact (below_size u11_0) : w.heap.size ≤ gb357)); have n15_ := Aside0.mk ((by rw [hg]; exact Nat.ne_of_lt (blk_lt (g := gb306) (o := .cells #[.int .i64 a0_0, .int .i64 a0_1, .slice A0_2 l0_2.length c0_2] 24 (0, 0)) u11_1) : gb306 ≠ gb357)); have n16_ := Aside0.mk ((by rw [hg]; exact Nat.ne_of_gt (blk_lt (g := gb306) (o := .cells #[.int .i64 a0_0, .int .i64 a0_1, .slice A0_2 l0_2.length c0_2] 24 (0, 0)) u11_1) : gb357 ≠ gb306)); have n17_ := Aside0.mk ((by rw [hg]; exact Nat.ne_of_lt (blk_lt (g := gb319) (o := .cells #[.int .i64 t313, .int .i64 t314, .slice Ao44 t315.length co44] 29 (0, 0)) u11_2) : gb319 ≠ gb357)); have n18_ := Aside0.mk ((by rw [hg]; exact Nat.ne_of_gt (blk_lt (g := gb319) (o := .cells #[.int .i64 t313, .int .i64 t314, .slice Ao44 t315.length co44] 29 (0, 0)) u11_2) : gb357 ≠ gb319)); have n19_ := Aside0.mk ((by rw [hg]; exact Nat.ne_of_lt (blk_lt (g := gb325) (o := .cells #[.int .i64 t320, .int .i64 t321, .slice Ao51 t322.length co51] 29 (0, 0)) u11_4) : gb325 ≠ gb357)); have n20_ := Aside0.mk ((by rw [hg]; exact Nat.ne_of_gt (blk_lt (g := gb325) (o := .cells #[.int .i64 t320, .int .i64 t321, .slice Ao51 t322.length co51] 29 (0, 0)) u11_4) : gb357 ≠ gb325)); have n21_ := Aside0.mk ((by rw [hg]; exact Nat.ne_of_lt (blk_lt (g := gb332) (o := .cells #[.int .i64 t326, .int .i64 t327, .slice Ao58 t328.length co58] 29 (0, 0)) u11_8) : gb332 ≠ gb357)); have n22_ := Aside0.mk ((by rw [hg]; exact Nat.ne_of_gt (blk_lt (g := gb332) (o := .cells #[.int .i64 t326, .int .i64 t327, .slice Ao58 t328.length co58] 29 (0, 0)) u11_8) : gb357 ≠ gb332)); clear HO312; clear HO317; clear HO324; clear HO330; clear HO338; clear HO350; clear HO355; clear BK306; clear BK319; clear BK325; clear BK332; clear HB; have HO312 := n0_; have HO317 := n1_; have HO324 := n2_; have HO330 := n3_; have HO338 := n4_; have HO350 := n5_; have HO355 := n6_; have BK306 := n7_; have BK319 := n8_; have BK325 := n9_; have BK332 := n10_; have HB := n11_; have BK357 := n12_; have GW357 := n13_; have GE357 := n14_; have NB306_357 := n15_; have NB357_306 := n16_; have NB319_357 := n17_; have NB357_319 := n18_; have NB325_357 := n19_; have NB357_325 := n20_; have NB332_357 := n21_; have NB357_332 := n22_; clear n0_ n1_ n2_ n3_ n4_ n5_ n6_ n7_ n8_ n9_ n10_ n11_ n12_ n13_ n14_ n15_ n16_ n17_ n18_ n19_ n20_ n21_ n22_; clear hb hbox hg; have hnb79 := NB357_306.out; have hnc79 := NB306_357.out; have hnb80 := NB357_319.out; have hnc80 := NB319_357.out; have hnb81 := NB357_325.out; have hnc81 := NB325_357.out; have hnb82 := NB357_332.out; have hnc82 := NB332_357.out; have hcz83_0 : w78.cell? ⟨gb357, 0, none⟩ = some (.int .i64 0) := (blk_cell BK357.out 0).trans rfl; have hcz83_1 : w78.cell? ⟨gb357, 1, none⟩ = some (.int .i64 0) := (blk_cell BK357.out 1).trans rfl; have hcz83_2 : w78.cell? ⟨gb357, 2, none⟩ = some (.slice none 0 0) := (blk_cell BK357.out 2).trans rfl; have hfz83_0 := blk_frozen BK357.out 0; have hfz83_1 := blk_frozen BK357.out 1; have hfz83_2 := blk_frozen BK357.out 2; obtain ⟨Ao84, co84, eo84⟩ := Kd.R_slice HO355.out; subst eo84; have hcz85_0 : w78.cell? ⟨gb319, 0, none⟩ = some (.int .i64 t313) := (blk_cell BK319.out 0).trans rfl; have hcz85_1 : w78.cell? ⟨gb319, 1, none⟩ = some (.int .i64 t314) := (blk_cell BK319.out 1).trans rfl; have hcz85_2 : w78.cell? ⟨gb319, 2, none⟩ = some (.slice Ao44 t315.length co44) := (blk_cell BK319.out 2).trans rfl; have hfz85_0 := blk_frozen BK319.out 0; have hfz85_1 := blk_frozen BK319.out 1; have hfz85_2 := blk_frozen BK319.out 2) | ((with_reducible refine gate_callee (f := 11) rfl ?_); refine goesL_ (some 99) rfl rfl Try.func11 (by kernel_rfl) rfl #[.agg #[.int .i64 t351, .int .i64 t352, .slice Ao84 t353.length co84], .agg #[.int .i64 t313, .int .i64 t314, .slice Ao44 t315.length co44]] rfl u11_3 ?_; (with_reducible refine (laws_eqSessions.calls k t351 t352 _ _ t353 t313 t314 _ _ t315 true _ ?side1 ?side2 ?side3 ?side4 A31.out).mono ?_); (case side1 => exact (by refine (Kd.R_reads' (e := 45) (base := w.heap.size) (ok := fun k_ => ((((((True ∧ some k_ ≠ (.slice Ao39 t310.length co39 : Value).ownBlock) ∧ some k_ ≠ (.slice Ao44 t315.length co44 : Value).ownBlock) ∧ some k_ ≠ (.slice Ao51 t322.length co51 : Value).ownBlock) ∧ some k_ ≠ (.slice Ao58 t328.length co58 : Value).ownBlock) ∧ some k_ ≠ (.slice Ao63 t336.length co63 : Value).ownBlock) ∧ some k_ ≠ (.slice Ao76 t348.length co76 : Value).ownBlock)) (n := t353.length) (c := co84) ?_).2.2; exact u11_24)); (case side2 => exact (Kd.R_reads' HO355.out).2.1); (case side3 => exact (by refine (Kd.R_reads' (e := 45) (base := w.heap.size) (ok := fun k_ => (((some k_ ≠ (.slice Ao39 t310.length co39 : Value).ownBlock ∧ (some k_ ≠ (.slice Ao51 t322.length co51 : Value).ownBlock ∧ (some k_ ≠ (.slice Ao58 t328.length co58 : Value).ownBlock ∧ some k_ ≠ (.slice Ao63 t336.length co63 : Value).ownBlock))) ∧ some k_ ≠ (.slice Ao76 t348.length co76 : Value).ownBlock) ∧ some k_ ≠ (.slice Ao84 t353.length co84 : Value).ownBlock)) (n := t315.length) (c := co44) ?_).2.2; exact u11_25)); (case side4 => exact (Kd.R_reads' HO317.out).2.1); rintro e w86 ⟨rfl, hb⟩; refine ⟨_, rfl, ?_⟩; have n0_ := Aside0.mk (Kd.R_below (by (with_reducible repeat (first | apply Kd.R_alloc | apply Kd.R_drewN | apply Kd.R_drew)); exact (Kd.R_mono (Kd.R_far (p := ⟨gb357, 2, none⟩) (Kd.R_far (p := ⟨gb357, 1, none⟩) (Kd.R_far (p := ⟨gb357, 0, none⟩) (Kd.R_types HO312.out BK357.out (by decide)) (fun _ hk => hk.2) (.int .i64 t351)) (fun _ hk => hk.2) (.int .i64 t352)) (fun _ hk => hk.2) (.slice Ao84 t353.length co84)) (fun _ h_ => h_.1))) hb); have n1_ := Aside0.mk (Kd.R_below u11_25 hb); have n2_ := Aside0.mk (Kd.R_below (by (with_reducible repeat (first | apply Kd.R_alloc | apply Kd.R_drewN | apply Kd.R_drew)); exact (Kd.R_mono (Kd.R_far (p := ⟨gb357, 2, none⟩) (Kd.R_far (p := ⟨gb357, 1, none⟩) (Kd.R_far (p := ⟨gb357, 0, none⟩) (Kd.R_types HO324.out BK357.out (by decide)) (fun _ hk => hk.2) (.int .i64 t351)) (fun _ hk => hk.2) (.int .i64 t352)) (fun _ hk => hk.2) (.slice Ao84 t353.length co84)) (fun _ h_ => h_.1))) hb); have n3_ := Aside0.mk (Kd.R_below (by (with_reducible repeat (first | apply Kd.R_alloc | apply Kd.R_drewN | apply Kd.R_drew)); exact (Kd.R_mono (Kd.R_far (p := ⟨gb357, 2, none⟩) (Kd.R_far (p := ⟨gb357, 1, none⟩) (Kd.R_far (p := ⟨gb357, 0, none⟩) (Kd.R_types HO330.out BK357.out (by decide)) (fun _ hk => hk.2) (.int .i64 t351)) (fun _ hk => hk.2) (.int .i64 t352)) (fun _ hk => hk.2) (.slice Ao84 t353.length co84)) (fun _ h_ => h_.1))) hb); have n4_ := Aside0.mk (Kd.R_below (by (with_reducible repeat (first | apply Kd.R_alloc | apply Kd.R_drewN | apply Kd.R_drew)); exact (Kd.R_mono (Kd.R_far (p := ⟨gb357, 2, none⟩) (Kd.R_far (p := ⟨gb357, 1, none⟩) (Kd.R_far (p := ⟨gb357, 0, none⟩) (Kd.R_types HO338.out BK357.out (by decide)) (fun _ hk => hk.2) (.int .i64 t351)) (fun _ hk => hk.2) (.int .i64 t352)) (fun _ hk => hk.2) (.slice Ao84 t353.length co84)) (fun _ h_ => h_.1))) hb); have n5_ := Aside0.mk (Kd.R_below (by (with_reducible repeat (first | apply Kd.R_alloc | apply Kd.R_drewN | apply Kd.R_drew)); exact (Kd.R_mono (Kd.R_far (p := ⟨gb357, 2, none⟩) (Kd.R_far (p := ⟨gb357, 1, none⟩) (Kd.R_far (p := ⟨gb357, 0, none⟩) (Kd.R_types HO350.out BK357.out (by decide)) (fun _ hk => hk.2) (.int .i64 t351)) (fun _ hk => hk.2) (.int .i64 t352)) (fun _ hk => hk.2) (.slice Ao84 t353.length co84)) (fun _ h_ => h_.1))) hb); have n6_ := Aside0.mk (Kd.R_below u11_24 hb); have n7_ := Aside0.mk (blk_below (g := gb306) (o := .cells #[.int .i64 a0_0, .int .i64 a0_1, .slice A0_2 l0_2.length c0_2] 24 (0, 0)) (by (with_reducible repeat (first | refine blk_drewN ?_ _ | refine blk_drew ?_ | refine blk_alloc ?_ _)); refine blk_far ?_ NB306_357.out _; (with_reducible repeat (first | refine blk_drewN ?_ _ | refine blk_drew ?_ | refine blk_alloc ?_ _)); refine blk_far ?_ NB306_357.out _; (with_reducible repeat (first | refine blk_drewN ?_ _ | refine blk_drew ?_ | refine blk_alloc ?_ _)); refine blk_far ?_ NB306_357.out _; (with_reducible repeat (first | refine blk_drewN ?_ _ | refine blk_drew ?_ | refine blk_alloc ?_ _)); exact BK306.out) hb); have n8_ := Aside0.mk (blk_below (g := gb319) (o := .cells #[.int .i64 t313, .int .i64 t314, .slice Ao44 t315.length co44] 29 (0, 0)) (by (with_reducible repeat (first | refine blk_drewN ?_ _ | refine blk_drew ?_ | refine blk_alloc ?_ _)); refine blk_far ?_ NB319_357.out _; (with_reducible repeat (first | refine blk_drewN ?_ _ | refine blk_drew ?_ | refine blk_alloc ?_ _)); refine blk_far ?_ NB319_357.out _; (with_reducible repeat (first | refine blk_drewN ?_ _ | refine blk_drew ?_ | refine blk_alloc ?_ _)); refine blk_far ?_ NB319_357.out _; (with_reducible repeat (first | refine blk_drewN ?_ _ | refine blk_drew ?_ | refine blk_alloc ?_ _)); exact BK319.out) hb); have n9_ := Aside0.mk (blk_below (g := gb325) (o := .cells #[.int .i64 t320, .int .i64 t321, .slice Ao51 t322.length co51] 29 (0, 0)) (by (with_reducible repeat (first | refine blk_drewN ?_ _ | refine blk_drew ?_ | refine blk_alloc ?_ _)); refine blk_far ?_ NB325_357.out _; (with_reducible repeat (first | refine blk_drewN ?_ _ | refine blk_drew ?_ | refine blk_alloc ?_ _)); refine blk_far ?_ NB325_357.out _; (with_reducible repeat (first | refine blk_drewN ?_ _ | refine blk_drew ?_ | refine blk_alloc ?_ _)); refine blk_far ?_ NB325_357.out _; (with_reducible repeat (first | refine blk_drewN ?_ _ | refine blk_drew ?_ | refine blk_alloc ?_ _)); exact BK325.out) hb); have n10_ := Aside0.mk (blk_below (g := gb332) (o := .cells #[.int .i64 t326, .int .i64 t327, .slice Ao58 t328.length co58] 29 (0, 0)) (by (with_reducible repeat (first | refine blk_drewN ?_ _ | refine blk_drew ?_ | refine blk_alloc ?_ _)); refine blk_far ?_ NB332_357.out _; (with_reducible repeat (first | refine blk_drewN ?_ _ | refine blk_drew ?_ | refine blk_alloc ?_ _)); refine blk_far ?_ NB332_357.out _; (with_reducible repeat (first | refine blk_drewN ?_ _ | refine blk_drew ?_ | refine blk_alloc ?_ _)); refine blk_far ?_ NB332_357.out _; (with_reducible repeat (first | refine blk_drewN ?_ _ | refine blk_drew ?_ | refine blk_alloc ?_ _)); exact BK332.out) hb); have n11_ := Aside0.mk (blk_below (g := gb357) (o := .cells #[.int .i64 t351, .int .i64 t352, .slice Ao84 t353.length co84] 29 (0, 0)) (by (with_reducible repeat (first | refine blk_drewN ?_ _ | refine blk_drew ?_ | refine blk_alloc ?_ _)); refine blk_put (cs := #[.int .i64 t351, .int .i64 t352, .slice none 0 0]) ?_ 2 _ rfl; (with_reducible repeat (first | refine blk_drewN ?_ _ | refine blk_drew ?_ | refine blk_alloc ?_ _)); refine blk_put (cs := #[.int .i64 t351, .int .i64 0, .slice none 0 0]) ?_ 1 _ rfl; (with_reducible repeat (first | refine blk_drewN ?_ _ | refine blk_drew ?_ | refine blk_alloc ?_ _)); refine blk_put (cs := #[.int .i64 0, .int .i64 0, .slice none 0 0]) ?_ 0 _ rfl; (with_reducible repeat (first | refine blk_drewN ?_ _ | refine blk_drew ?_ | refine blk_alloc ?_ _)); exact BK357.out) hb); have n12_ := Aside0.mk (below_step u11_17 hb); clear HO312; clear HO317; clear HO324; clear HO330; clear HO338; clear HO350; clear HO355; clear BK306; clear BK319; clear BK325; clear BK332; clear BK357; clear HB; have HO312 := n0_; have HO317 := n1_; have HO324 := n2_; have HO330 := n3_; have HO338 := n4_; have HO350 := n5_; have HO355 := n6_; have BK306 := n7_; have BK319 := n8_; have BK325 := n9_; have BK332 := n10_; have BK357 := n11_; have HB := n12_; clear n0_ n1_ n2_ n3_ n4_ n5_ n6_ n7_ n8_ n9_ n10_ n11_ n12_; (try clear hb); (try clear hb2); (try clear hk); (try clear hi); have hcz87_0 : w86.cell? ⟨gb332, 0, none⟩ = some (.int .i64 t326) := (blk_cell BK332.out 0).trans rfl; have hcz87_1 : w86.cell? ⟨gb332, 1, none⟩ = some (.int .i64 t327) := (blk_cell BK332.out 1).trans rfl; have hcz87_2 : w86.cell? ⟨gb332, 2, none⟩ = some (.slice Ao58 t328.length co58) := (blk_cell BK332.out 2).trans rfl; have hfz87_0 := blk_frozen BK332.out 0; have hfz87_1 := blk_frozen BK332.out 1; have hfz87_2 := blk_frozen BK332.out 2) | ((with_reducible refine gate_callee (f := 17) rfl ?_); refine goesL_ (some 108) rfl rfl Try.func17 (by kernel_rfl) rfl #[.agg #[.int .i64 t326, .int .i64 t327, .slice Ao58 t344.length co58], .int .i64 1] rfl u11_31 ?_; (with_reducible refine (laws_heldSessions.calls k t326 t327 _ _ t344 1 t359 _ ?side1 ?side2 A34.out).mono ?_); (case side1 => exact u11_28); (case side2 => exact u11_32); rintro e w88 ⟨rfl, hb⟩; refine ⟨_, rfl, ?_⟩; have n0_ := Aside0.mk (Kd.R_below u11_5 hb); have n1_ := Aside0.mk (Kd.R_below u11_7 hb); have n2_ := Aside0.mk (Kd.R_below u11_9 hb); have n3_ := Aside0.mk (Kd.R_below u11_10 hb); have n4_ := Aside0.mk (Kd.R_below u11_13 hb); have n5_ := Aside0.mk (Kd.R_below u11_30 hb); have n6_ := Aside0.mk (Kd.R_below u11_33 hb); have n7_ := Aside0.mk (blk_below (g := gb306) (o := .cells #[.int .i64 a0_0, .int .i64 a0_1, .slice A0_2 l0_2.length c0_2] 24 (0, 0)) u11_1 hb); have n8_ := Aside0.mk (blk_below (g := gb319) (o := .cells #[.int .i64 t313, .int .i64 t314, .slice Ao44 t315.length co44] 29 (0, 0)) u11_2 hb); have n9_ := Aside0.mk (blk_below (g := gb325) (o := .cells #[.int .i64 t320, .int .i64 t321, .slice Ao51 t322.length co51] 29 (0, 0)) u11_4 hb); have n10_ := Aside0.mk (blk_below (g := gb332) (o := .cells #[.int .i64 t326, .int .i64 t327, .slice Ao58 t328.length co58] 29 (0, 0)) u11_8 hb); have n11_ := Aside0.mk (blk_below (g := gb357) (o := .cells #[.int .i64 t351, .int .i64 t352, .slice Ao84 t353.length co84] 29 (0, 0)) (by (with_reducible repeat (first | refine blk_drewN ?_ _ | refine blk_drew ?_ | refine blk_alloc ?_ _)); exact BK357.out) hb); have n12_ := Aside0.mk (below_step u11_17 hb); clear HO312; clear HO317; clear HO324; clear HO330; clear HO338; clear HO350; clear HO355; clear BK306; clear BK319; clear BK325; clear BK332; clear BK357; clear HB; have HO312 := n0_; have HO317 := n1_; have HO324 := n2_; have HO330 := n3_; have HO338 := n4_; have HO350 := n5_; have HO355 := n6_; have BK306 := n7_; have BK319 := n8_; have BK325 := n9_; have BK332 := n10_; have BK357 := n11_; have HB := n12_; clear n0_ n1_ n2_ n3_ n4_ n5_ n6_ n7_ n8_ n9_ n10_ n11_ n12_; (try clear hb); (try clear hb2); (try clear hk); (try clear hi)))
  go_ret
  exact ⟨by first | rfl | (simp [errW_none, errW_some] <;> rfl) | (simp [*, errW_none, errW_some] <;> rfl), u11_17⟩

end Go.Proofs.Ytjdpifafijcpbaa.QFnExactKeep
