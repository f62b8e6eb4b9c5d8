-- Printed by the session's own program wip/prx.py.
import Derived.Test.YtdbfjakhkclggaaQFnExactWithdrawx0
import Derived.Test.YtdbfjakhkclggaaQFnExactWithdrawx4
namespace Go.Proofs.Ytdbfjakhkclggaa.QFnExactWithdraw
open Go.RowKit Go.Proofs.YtdbfjakhkclggaaW.PrintWords Go.Proofs.YtdbfjakhkclggaaW.PrintLast Go.Proofs.YtdbfjakhkclggaaW.PrintMore
attribute [local go_sem] max2_int min2_int max_two min_two max_three min_three max_four min_four Go.Proofs.Ytdbfjakhkclggaa.Set.isSome_setCell Go.Proofs.Ytdbfjakhkclggaa.Add.add64   -- for this text's walks alone
set_option linter.unusedVariables false
set_option linter.unusedSimpArgs false

-- squeezed
theorem u5_0 {P : Prop} (h : P := by repeat (first | (with_reducible first | exact HB.out | apply below_alloc | apply pw_below_drewN | apply below_drew1 | refine below_set ?_ GE193.out) | exact HB.out)) : P := h
theorem u5_1 {P : Prop} (h : P := by (with_reducible repeat (first | refine blk_drewN ?_ _ | refine blk_drew ?_ | refine blk_alloc ?_ _)); refine blk_put (cs := #[.int .u64 t174, .int .u64 t175, .int .u64 t176, .int .u64 t177, .int .i64 0]) ?_ 4 _ rfl; (with_reducible repeat (first | refine blk_drewN ?_ _ | refine blk_drew ?_ | refine blk_alloc ?_ _)); refine blk_put (cs := #[.int .u64 t174, .int .u64 t175, .int .u64 t176, .int .u64 0, .int .i64 0]) ?_ 3 _ rfl; (with_reducible repeat (first | refine blk_drewN ?_ _ | refine blk_drew ?_ | refine blk_alloc ?_ _)); refine blk_put (cs := #[.int .u64 t174, .int .u64 t175, .int .u64 0, .int .u64 0, .int .i64 0]) ?_ 2 _ rfl; (with_reducible repeat (first | refine blk_drewN ?_ _ | refine blk_drew ?_ | refine blk_alloc ?_ _)); refine blk_put (cs := #[.int .u64 t174, .int .u64 0, .int .u64 0, .int .u64 0, .int .i64 0]) ?_ 1 _ rfl; (with_reducible repeat (first | refine blk_drewN ?_ _ | refine blk_drew ?_ | refine blk_alloc ?_ _)); refine blk_put (cs := #[.int .u64 0, .int .u64 0, .int .u64 0, .int .u64 0, .int .i64 0]) ?_ 0 _ rfl; (with_reducible repeat (first | refine blk_drewN ?_ _ | refine blk_drew ?_ | refine blk_alloc ?_ _)); exact BK180.out) : P := h
theorem u5_2 {P : Prop} (h : P := by (with_reducible repeat (first | refine blk_drewN ?_ _ | refine blk_drew ?_ | refine blk_alloc ?_ _)); exact BK193.out) : P := h
theorem u5_3 {P : Prop} (h : P := by repeat (first | (with_reducible first | exact HB.out | apply below_alloc | apply pw_below_drewN | apply below_drew1 | refine below_set ?_ GE172.out | refine below_set ?_ GE173.out | refine below_set ?_ GE180.out) | exact HB.out)) : P := h
theorem u5_4 {P : Prop} (h : P := by (with_reducible repeat (first | refine blk_drewN ?_ _ | refine blk_drew ?_ | refine blk_alloc ?_ _)); refine blk_far ?_ NB193_195.out _; (with_reducible repeat (first | refine blk_drewN ?_ _ | refine blk_drew ?_ | refine blk_alloc ?_ _)); refine blk_far ?_ NB193_195.out _; (with_reducible repeat (first | refine blk_drewN ?_ _ | refine blk_drew ?_ | refine blk_alloc ?_ _)); refine blk_far ?_ NB193_195.out _; (with_reducible repeat (first | refine blk_drewN ?_ _ | refine blk_drew ?_ | refine blk_alloc ?_ _)); refine blk_far ?_ NB193_195.out _; (with_reducible repeat (first | refine blk_drewN ?_ _ | refine blk_drew ?_ | refine blk_alloc ?_ _)); refine blk_far ?_ NB193_195.out _; (with_reducible repeat (first | refine blk_drewN ?_ _ | refine blk_drew ?_ | refine blk_alloc ?_ _)); exact BK193.out) : P := h
theorem u5_5 {P : Prop} (h : P := by repeat (first | (with_reducible first | exact HB.out | apply below_alloc | apply pw_below_drewN | apply below_drew1 | refine below_set ?_ GE193.out | refine below_set ?_ GE195.out) | exact HB.out)) : P := h
theorem u5_6 {P : Prop} (h : P := by first | (rw [add_block]; exact hn197_0) | (show (Addr.add _ _).block ≠ _; rw [add_block]; exact hn197_0) | exact hn197_0) : P := h
theorem u5_7 {P : Prop} (h : P := by first | (rw [add_block]; exact hn197_1) | (show (Addr.add _ _).block ≠ _; rw [add_block]; exact hn197_1) | exact hn197_1) : P := h
theorem u5_8 {P : Prop} (h : P := by first | (rw [add_block]; exact hn197_2) | (show (Addr.add _ _).block ≠ _; rw [add_block]; exact hn197_2) | exact hn197_2) : P := h
theorem u5_9 {P : Prop} (h : P := by first | (rw [add_block]; exact hn197_3) | (show (Addr.add _ _).block ≠ _; rw [add_block]; exact hn197_3) | exact hn197_3) : P := h
theorem u5_10 {P : Prop} (h : P := by first | (rw [add_block]; exact hn197_4) | (show (Addr.add _ _).block ≠ _; rw [add_block]; exact hn197_4) | exact hn197_4) : P := h
theorem u5_11 {P : Prop} (h : P := by first | (rw [add_block]; exact hn196_0) | (show (Addr.add _ _).block ≠ _; rw [add_block]; exact hn196_0) | exact hn196_0) : P := h
theorem u5_12 {P : Prop} (h : P := by first | (rw [add_block]; exact hn196_1) | (show (Addr.add _ _).block ≠ _; rw [add_block]; exact hn196_1) | exact hn196_1) : P := h
theorem u5_13 {P : Prop} (h : P := by first | (rw [add_block]; exact hn196_2) | (show (Addr.add _ _).block ≠ _; rw [add_block]; exact hn196_2) | exact hn196_2) : P := h
theorem u5_14 {P : Prop} (h : P := by first | (rw [add_block]; exact hn196_3) | (show (Addr.add _ _).block ≠ _; rw [add_block]; exact hn196_3) | exact hn196_3) : P := h
theorem u5_15 {P : Prop} (h : P := by first | (rw [add_block]; exact hn196_4) | (show (Addr.add _ _).block ≠ _; rw [add_block]; exact hn196_4) | exact hn196_4) : P := h
theorem u5_16 {P : Prop} (h : P := by (with_reducible repeat (first | refine blk_drewN ?_ _ | refine blk_drew ?_ | refine blk_alloc ?_ _)); refine blk_far ?_ NB172_180.out _; (with_reducible repeat (first | refine blk_drewN ?_ _ | refine blk_drew ?_ | refine blk_alloc ?_ _)); refine blk_far ?_ NB172_180.out _; (with_reducible repeat (first | refine blk_drewN ?_ _ | refine blk_drew ?_ | refine blk_alloc ?_ _)); refine blk_far ?_ NB172_180.out _; (with_reducible repeat (first | refine blk_drewN ?_ _ | refine blk_drew ?_ | refine blk_alloc ?_ _)); refine blk_far ?_ NB172_180.out _; (with_reducible repeat (first | refine blk_drewN ?_ _ | refine blk_drew ?_ | refine blk_alloc ?_ _)); refine blk_far ?_ NB172_180.out _; (with_reducible repeat (first | refine blk_drewN ?_ _ | refine blk_drew ?_ | refine blk_alloc ?_ _)); exact BK172.out) : P := h
theorem u5_17 {P : Prop} (h : P := by (with_reducible repeat (first | refine blk_drewN ?_ _ | refine blk_drew ?_ | refine blk_alloc ?_ _)); refine blk_far ?_ NB173_180.out _; (with_reducible repeat (first | refine blk_drewN ?_ _ | refine blk_drew ?_ | refine blk_alloc ?_ _)); refine blk_far ?_ NB173_180.out _; (with_reducible repeat (first | refine blk_drewN ?_ _ | refine blk_drew ?_ | refine blk_alloc ?_ _)); refine blk_far ?_ NB173_180.out _; (with_reducible repeat (first | refine blk_drewN ?_ _ | refine blk_drew ?_ | refine blk_alloc ?_ _)); refine blk_far ?_ NB173_180.out _; (with_reducible repeat (first | refine blk_drewN ?_ _ | refine blk_drew ?_ | refine blk_alloc ?_ _)); refine blk_far ?_ NB173_180.out _; (with_reducible repeat (first | refine blk_drewN ?_ _ | refine blk_drew ?_ | refine blk_alloc ?_ _)); exact BK173.out) : P := h
theorem u5_18 {P : Prop} (h : P := by repeat (first | (with_reducible first | exact HB.out | apply below_alloc | apply pw_below_drewN | apply below_drew1) | exact HB.out)) : P := h
theorem u5_19 {P : Prop} (h : P := by first | (with_reducible assumption) | assumption) : P := h
theorem u5_20 {P : Prop} (h : P := by (with_reducible repeat (first | refine blk_drewN ?_ _ | refine blk_drew ?_ | refine blk_alloc ?_ _)); refine blk_put (cs := #[.int .u64 t174, .int .u64 t175, .int .u64 t176, .int .u64 t177, .int .i64 t178]) ?_ 1 _ rfl; (with_reducible repeat (first | refine blk_drewN ?_ _ | refine blk_drew ?_ | refine blk_alloc ?_ _)); refine blk_put (cs := #[.int .u64 t174, .int .u64 t175, .int .u64 t176, .int .u64 t177, .int .i64 0]) ?_ 4 _ rfl; (with_reducible repeat (first | refine blk_drewN ?_ _ | refine blk_drew ?_ | refine blk_alloc ?_ _)); refine blk_put (cs := #[.int .u64 t174, .int .u64 t175, .int .u64 t176, .int .u64 0, .int .i64 0]) ?_ 3 _ rfl; (with_reducible repeat (first | refine blk_drewN ?_ _ | refine blk_drew ?_ | refine blk_alloc ?_ _)); refine blk_put (cs := #[.int .u64 t174, .int .u64 t175, .int .u64 0, .int .u64 0, .int .i64 0]) ?_ 2 _ rfl; (with_reducible repeat (first | refine blk_drewN ?_ _ | refine blk_drew ?_ | refine blk_alloc ?_ _)); refine blk_put (cs := #[.int .u64 t174, .int .u64 0, .int .u64 0, .int .u64 0, .int .i64 0]) ?_ 1 _ rfl; (with_reducible repeat (first | refine blk_drewN ?_ _ | refine blk_drew ?_ | refine blk_alloc ?_ _)); refine blk_put (cs := #[.int .u64 0, .int .u64 0, .int .u64 0, .int .u64 0, .int .i64 0]) ?_ 0 _ rfl; (with_reducible repeat (first | refine blk_drewN ?_ _ | refine blk_drew ?_ | refine blk_alloc ?_ _)); exact BK180.out) : P := h
theorem u5_21 {P : Prop} (h : P := by have := World.block_lt_of_cell? _ _ hx197_0; first | rwa [add_block] at this | exact this) : P := h
theorem u5_22 {P : Prop} (h : P := by have := World.block_lt_of_cell? _ _ hx196_0; first | rwa [add_block] at this | exact this) : P := h
theorem u5_23 {P : Prop} (h : P := by (with_reducible repeat (first | refine blk_drewN ?_ _ | refine blk_drew ?_ | refine blk_alloc ?_ _)); refine blk_put (cs := #[.slice none 0 0]) ?_ 0 _ rfl; (with_reducible repeat (first | refine blk_drewN ?_ _ | refine blk_drew ?_ | refine blk_alloc ?_ _)); exact BK173.out) : P := h
theorem u5_24 {P : Prop} (h : P := by repeat (first | (with_reducible first | exact HB.out | apply below_alloc | apply pw_below_drewN | apply below_drew1 | refine below_set ?_ GE198.out | refine below_set ?_ GE199.out) | exact HB.out)) : P := h
theorem u5_25 {P : Prop} (h : P := by (with_reducible repeat (first | refine blk_drewN ?_ _ | refine blk_drew ?_ | refine blk_alloc ?_ _)); exact BK172.out) : P := h
theorem u5_26 {P : Prop} (h : P := by repeat (first | (with_reducible first | exact HB.out | apply below_alloc | apply pw_below_drewN | apply below_drew1 | refine below_set ?_ GE172.out | refine below_set ?_ GE173.out) | exact HB.out)) : P := h
theorem u5_27 {P : Prop} (h : P := by (try simp only [List.map_toArray, List.map_cons, List.map_nil]); first | done | rfl | (simp only [List.length_drop, List.length_take]; rfl)) : P := h
theorem u5_28 {P : Prop} (h : P := by repeat (first | (with_reducible first | exact HB.out | apply below_alloc | apply pw_below_drewN | apply below_drew1 | refine below_set ?_ GE206.out) | exact HB.out)) : P := h
theorem u5_29 {P : Prop} (h : P := by (with_reducible repeat (first | refine blk_drewN ?_ _ | refine blk_drew ?_ | refine blk_alloc ?_ _)); exact BK198.out) : P := h
theorem u5_30 {P : Prop} (h : P := by (with_reducible repeat (first | refine blk_drewN ?_ _ | refine blk_drew ?_ | refine blk_alloc ?_ _)); exact BK173.out) : P := h
theorem u5_31 {P : Prop} (h : P := by repeat (first | (with_reducible first | exact HB.out | apply below_alloc | apply pw_below_drewN | apply below_drew1 | refine below_set ?_ GE172.out) | exact HB.out)) : P := h
theorem u5_32 {P : Prop} (h : P := by repeat (first | (with_reducible first | exact HB.out | apply below_alloc | apply pw_below_drewN | apply below_drew1 | refine below_set ?_ GE198.out) | exact HB.out)) : P := h
theorem u5_33 {P : Prop} (h : P := by first | rfl | (simp; done) | (simp [*]; done)) : P := h
theorem u5_34 {P : Prop} (h : P := by (with_reducible repeat (first | refine blk_drewN ?_ _ | refine blk_drew ?_ | refine blk_alloc ?_ _)); exact BK199.out) : P := h
theorem u5_35 {P : Prop} (h : P := by (with_reducible repeat (first | refine blk_drewN ?_ _ | refine blk_drew ?_ | refine blk_alloc ?_ _)); exact BK206.out) : P := h
theorem u5_36 {P : Prop} (h : P := by exact Kd.C_below HR0_0.out u5_3) : P := h
theorem u5_37 {P : Prop} (h : P := by rw [List.length_take]; omega) : P := h
/-! ### spec_Withdraw: function 36 -/
def spec_Withdraw.f (k : Nat) (l0_0 : List (S53)) (a1 : Int) (a2 : Int) : Option ((List (S53)) × Int) := (spec_l10Of.f k l0_0 a1 1).bind fun bt174 => (if bt174.2.2.2.2.2 = 0 then (if bt174.2.2.2.2.1 = 0 then (if a2 > bt174.2.1 then ((spec_l10Copy.f k l0_0).bind fun t181 => (some (t181, 4))) else ((spec_l10With.f k l0_0 bt174.1 (IntKind.u64.wrap (bt174.2.1 - a2)) bt174.2.2.1 bt174.2.2.2.1 bt174.2.2.2.2.1).bind fun t184 => (some (t184, 0)))) else ((spec_l10Copy.f k l0_0).bind fun t187 => (some (t187, 6)))) else ((spec_l10Copy.f k l0_0).bind fun t190 => (some (t190, bt174.2.2.2.2.2))))
theorem spec_Withdraw.mono : ∀ a0 a1 a2 k, LeO (spec_Withdraw.f k a0 a1 a2) (spec_Withdraw.f (k + 1) a0 a1 a2) := by
  intro a0 a1 a2 k
  unfold spec_Withdraw.f
  repeat' first
      | (with_reducible exact spec_l10Copy.mono _ _)
      | (with_reducible exact spec_l10Of.mono _ _ _ _)
      | (with_reducible exact spec_l10With.mono _ _ _ _ _ _ _)
      | (with_reducible exact LeO.refl _)
      | (with_reducible exact LeO.none _)
      | (with_reducible refine LeO.ite ?_ ?_)
      | (with_reducible refine LeO.bind ?_ (fun _ => ?_))
      | exact spec_l10Copy.mono _ _
      | exact spec_l10Of.mono _ _ _ _
      | exact spec_l10With.mono _ _ _ _ _ _ _
      | exact LeO.none _
      | refine LeO.ite ?_ ?_
      | refine LeO.bind ?_ (fun _ => ?_)
set_option maxHeartbeats 8000000 in
set_option maxRecDepth 100000 in
theorem spec_Withdraw.calls (k : Nat) (A0_0 : Option Addr) (c0_0 : Nat) (l0_0 : List (S53)) (a1 : Int) (a2 : Int) (r1 : List (S53)) (r2 : Int) (w : World) (hr0_0 : Kd.C k53 w A0_0 l0_0.length l0_0) (hc0_0 : l0_0.length ≤ c0_0) (h : spec_Withdraw.f k l0_0 a1 a2 = some (r1, r2)) :
    Calls Try.prog 36 #[.agg #[.slice A0_0 l0_0.length c0_0], .int .u64 a1, .int .u64 a2] w fun e w' => ∃ v0_ : Value, e = .returned (.tuple #[.agg #[v0_], .int .i64 r2]) ∧ Kd.R k53 53 w' w.heap.size (fun _ => True) v0_ r1 ∧ Below w.heap.size w w' := by
  have hu29 := Try.underlying29
  have hu53 := Try.underlying53
  have HR0_0 := Aside0.mk hr0_0
  have HC0_0 := Aside0.mk hc0_0
  clear hr0_0 hc0_0
  have HB := Aside0.mk (Below.refl w.heap.size w)
  have H : ((spec_l10Of.f k l0_0 a1 1).bind fun bt174 => (if bt174.2.2.2.2.2 = 0 then (if bt174.2.2.2.2.1 = 0 then (if a2 > bt174.2.1 then ((spec_l10Copy.f k l0_0).bind fun t181 => (some (t181, 4))) else ((spec_l10With.f k l0_0 bt174.1 (IntKind.u64.wrap (bt174.2.1 - a2)) bt174.2.2.1 bt174.2.2.2.1 bt174.2.2.2.2.1).bind fun t184 => (some (t184, 0)))) else ((spec_l10Copy.f k l0_0).bind fun t187 => (some (t187, 6)))) else ((spec_l10Copy.f k l0_0).bind fun t190 => (some (t190, bt174.2.2.2.2.2))))) = some (r1, r2) := h
  clear h
  replace H := Option.bind_eq_some_iff.mp H
  obtain ⟨⟨t174, t175, t176, t177, t178, t179⟩, A40, H⟩ := H
  replace H : (if t179 = 0 then (if t178 = 0 then (if a2 > t175 then ((spec_l10Copy.f k l0_0).bind fun t181 => (some (t181, 4))) else ((spec_l10With.f k l0_0 t174 (IntKind.u64.wrap (t175 - a2)) t176 t177 t178).bind fun t184 => (some (t184, 0)))) else ((spec_l10Copy.f k l0_0).bind fun t187 => (some (t187, 6)))) else ((spec_l10Copy.f k l0_0).bind fun t190 => (some (t190, t179)))) = some (r1, r2) := H
  have A4 := Aside0.mk A40
  clear A40
  have H9 := Aside0.mk H
  clear H
  go_enter Try.func36, Try.ntmps36
  go_upto_if 16 with (first | ((with_reducible refine gate_dst (N := 3) rfl ?_); refine box_event ?hg (N := 3) ?hd (cs := #[.slice A0_0 l0_0.length c0_0]) (t := 29) ?hr ?_; (case hd => rfl); (case hg => rfl); (case hr => first | (go_simp; done) | (go_simp; rfl)); intro gb172 hg w5 hbox hb; have n0_ := Aside0.mk (below_step u5_18 hb); have n1_ := Aside0.mk (hbox); have n2_ := Aside0.mk ((by rw [hg]; exact (below_size u5_18) : w.heap.size ≤ gb172)); have n3_ := Aside0.mk ((by rw [hg]; exact (below_size u5_18) : w.heap.size ≤ gb172)); clear HB; have HB := n0_; have BK172 := n1_; have GW172 := n2_; have GE172 := n3_; clear n0_ n1_ n2_ n3_; clear hb hbox hg) | ((with_reducible refine gate_dst (N := 6) rfl ?_); refine box_event ?hg (N := 6) ?hd (cs := #[.slice none 0 0]) (t := 29) ?hr ?_; (case hd => rfl); (case hg => rfl); (case hr => first | (go_simp; done) | (go_simp; rfl)); intro gb173 hg w6 hbox hb; have n0_ := Aside0.mk (blk_below (g := gb172) (o := .cells #[.slice A0_0 l0_0.length c0_0] 29 (0, 0)) u5_25 hb); have n1_ := Aside0.mk (below_step u5_31 hb); have n2_ := Aside0.mk (hbox); have n3_ := Aside0.mk ((by rw [hg]; exact (below_size u5_31) : w.heap.size ≤ gb173)); have n4_ := Aside0.mk ((by rw [hg]; exact (below_size u5_31) : w.heap.size ≤ gb173)); have n5_ := Aside0.mk ((by rw [hg]; exact Nat.ne_of_lt (blk_lt (g := gb172) (o := .cells #[.slice A0_0 l0_0.length c0_0] 29 (0, 0)) u5_25) : gb172 ≠ gb173)); have n6_ := Aside0.mk ((by rw [hg]; exact Nat.ne_of_gt (blk_lt (g := gb172) (o := .cells #[.slice A0_0 l0_0.length c0_0] 29 (0, 0)) u5_25) : gb173 ≠ gb172)); clear BK172; clear HB; have BK172 := n0_; have HB := n1_; have BK173 := n2_; have GW173 := n3_; have GE173 := n4_; have NB172_173 := n5_; have NB173_172 := n6_; clear n0_ n1_ n2_ n3_ n4_ n5_ n6_; clear hb hbox hg; have hnb7 := NB172_173.out; have hnc7 := NB173_172.out; have hcz8_0 : w6.cell? ⟨gb172, 0, none⟩ = some (.slice A0_0 l0_0.length c0_0) := (blk_cell BK172.out 0).trans rfl; have hfz8_0 := blk_frozen BK172.out 0) | ((with_reducible refine gate_callee (f := 53) rfl ?_); refine goesL_ (some 13) rfl rfl Try.func53 (by kernel_rfl) rfl #[.agg #[.slice A0_0 l0_0.length c0_0], .int .u64 a1, .int .i64 1] rfl u5_27 ?_; (with_reducible refine (spec_l10Of.calls k _ _ l0_0 a1 1 t174 t175 t176 t177 t178 t179 _ ?side1 ?side2 A4.out).mono ?_); (case side1 => exact (by repeat (first | exact (Kd.C_below HR0_0.out HB.out) | (with_reducible refine Kd.C_alloc ?_ _) | (with_reducible refine Kd.C_drewN ?_ _) | (with_reducible refine Kd.C_drew ?_)))); (case side2 => exact HC0_0.out); rintro e w9 ⟨rfl, hb⟩; refine ⟨_, rfl, ?_⟩; have n0_ := Aside0.mk (blk_below (g := gb172) (o := .cells #[.slice A0_0 l0_0.length c0_0] 29 (0, 0)) u5_25 hb); have n1_ := Aside0.mk (blk_below (g := gb173) (o := .cells #[.slice none 0 0] 29 (0, 0)) u5_30 hb); have n2_ := Aside0.mk (below_step u5_26 hb); clear BK172; clear BK173; clear HB; have BK172 := n0_; have BK173 := n1_; have HB := n2_; clear n0_ n1_ n2_; (try clear hb); (try clear hb2); (try clear hk); (try clear hi)) | ((with_reducible refine gate_dst (N := 8) rfl ?_); refine box_event ?hg (N := 8) ?hd (cs := #[.int .u64 0, .int .u64 0, .int .u64 0, .int .u64 0, .int .i64 0]) (t := 53) ?hr ?_; (case hd => rfl); (case hg => rfl); (case hr => first | (go_simp; done) | (go_simp; rfl)); intro gb180 hg w10 hbox hb; have n0_ := Aside0.mk (blk_below (g := gb172) (o := .cells #[.slice A0_0 l0_0.length c0_0] 29 (0, 0)) u5_25 hb); have n1_ := Aside0.mk (blk_below (g := gb173) (o := .cells #[.slice none 0 0] 29 (0, 0)) u5_30 hb); have n2_ := Aside0.mk (below_step u5_26 hb); have n3_ := Aside0.mk (hbox); have n4_ := Aside0.mk ((by rw [hg]; exact (below_size u5_26) : w.heap.size ≤ gb180)); have n5_ := Aside0.mk ((by rw [hg]; exact (below_size u5_26) : w.heap.size ≤ gb180)); have n6_ := Aside0.mk ((by rw [hg]; exact Nat.ne_of_lt (blk_lt (g := gb172) (o := .cells #[.slice A0_0 l0_0.length c0_0] 29 (0, 0)) u5_25) : gb172 ≠ gb180)); have n7_ := Aside0.mk ((by rw [hg]; exact Nat.ne_of_gt (blk_lt (g := gb172) (o := .cells #[.slice A0_0 l0_0.length c0_0] 29 (0, 0)) u5_25) : gb180 ≠ gb172)); have n8_ := Aside0.mk ((by rw [hg]; exact Nat.ne_of_lt (blk_lt (g := gb173) (o := .cells #[.slice none 0 0] 29 (0, 0)) u5_30) : gb173 ≠ gb180)); have n9_ := Aside0.mk ((by rw [hg]; exact Nat.ne_of_gt (blk_lt (g := gb173) (o := .cells #[.slice none 0 0] 29 (0, 0)) u5_30) : gb180 ≠ gb173)); clear BK172; clear BK173; clear HB; have BK172 := n0_; have BK173 := n1_; have HB := n2_; have BK180 := n3_; have GW180 := n4_; have GE180 := n5_; have NB172_180 := n6_; have NB180_172 := n7_; have NB173_180 := n8_; have NB180_173 := n9_; clear n0_ n1_ n2_ n3_ n4_ n5_ n6_ n7_ n8_ n9_; clear hb hbox hg; have hnb11 := NB180_172.out; have hnc11 := NB172_180.out; have hnb12 := NB180_173.out; have hnc12 := NB173_180.out; have hcz13_0 : w10.cell? ⟨gb180, 0, none⟩ = some (.int .u64 0) := (blk_cell BK180.out 0).trans rfl; have hcz13_1 : w10.cell? ⟨gb180, 1, none⟩ = some (.int .u64 0) := (blk_cell BK180.out 1).trans rfl; have hcz13_2 : w10.cell? ⟨gb180, 2, none⟩ = some (.int .u64 0) := (blk_cell BK180.out 2).trans rfl; have hcz13_3 : w10.cell? ⟨gb180, 3, none⟩ = some (.int .u64 0) := (blk_cell BK180.out 3).trans rfl; have hcz13_4 : w10.cell? ⟨gb180, 4, none⟩ = some (.int .i64 0) := (blk_cell BK180.out 4).trans rfl; have hfz13_0 := blk_frozen BK180.out 0; have hfz13_1 := blk_frozen BK180.out 1; have hfz13_2 := blk_frozen BK180.out 2; have hfz13_3 := blk_frozen BK180.out 3; have hfz13_4 := blk_frozen BK180.out 4))
  have H := H9.out
  clear H9
  by_cases c14 : t179 = 0
  rotate_left
  · rw [if_neg c14] at H
    have c14b0 : (t179 == 0) = false := beq_eq_false_iff_ne.mpr c14
    have c14b1 : (t179 != 0) = true := bne_iff_ne.mpr c14
    (first | rw [c14b0] | (simp only [i64_w, i32_w]; rw [c14b0]) | skip)
    replace H := Option.bind_eq_some_iff.mp H
    obtain ⟨t190, A440, H⟩ := H
    replace H : (some (t190, t179)) = some (r1, r2) := H
    have A44 := Aside0.mk A440
    clear A440
    simp only [Option.some.injEq, Prod.mk.injEq] at H
    obtain ⟨rfl, rfl⟩ := H
    have hnb45 := NB172_173.out
    have hnc45 := NB173_172.out
    have hnb46 := NB172_180.out
    have hnc46 := NB180_172.out
    have hcz47_0 : w10.cell? ⟨gb172, 0, none⟩ = some (.slice A0_0 l0_0.length c0_0) := (blk_cell BK172.out 0).trans rfl
    have hfz47_0 := blk_frozen BK172.out 0
    go_wp2_with (first | ((with_reducible refine gate_callee (f := 54) rfl ?_); refine goesL_ (some 20) rfl rfl Try.func54 (by kernel_rfl) rfl #[.agg #[.slice A0_0 l0_0.length c0_0]] rfl u5_27 ?_; (with_reducible refine (spec_l10Copy.calls k _ _ l0_0 t190 _ ?side1 ?side2 A44.out).mono ?_); (case side1 => exact u5_36); (case side2 => exact HC0_0.out); rintro e w48 ⟨v191, rfl, ho0, hb⟩; refine ⟨_, rfl, ?_⟩; have n0_ := Aside0.mk (Kd.R_lower (Kd.R_newB ho0 (g := gb180) (o := .cells #[.int .u64 t174, .int .u64 t175, .int .u64 t176, .int .u64 t177, .int .i64 t178] 53 (0, 0)) u5_1) (below_size u5_3)); have n1_ := Aside0.mk (blk_below (g := gb172) (o := .cells #[.slice A0_0 l0_0.length c0_0] 29 (0, 0)) u5_16 hb); have n2_ := Aside0.mk (blk_below (g := gb173) (o := .cells #[.slice none 0 0] 29 (0, 0)) u5_17 hb); have n3_ := Aside0.mk (blk_below (g := gb180) (o := .cells #[.int .u64 t174, .int .u64 t175, .int .u64 t176, .int .u64 t177, .int .i64 t178] 53 (0, 0)) u5_1 hb); have n4_ := Aside0.mk (below_step u5_3 hb); clear BK172; clear BK173; clear BK180; clear HB; have HO192 := n0_; have BK172 := n1_; have BK173 := n2_; have BK180 := n3_; have HB := n4_; clear n0_ n1_ n2_ n3_ n4_; (try clear hb); (try clear hb2); (try clear hk); (try clear hi); (try clear ho0); obtain ⟨Ao49, co49, eo49⟩ := Kd.R_slice HO192.out; subst eo49; have hnb50 := NB173_180.out; have hnc50 := NB180_173.out; have hcz51_0 : w48.cell? ⟨gb173, 0, none⟩ = some (.slice none 0 0) := (blk_cell BK173.out 0).trans rfl; have hfz51_0 := blk_frozen BK173.out 0))
    refine bodyPost_ret (results_ct rfl _ _ gb173 29 #[.slice Ao49 t190.length co49] (0, 0) _ rfl u5_23 Try.underlying29 rfl (by kernel_rfl)) rfl ?_
    exact ⟨_, by first | rfl | (simp [errW_none, errW_some] <;> rfl) | (simp [*, errW_none, errW_some] <;> rfl), (by (with_reducible repeat (first | apply Kd.R_alloc | apply Kd.R_drewN | apply Kd.R_drew)); exact Kd.R_mono (Kd.R_far (p := ⟨gb173, 0, none⟩) (Kd.R_types HO192.out BK173.out (by decide)) (fun _ hk => hk.2) (.slice Ao49 t190.length co49)) (fun _ hk => trivial)), u5_3⟩
  rw [if_pos c14] at H
  have c14b0 : (t179 == 0) = true := beq_iff_eq.mpr c14
  have c14b1 : (t179 != 0) = false := bne_eq_false_iff_eq.mpr c14
  clear c14
  (first | rw [c14b0] | (simp only [i64_w, i32_w]; rw [c14b0]) | skip)
  by_cases c15 : t178 = 0
  rotate_left
  · rw [if_neg c15] at H
    have c15b0 : (t178 == 0) = false := beq_eq_false_iff_ne.mpr c15
    have c15b1 : (t178 != 0) = true := bne_iff_ne.mpr c15
    replace H := Option.bind_eq_some_iff.mp H
    obtain ⟨t187, A350, H⟩ := H
    replace H : (some (t187, 6)) = some (r1, r2) := H
    have A35 := Aside0.mk A350
    clear A350
    simp only [Option.some.injEq, Prod.mk.injEq] at H
    obtain ⟨rfl, rfl⟩ := H
    have hnb36 := NB180_172.out
    have hnc36 := NB172_180.out
    have hnb37 := NB180_173.out
    have hnc37 := NB173_180.out
    have hcz38_0 : w10.cell? ⟨gb180, 0, none⟩ = some (.int .u64 0) := (blk_cell BK180.out 0).trans rfl
    have hcz38_1 : w10.cell? ⟨gb180, 1, none⟩ = some (.int .u64 0) := (blk_cell BK180.out 1).trans rfl
    have hcz38_2 : w10.cell? ⟨gb180, 2, none⟩ = some (.int .u64 0) := (blk_cell BK180.out 2).trans rfl
    have hcz38_3 : w10.cell? ⟨gb180, 3, none⟩ = some (.int .u64 0) := (blk_cell BK180.out 3).trans rfl
    have hcz38_4 : w10.cell? ⟨gb180, 4, none⟩ = some (.int .i64 0) := (blk_cell BK180.out 4).trans rfl
    have hfz38_0 := blk_frozen BK180.out 0
    have hfz38_1 := blk_frozen BK180.out 1
    have hfz38_2 := blk_frozen BK180.out 2
    have hfz38_3 := blk_frozen BK180.out 3
    have hfz38_4 := blk_frozen BK180.out 4
    have hnb39 := NB172_173.out
    have hnc39 := NB173_172.out
    have hcz40_0 : w10.cell? ⟨gb172, 0, none⟩ = some (.slice A0_0 l0_0.length c0_0) := (blk_cell BK172.out 0).trans rfl
    have hfz40_0 := blk_frozen BK172.out 0
    go_wp2_with (first | ((with_reducible refine gate_callee (f := 54) rfl ?_); refine goesL_ (some 27) rfl rfl Try.func54 (by kernel_rfl) rfl #[.agg #[.slice A0_0 l0_0.length c0_0]] rfl u5_27 ?_; (with_reducible refine (spec_l10Copy.calls k _ _ l0_0 t187 _ ?side1 ?side2 A35.out).mono ?_); (case side1 => exact u5_36); (case side2 => exact HC0_0.out); rintro e w41 ⟨v188, rfl, ho0, hb⟩; refine ⟨_, rfl, ?_⟩; have n0_ := Aside0.mk (Kd.R_lower (Kd.R_newB ho0 (g := gb180) (o := .cells #[.int .u64 t174, .int .u64 t175, .int .u64 t176, .int .u64 t177, .int .i64 t178] 53 (0, 0)) u5_1) (below_size u5_3)); have n1_ := Aside0.mk (blk_below (g := gb172) (o := .cells #[.slice A0_0 l0_0.length c0_0] 29 (0, 0)) u5_16 hb); have n2_ := Aside0.mk (blk_below (g := gb173) (o := .cells #[.slice none 0 0] 29 (0, 0)) u5_17 hb); have n3_ := Aside0.mk (blk_below (g := gb180) (o := .cells #[.int .u64 t174, .int .u64 t175, .int .u64 t176, .int .u64 t177, .int .i64 t178] 53 (0, 0)) u5_1 hb); have n4_ := Aside0.mk (below_step u5_3 hb); clear BK172; clear BK173; clear BK180; clear HB; have HO189 := n0_; have BK172 := n1_; have BK173 := n2_; have BK180 := n3_; have HB := n4_; clear n0_ n1_ n2_ n3_ n4_; (try clear hb); (try clear hb2); (try clear hk); (try clear hi); (try clear ho0); obtain ⟨Ao42, co42, eo42⟩ := Kd.R_slice HO189.out; subst eo42; have hcz43_0 : w41.cell? ⟨gb173, 0, none⟩ = some (.slice none 0 0) := (blk_cell BK173.out 0).trans rfl; have hfz43_0 := blk_frozen BK173.out 0))
    refine bodyPost_ret (results_ct rfl _ _ gb173 29 #[.slice Ao42 t187.length co42] (0, 0) _ rfl u5_23 Try.underlying29 rfl (by kernel_rfl)) rfl ?_
    exact ⟨_, by first | rfl | (simp [errW_none, errW_some] <;> rfl) | (simp [*, errW_none, errW_some] <;> rfl), (by (with_reducible repeat (first | apply Kd.R_alloc | apply Kd.R_drewN | apply Kd.R_drew)); exact Kd.R_mono (Kd.R_far (p := ⟨gb173, 0, none⟩) (Kd.R_types HO189.out BK173.out (by decide)) (fun _ hk => hk.2) (.slice Ao42 t187.length co42)) (fun _ hk => trivial)), u5_3⟩
  rw [if_pos c15] at H
  have c15b0 : (t178 == 0) = true := beq_iff_eq.mpr c15
  have c15b1 : (t178 != 0) = false := bne_eq_false_iff_eq.mpr c15
  clear c15
  by_cases c16 : a2 > t175
  · rw [if_pos c16] at H
    have c16b0 : decide (t175 < a2) = true := decide_eq_true c16
    clear c16
    replace H := Option.bind_eq_some_iff.mp H
    obtain ⟨t181, A170, H⟩ := H
    replace H : (some (t181, 4)) = some (r1, r2) := H
    have A17 := Aside0.mk A170
    clear A170
    simp only [Option.some.injEq, Prod.mk.injEq] at H
    obtain ⟨rfl, rfl⟩ := H
    have hnb18 := NB180_172.out
    have hnc18 := NB172_180.out
    have hnb19 := NB180_173.out
    have hnc19 := NB173_180.out
    have hcz20_0 : w10.cell? ⟨gb180, 0, none⟩ = some (.int .u64 0) := (blk_cell BK180.out 0).trans rfl
    have hcz20_1 : w10.cell? ⟨gb180, 1, none⟩ = some (.int .u64 0) := (blk_cell BK180.out 1).trans rfl
    have hcz20_2 : w10.cell? ⟨gb180, 2, none⟩ = some (.int .u64 0) := (blk_cell BK180.out 2).trans rfl
    have hcz20_3 : w10.cell? ⟨gb180, 3, none⟩ = some (.int .u64 0) := (blk_cell BK180.out 3).trans rfl
    have hcz20_4 : w10.cell? ⟨gb180, 4, none⟩ = some (.int .i64 0) := (blk_cell BK180.out 4).trans rfl
    have hfz20_0 := blk_frozen BK180.out 0
    have hfz20_1 := blk_frozen BK180.out 1
    have hfz20_2 := blk_frozen BK180.out 2
    have hfz20_3 := blk_frozen BK180.out 3
    have hfz20_4 := blk_frozen BK180.out 4
    have hnb21 := NB172_173.out
    have hnc21 := NB173_172.out
    have hcz22_0 : w10.cell? ⟨gb172, 0, none⟩ = some (.slice A0_0 l0_0.length c0_0) := (blk_cell BK172.out 0).trans rfl
    have hfz22_0 := blk_frozen BK172.out 0
    go_wp2_with (first | ((with_reducible refine gate_callee (f := 54) rfl ?_); refine goesL_ (some 34) rfl rfl Try.func54 (by kernel_rfl) rfl #[.agg #[.slice A0_0 l0_0.length c0_0]] rfl u5_27 ?_; (with_reducible refine (spec_l10Copy.calls k _ _ l0_0 t181 _ ?side1 ?side2 A17.out).mono ?_); (case side1 => exact u5_36); (case side2 => exact HC0_0.out); rintro e w23 ⟨v182, rfl, ho0, hb⟩; refine ⟨_, rfl, ?_⟩; have n0_ := Aside0.mk (Kd.R_lower (Kd.R_newB ho0 (g := gb180) (o := .cells #[.int .u64 t174, .int .u64 t175, .int .u64 t176, .int .u64 t177, .int .i64 t178] 53 (0, 0)) u5_1) (below_size u5_3)); have n1_ := Aside0.mk (blk_below (g := gb172) (o := .cells #[.slice A0_0 l0_0.length c0_0] 29 (0, 0)) u5_16 hb); have n2_ := Aside0.mk (blk_below (g := gb173) (o := .cells #[.slice none 0 0] 29 (0, 0)) u5_17 hb); have n3_ := Aside0.mk (blk_below (g := gb180) (o := .cells #[.int .u64 t174, .int .u64 t175, .int .u64 t176, .int .u64 t177, .int .i64 t178] 53 (0, 0)) u5_1 hb); have n4_ := Aside0.mk (below_step u5_3 hb); clear BK172; clear BK173; clear BK180; clear HB; have HO183 := n0_; have BK172 := n1_; have BK173 := n2_; have BK180 := n3_; have HB := n4_; clear n0_ n1_ n2_ n3_ n4_; (try clear hb); (try clear hb2); (try clear hk); (try clear hi); (try clear ho0); obtain ⟨Ao24, co24, eo24⟩ := Kd.R_slice HO183.out; subst eo24; have hcz25_0 : w23.cell? ⟨gb173, 0, none⟩ = some (.slice none 0 0) := (blk_cell BK173.out 0).trans rfl; have hfz25_0 := blk_frozen BK173.out 0))
    refine bodyPost_ret (results_ct rfl _ _ gb173 29 #[.slice Ao24 t181.length co24] (0, 0) _ rfl u5_23 Try.underlying29 rfl (by kernel_rfl)) rfl ?_
    exact ⟨_, by first | rfl | (simp [errW_none, errW_some] <;> rfl) | (simp [*, errW_none, errW_some] <;> rfl), (by (with_reducible repeat (first | apply Kd.R_alloc | apply Kd.R_drewN | apply Kd.R_drew)); exact Kd.R_mono (Kd.R_far (p := ⟨gb173, 0, none⟩) (Kd.R_types HO183.out BK173.out (by decide)) (fun _ hk => hk.2) (.slice Ao24 t181.length co24)) (fun _ hk => trivial)), u5_3⟩
  rw [if_neg c16] at H
  have c16b0 : decide (t175 < a2) = false := decide_eq_false c16
  clear c16
  replace H := Option.bind_eq_some_iff.mp H
  obtain ⟨t184, A260, H⟩ := H
  replace H : (some (t184, 0)) = some (r1, r2) := H
  have A26 := Aside0.mk A260
  clear A260
  simp only [Option.some.injEq, Prod.mk.injEq] at H
  obtain ⟨rfl, rfl⟩ := H
  have hnb27 := NB180_172.out
  have hnc27 := NB172_180.out
  have hnb28 := NB180_173.out
  have hnc28 := NB173_180.out
  have hcz29_0 : w10.cell? ⟨gb180, 0, none⟩ = some (.int .u64 0) := (blk_cell BK180.out 0).trans rfl
  have hcz29_1 : w10.cell? ⟨gb180, 1, none⟩ = some (.int .u64 0) := (blk_cell BK180.out 1).trans rfl
  have hcz29_2 : w10.cell? ⟨gb180, 2, none⟩ = some (.int .u64 0) := (blk_cell BK180.out 2).trans rfl
  have hcz29_3 : w10.cell? ⟨gb180, 3, none⟩ = some (.int .u64 0) := (blk_cell BK180.out 3).trans rfl
  have hcz29_4 : w10.cell? ⟨gb180, 4, none⟩ = some (.int .i64 0) := (blk_cell BK180.out 4).trans rfl
  have hfz29_0 := blk_frozen BK180.out 0
  have hfz29_1 := blk_frozen BK180.out 1
  have hfz29_2 := blk_frozen BK180.out 2
  have hfz29_3 := blk_frozen BK180.out 3
  have hfz29_4 := blk_frozen BK180.out 4
  have hnb30 := NB172_173.out
  have hnc30 := NB173_172.out
  have hcz31_0 : w10.cell? ⟨gb172, 0, none⟩ = some (.slice A0_0 l0_0.length c0_0) := (blk_cell BK172.out 0).trans rfl
  have hfz31_0 := blk_frozen BK172.out 0
  go_wp2_with (first | ((with_reducible refine gate_callee (f := 55) rfl ?_); refine goesL_ (some 42) rfl rfl Try.func55 (by kernel_rfl) rfl #[.agg #[.slice A0_0 l0_0.length c0_0], .agg #[.int .u64 t174, .int .u64 (IntKind.u64.wrap (t175 - a2)), .int .u64 t176, .int .u64 t177, .int .i64 t178]] rfl u5_27 ?_; (with_reducible refine (spec_l10With.calls k _ _ l0_0 t174 (IntKind.u64.wrap (t175 - a2)) t176 t177 t178 t184 _ ?side1 ?side2 A26.out).mono ?_); (case side1 => exact u5_36); (case side2 => exact HC0_0.out); rintro e w32 ⟨v185, rfl, ho0, hb⟩; refine ⟨_, rfl, ?_⟩; have n0_ := Aside0.mk (Kd.R_lower (Kd.R_newB ho0 (g := gb180) (o := .cells #[.int .u64 t174, .int .u64 (IntKind.u64.wrap (t175 - a2)), .int .u64 t176, .int .u64 t177, .int .i64 t178] 53 (0, 0)) u5_20) (below_size u5_3)); have n1_ := Aside0.mk (blk_below (g := gb172) (o := .cells #[.slice A0_0 l0_0.length c0_0] 29 (0, 0)) (by (with_reducible repeat (first | refine blk_drewN ?_ _ | refine blk_drew ?_ | refine blk_alloc ?_ _)); refine blk_far ?_ NB172_180.out _; (with_reducible repeat (first | refine blk_drewN ?_ _ | refine blk_drew ?_ | refine blk_alloc ?_ _)); refine blk_far ?_ NB172_180.out _; (with_reducible repeat (first | refine blk_drewN ?_ _ | refine blk_drew ?_ | refine blk_alloc ?_ _)); refine blk_far ?_ NB172_180.out _; (with_reducible repeat (first | refine blk_drewN ?_ _ | refine blk_drew ?_ | refine blk_alloc ?_ _)); refine blk_far ?_ NB172_180.out _; (with_reducible repeat (first | refine blk_drewN ?_ _ | refine blk_drew ?_ | refine blk_alloc ?_ _)); refine blk_far ?_ NB172_180.out _; (with_reducible repeat (first | refine blk_drewN ?_ _ | refine blk_drew ?_ | refine blk_alloc ?_ _)); refine blk_far ?_ NB172_180.out _; (with_reducible repeat (first | refine blk_drewN ?_ _ | refine blk_drew ?_ | refine blk_alloc ?_ _)); exact BK172.out) hb); have n2_ := Aside0.mk (blk_below (g := gb173) (o := .cells #[.slice none 0 0] 29 (0, 0)) (by (with_reducible repeat (first | refine blk_drewN ?_ _ | refine blk_drew ?_ | refine blk_alloc ?_ _)); refine blk_far ?_ NB173_180.out _; (with_reducible repeat (first | refine blk_drewN ?_ _ | refine blk_drew ?_ | refine blk_alloc ?_ _)); refine blk_far ?_ NB173_180.out _; (with_reducible repeat (first | refine blk_drewN ?_ _ | refine blk_drew ?_ | refine blk_alloc ?_ _)); refine blk_far ?_ NB173_180.out _; (with_reducible repeat (first | refine blk_drewN ?_ _ | refine blk_drew ?_ | refine blk_alloc ?_ _)); refine blk_far ?_ NB173_180.out _; (with_reducible repeat (first | refine blk_drewN ?_ _ | refine blk_drew ?_ | refine blk_alloc ?_ _)); refine blk_far ?_ NB173_180.out _; (with_reducible repeat (first | refine blk_drewN ?_ _ | refine blk_drew ?_ | refine blk_alloc ?_ _)); refine blk_far ?_ NB173_180.out _; (with_reducible repeat (first | refine blk_drewN ?_ _ | refine blk_drew ?_ | refine blk_alloc ?_ _)); exact BK173.out) hb); have n3_ := Aside0.mk (blk_below (g := gb180) (o := .cells #[.int .u64 t174, .int .u64 (IntKind.u64.wrap (t175 - a2)), .int .u64 t176, .int .u64 t177, .int .i64 t178] 53 (0, 0)) u5_20 hb); have n4_ := Aside0.mk (below_step u5_3 hb); clear BK172; clear BK173; clear BK180; clear HB; have HO186 := n0_; have BK172 := n1_; have BK173 := n2_; have BK180 := n3_; have HB := n4_; clear n0_ n1_ n2_ n3_ n4_; (try clear hb); (try clear hb2); (try clear hk); (try clear hi); (try clear ho0); obtain ⟨Ao33, co33, eo33⟩ := Kd.R_slice HO186.out; subst eo33; have hcz34_0 : w32.cell? ⟨gb173, 0, none⟩ = some (.slice none 0 0) := (blk_cell BK173.out 0).trans rfl; have hfz34_0 := blk_frozen BK173.out 0))
  refine bodyPost_ret (results_ct rfl _ _ gb173 29 #[.slice Ao33 t184.length co33] (0, 0) _ rfl u5_23 Try.underlying29 rfl (by kernel_rfl)) rfl ?_
  exact ⟨_, by first | rfl | (simp [errW_none, errW_some] <;> rfl) | (simp [*, errW_none, errW_some] <;> rfl), (by (with_reducible repeat (first | apply Kd.R_alloc | apply Kd.R_drewN | apply Kd.R_drew)); exact Kd.R_mono (Kd.R_far (p := ⟨gb173, 0, none⟩) (Kd.R_types HO186.out BK173.out (by decide)) (fun _ hk => hk.2) (.slice Ao33 t184.length co33)) (fun _ hk => trivial)), u5_3⟩

-- NOT PRINTED: function 76 (bits_Add64)

/-! ### impl_isBook: function 50 -/
def impl_isBook.l0 : Nat → List (S53) → Int → Int → List (S53) → Option (Bool)
  | 0, _, _, _, _ => none
  | k + 1, x10, x11, x12, x194000 => if x12 < x11 then (if 0 ≤ x12 then (if x12 < (x10.length : Int) then (if 0 ≤ ((rd_T53 x10 x12).f1) then (if 0 ≤ ((rd_T53 x10 x12).f2) then (if 0 ≤ (IntKind.u64.wrap (((rd_T53 x10 x12).f1) + ((rd_T53 x10 x12).f2))) then (if 0 ≤ ((rd_T53 x10 x12).f3) then (if (IntKind.u64.wrap (((((rd_T53 x10 x12).f1) + ((rd_T53 x10 x12).f2)) / 18446744073709551616) + (((IntKind.u64.wrap (((rd_T53 x10 x12).f1) + ((rd_T53 x10 x12).f2))) + ((rd_T53 x10 x12).f3)) / 18446744073709551616))) > 0 then (some false) else (if ((rd_T53 x10 x12).f4) < 0 then (some false) else (if ((rd_T53 x10 x12).f4) = 0 then (if ((rd_T53 x10 x12).f2) = 0 then (if ((rd_T53 x10 x12).f3) = 0 then (if x12 > 0 then (if 0 ≤ (wrap64 (x12 - 1)) then (if (wrap64 (x12 - 1)) < (x194000.length : Int) then (if ((rd_T53 x194000 (wrap64 (x12 - 1))).f0) ≥ ((rd_T53 x10 x12).f0) then (some false) else (impl_isBook.l0 k x10 x11 (wrap64 (x12 + 1)) x194000)) else (none)) else (none)) else (impl_isBook.l0 k x10 x11 (wrap64 (x12 + 1)) x194000)) else (some false)) else (some false)) else (if x12 > 0 then (if 0 ≤ (wrap64 (x12 - 1)) then (if (wrap64 (x12 - 1)) < (x194000.length : Int) then (if ((rd_T53 x194000 (wrap64 (x12 - 1))).f0) ≥ ((rd_T53 x10 x12).f0) then (some false) else (impl_isBook.l0 k x10 x11 (wrap64 (x12 + 1)) x194000)) else (none)) else (none)) else (impl_isBook.l0 k x10 x11 (wrap64 (x12 + 1)) x194000))))) else (none)) else (none)) else (none)) else (none)) else (none)) else (none)) else (some (decide ((x194000.length : Int) ≤ 40)))
def impl_isBook.f (k : Nat) (l0_0 : List (S53)) : Option (Bool) := impl_isBook.l0 k l0_0 (l0_0.length : Int) 0 l0_0
theorem impl_isBook.mono_l : ∀ k, (∀ y0 y1 y2 y3, LeO (impl_isBook.l0 k y0 y1 y2 y3) (impl_isBook.l0 (k + 1) y0 y1 y2 y3))
  | 0 => fun _ _ _ _ r h => by simp [impl_isBook.l0] at h
  | k + 1 => by
    have ih0 := impl_isBook.mono_l k
    · intro y0 y1 y2 y3
      unfold impl_isBook.l0
      repeat' first
      | (with_reducible exact ih0 _ _ _ _)
      | (with_reducible exact LeO.refl _)
      | (with_reducible exact LeO.none _)
      | (with_reducible refine LeO.ite ?_ ?_)
      | (with_reducible refine LeO.bind ?_ (fun _ => ?_))
      | exact ih0 _ _ _ _
      | exact LeO.none _
      | refine LeO.ite ?_ ?_
      | refine LeO.bind ?_ (fun _ => ?_)
theorem impl_isBook.mono : ∀ a0 k, LeO (impl_isBook.f k a0) (impl_isBook.f (k + 1) a0) := by
  intro a0 k
  have ih0 := impl_isBook.mono_l k
  unfold impl_isBook.f
  repeat' first
      | (with_reducible exact ih0 _ _ _ _)
      | (with_reducible exact LeO.refl _)
      | (with_reducible exact LeO.none _)
      | (with_reducible refine LeO.ite ?_ ?_)
      | (with_reducible refine LeO.bind ?_ (fun _ => ?_))
      | exact ih0 _ _ _ _
      | exact LeO.none _
      | refine LeO.ite ?_ ?_
      | refine LeO.bind ?_ (fun _ => ?_)
set_option maxHeartbeats 8000000 in
set_option maxRecDepth 100000 in
theorem impl_isBook.calls (k : Nat) (A0_0 : Option Addr) (c0_0 : Nat) (l0_0 : List (S53)) (r : Bool) (w : World) (hr0_0 : Kd.C k53 w A0_0 l0_0.length l0_0) (hc0_0 : l0_0.length ≤ c0_0) (h : impl_isBook.f k l0_0 = some r) :
    Calls Try.prog 50 #[.agg #[.slice A0_0 l0_0.length c0_0]] w fun e w' => e = .returned (.bool r) ∧ Below w.heap.size w w' := by
  have hu29 := Try.underlying29
  have hu53 := Try.underlying53
  have HR0_0 := Aside0.mk hr0_0
  have HC0_0 := Aside0.mk hc0_0
  clear hr0_0 hc0_0
  have HB := Aside0.mk (Below.refl w.heap.size w)
  have H : (impl_isBook.l0 k l0_0 (l0_0.length : Int) 0 l0_0) = some r := h
  clear h
  have H' := Aside0.mk H
  clear H
  go_enter Try.func50, Try.ntmps50
  go_wp2_with (first | (first | ((with_reducible refine gate_dst (N := 1) rfl ?_); refine box_event ?hg (N := 1) ?hd (cs := #[.slice A0_0 l0_0.length c0_0]) (t := 29) ?hr ?_; (case hd => rfl); (case hg => rfl); (case hr => first | (go_simp; done) | (go_simp; rfl)); intro gb193 hg w2 hbox hb; have n0_ := Aside0.mk (below_step u5_18 hb); have n1_ := Aside0.mk (hbox); have n2_ := Aside0.mk ((by rw [hg]; exact (below_size u5_18) : w.heap.size ≤ gb193)); have n3_ := Aside0.mk ((by rw [hg]; exact (below_size u5_18) : w.heap.size ≤ gb193)); clear HB; have HB := n0_; have BK193 := n1_; have GW193 := n2_; have GE193 := n3_; clear n0_ n1_ n2_ n3_; clear hb hbox hg; have hcz3_0 : w2.cell? ⟨gb193, 0, none⟩ = some (.slice A0_0 l0_0.length c0_0) := (blk_cell BK193.out 0).trans rfl; have hfz3_0 := blk_frozen BK193.out 0)) | go_quiet (fail))
  go_loopg [12] k (fun kq v12 w' => ∃ (x12_1 : Int), v12 = .int .i64 x12_1 ∧ Aside0 (impl_isBook.l0 kq l0_0 (l0_0.length : Int) x12_1 l0_0 = some r) ∧ Aside0 (kq ≤ k) ∧ Aside0 (w'.heap[gb193]? = some (.cells #[(.slice A0_0 l0_0.length c0_0)] 29 (0, 0))) ∧ Aside0 (Below w.heap.size w w'))
  case atStart => exact ⟨(0), u5_33, H', ⟨Nat.le_refl _⟩, ⟨u5_2⟩, ⟨u5_0⟩⟩
  clear H'
  try clear p2
  try clear hcz3_0
  try clear hfz3_0
  obtain ⟨x12_1, rfl, HA, HK1, BK193, HB⟩ := hrel
  cases gk with
  | zero => exact absurd HA.out (by simp [impl_isBook.l0])
  | succ k1 =>
    have H := HA.out
    clear HA
    simp only [impl_isBook.l0] at H
    by_cases c4 : x12_1 < (l0_0.length : Int)
    rotate_left
    · rw [if_neg c4] at H
      have c4b0 : decide (x12_1 < (l0_0.length : Int)) = false := decide_eq_false c4
      clear c4
      obtain rfl := Option.some.inj H
      have hcz53_0 : wr.cell? ⟨gb193, 0, none⟩ = some (.slice A0_0 l0_0.length c0_0) := (blk_cell BK193.out 0).trans rfl
      have hfz53_0 := blk_frozen BK193.out 0
      go_wp2
      repeat (go_quiet (fail); try go_wp2)
      go_ret
      exact ⟨by first | rfl | (simp [errW_none, errW_some] <;> rfl) | (simp [*, errW_none, errW_some] <;> rfl), u5_0⟩
    rw [if_pos c4] at H
    have c4b0 : decide (x12_1 < (l0_0.length : Int)) = true := decide_eq_true c4
    clear c4
    by_cases c5 : 0 ≤ x12_1
    rotate_left
    · rw [if_neg c5] at H
      exact absurd H (by simp)
    rw [if_pos c5] at H
    have c5b0 : decide (0 ≤ x12_1) = true := decide_eq_true c5
    clear c5
    by_cases c6 : x12_1 < (l0_0.length : Int)
    rotate_left
    · rw [if_neg c6] at H
      exact absurd H (by simp)
    rw [if_pos c6] at H
    have c6b0 : decide (x12_1 < (l0_0.length : Int)) = true := decide_eq_true c6
    clear c6
    by_cases c7 : 0 ≤ ((rd_T53 l0_0 x12_1).f1)
    rotate_left
    · rw [if_neg c7] at H
      exact absurd H (by simp)
    rw [if_pos c7] at H
    have c7b0 := eq_true c7
    have c7b1 : decide (0 ≤ ((rd_T53 l0_0 x12_1).f1)) = true := decide_eq_true c7
    clear c7
    by_cases c8 : 0 ≤ ((rd_T53 l0_0 x12_1).f2)
    rotate_left
    · rw [if_neg c8] at H
      exact absurd H (by simp)
    rw [if_pos c8] at H
    have c8b0 := eq_true c8
    have c8b1 : decide (0 ≤ ((rd_T53 l0_0 x12_1).f2)) = true := decide_eq_true c8
    clear c8
    obtain ⟨ji9, hji9⟩ : ∃ j_ : Int, (IntKind.u64.wrap (((rd_T53 l0_0 x12_1).f1) + ((rd_T53 l0_0 x12_1).f2))) = j_ := ⟨_, rfl⟩
    replace H : (if 0 ≤ (ji9) then (if 0 ≤ ((rd_T53 l0_0 x12_1).f3) then (if (IntKind.u64.wrap (((((rd_T53 l0_0 x12_1).f1) + ((rd_T53 l0_0 x12_1).f2)) / 18446744073709551616) + (((ji9) + ((rd_T53 l0_0 x12_1).f3)) / 18446744073709551616))) > 0 then (some false) else (if ((rd_T53 l0_0 x12_1).f4) < 0 then (some false) else (if ((rd_T53 l0_0 x12_1).f4) = 0 then (if ((rd_T53 l0_0 x12_1).f2) = 0 then (if ((rd_T53 l0_0 x12_1).f3) = 0 then (if x12_1 > 0 then (if 0 ≤ (wrap64 (x12_1 - 1)) then (if (wrap64 (x12_1 - 1)) < (l0_0.length : Int) then (if ((rd_T53 l0_0 (wrap64 (x12_1 - 1))).f0) ≥ ((rd_T53 l0_0 x12_1).f0) then (some false) else (impl_isBook.l0 k1 l0_0 (l0_0.length : Int) (wrap64 (x12_1 + 1)) l0_0)) else (none)) else (none)) else (impl_isBook.l0 k1 l0_0 (l0_0.length : Int) (wrap64 (x12_1 + 1)) l0_0)) else (some false)) else (some false)) else (if x12_1 > 0 then (if 0 ≤ (wrap64 (x12_1 - 1)) then (if (wrap64 (x12_1 - 1)) < (l0_0.length : Int) then (if ((rd_T53 l0_0 (wrap64 (x12_1 - 1))).f0) ≥ ((rd_T53 l0_0 x12_1).f0) then (some false) else (impl_isBook.l0 k1 l0_0 (l0_0.length : Int) (wrap64 (x12_1 + 1)) l0_0)) else (none)) else (none)) else (impl_isBook.l0 k1 l0_0 (l0_0.length : Int) (wrap64 (x12_1 + 1)) l0_0))))) else (none)) else (none)) = some r := by first | (rw [hji9] at H; exact H) | (simp only [hji9] at H ⊢; exact H)
    by_cases c10 : 0 ≤ (ji9)
    rotate_left
    · rw [if_neg c10] at H
      exact absurd H (by simp)
    rw [if_pos c10] at H
    have c10b0 := eq_true c10
    have c10b1 : decide (0 ≤ (ji9)) = true := decide_eq_true c10
    clear c10
    by_cases c11 : 0 ≤ ((rd_T53 l0_0 x12_1).f3)
    rotate_left
    · rw [if_neg c11] at H
      exact absurd H (by simp)
    rw [if_pos c11] at H
    have c11b0 := eq_true c11
    have c11b1 : decide (0 ≤ ((rd_T53 l0_0 x12_1).f3)) = true := decide_eq_true c11
    clear c11
    by_cases c12 : (IntKind.u64.wrap (((((rd_T53 l0_0 x12_1).f1) + ((rd_T53 l0_0 x12_1).f2)) / 18446744073709551616) + (((ji9) + ((rd_T53 l0_0 x12_1).f3)) / 18446744073709551616))) > 0
    · rw [if_pos c12] at H
      have c12b0 : decide (0 < (IntKind.u64.wrap (((((rd_T53 l0_0 x12_1).f1) + ((rd_T53 l0_0 x12_1).f2)) / 18446744073709551616) + (((ji9) + ((rd_T53 l0_0 x12_1).f3)) / 18446744073709551616)))) = true := decide_eq_true c12
      clear c12
      obtain rfl := Option.some.inj H
      have p194 : 0 ≤ (x12_1 : Int) := of_decide_eq_true u5_19
      have q194 : x12_1 < (l0_0.length : Int) := of_decide_eq_true u5_19
      obtain ⟨ad194, e194, hx194_0, hx194_1, hx194_2, hx194_3, hx194_4⟩ := at_T53 HR0_0.out x12_1 p194 q194
      cases e194
      replace hx194_0 := (HB.out.cell (World.block_lt_of_cell? w _ hx194_0)).trans hx194_0
      replace hx194_1 := (HB.out.cell (World.block_lt_of_cell? w _ hx194_1)).trans hx194_1
      replace hx194_2 := (HB.out.cell (World.block_lt_of_cell? w _ hx194_2)).trans hx194_2
      replace hx194_3 := (HB.out.cell (World.block_lt_of_cell? w _ hx194_3)).trans hx194_3
      replace hx194_4 := (HB.out.cell (World.block_lt_of_cell? w _ hx194_4)).trans hx194_4
      replace p194 := eq_true p194
      replace q194 := eq_true q194
      go_wp2_with (first | (first | ((with_reducible refine gate_dst (N := 4) rfl ?_); refine box_event ?hg (N := 4) ?hd (cs := #[.int .u64 0, .int .u64 0, .int .u64 0, .int .u64 0, .int .i64 0]) (t := 53) ?hr ?_; (case hd => rfl); (case hg => rfl); (case hr => first | (go_simp; done) | (go_simp; rfl)); intro gb195 hg w13 hbox hb; have n0_ := Aside0.mk (blk_below (g := gb193) (o := .cells #[.slice (some ad194) l0_0.length c0_0] 29 (0, 0)) u5_2 hb); have n1_ := Aside0.mk (below_step u5_0 hb); have n2_ := Aside0.mk (hbox); have n3_ := Aside0.mk ((by rw [hg]; exact (below_size u5_0) : w.heap.size ≤ gb195)); have n4_ := Aside0.mk ((by rw [hg]; exact (below_size u5_0) : w.heap.size ≤ gb195)); have n5_ := Aside0.mk ((by rw [hg]; exact Nat.ne_of_lt (blk_lt (g := gb193) (o := .cells #[.slice (some ad194) l0_0.length c0_0] 29 (0, 0)) u5_2) : gb193 ≠ gb195)); have n6_ := Aside0.mk ((by rw [hg]; exact Nat.ne_of_gt (blk_lt (g := gb193) (o := .cells #[.slice (some ad194) l0_0.length c0_0] 29 (0, 0)) u5_2) : gb195 ≠ gb193)); clear BK193; clear HB; have BK193 := n0_; have HB := n1_; have BK195 := n2_; have GW195 := n3_; have GE195 := n4_; have NB193_195 := n5_; have NB195_193 := n6_; clear n0_ n1_ n2_ n3_ n4_ n5_ n6_; clear hb hbox hg; have hnb14 := NB195_193.out; have hnc14 := NB193_195.out; have hcz15_0 : w13.cell? ⟨gb195, 0, none⟩ = some (.int .u64 0) := (blk_cell BK195.out 0).trans rfl; have hcz15_1 : w13.cell? ⟨gb195, 1, none⟩ = some (.int .u64 0) := (blk_cell BK195.out 1).trans rfl; have hcz15_2 : w13.cell? ⟨gb195, 2, none⟩ = some (.int .u64 0) := (blk_cell BK195.out 2).trans rfl; have hcz15_3 : w13.cell? ⟨gb195, 3, none⟩ = some (.int .u64 0) := (blk_cell BK195.out 3).trans rfl; have hcz15_4 : w13.cell? ⟨gb195, 4, none⟩ = some (.int .i64 0) := (blk_cell BK195.out 4).trans rfl; have hfz15_0 := blk_frozen BK195.out 0; have hfz15_1 := blk_frozen BK195.out 1; have hfz15_2 := blk_frozen BK195.out 2; have hfz15_3 := blk_frozen BK195.out 3; have hfz15_4 := blk_frozen BK195.out 4)) | go_quiet (fail))
      go_ret
      exact ⟨by first | rfl | (simp [errW_none, errW_some] <;> rfl) | (simp only [← hji9]; first | rfl | (simp [errW_none, errW_some] <;> rfl)) | (simp [*, errW_none, errW_some] <;> rfl), u5_5⟩
    rw [if_neg c12] at H
    have c12b0 : decide (0 < (IntKind.u64.wrap (((((rd_T53 l0_0 x12_1).f1) + ((rd_T53 l0_0 x12_1).f2)) / 18446744073709551616) + (((ji9) + ((rd_T53 l0_0 x12_1).f3)) / 18446744073709551616)))) = false := decide_eq_false c12
    clear c12
    by_cases c16 : ((rd_T53 l0_0 x12_1).f4) < 0
    · rw [if_pos c16] at H
      have c16b0 : decide (((rd_T53 l0_0 x12_1).f4) < 0) = true := decide_eq_true c16
      clear c16
      obtain rfl := Option.some.inj H
      have p194 : 0 ≤ (x12_1 : Int) := of_decide_eq_true u5_19
      have q194 : x12_1 < (l0_0.length : Int) := of_decide_eq_true u5_19
      obtain ⟨ad194, e194, hx194_0, hx194_1, hx194_2, hx194_3, hx194_4⟩ := at_T53 HR0_0.out x12_1 p194 q194
      cases e194
      replace hx194_0 := (HB.out.cell (World.block_lt_of_cell? w _ hx194_0)).trans hx194_0
      replace hx194_1 := (HB.out.cell (World.block_lt_of_cell? w _ hx194_1)).trans hx194_1
      replace hx194_2 := (HB.out.cell (World.block_lt_of_cell? w _ hx194_2)).trans hx194_2
      replace hx194_3 := (HB.out.cell (World.block_lt_of_cell? w _ hx194_3)).trans hx194_3
      replace hx194_4 := (HB.out.cell (World.block_lt_of_cell? w _ hx194_4)).trans hx194_4
      replace p194 := eq_true p194
      replace q194 := eq_true q194
      go_wp2_with (first | (first | ((with_reducible refine gate_dst (N := 4) rfl ?_); refine box_event ?hg (N := 4) ?hd (cs := #[.int .u64 0, .int .u64 0, .int .u64 0, .int .u64 0, .int .i64 0]) (t := 53) ?hr ?_; (case hd => rfl); (case hg => rfl); (case hr => first | (go_simp; done) | (go_simp; rfl)); intro gb195 hg w17 hbox hb; have n0_ := Aside0.mk (blk_below (g := gb193) (o := .cells #[.slice (some ad194) l0_0.length c0_0] 29 (0, 0)) u5_2 hb); have n1_ := Aside0.mk (below_step u5_0 hb); have n2_ := Aside0.mk (hbox); have n3_ := Aside0.mk ((by rw [hg]; exact (below_size u5_0) : w.heap.size ≤ gb195)); have n4_ := Aside0.mk ((by rw [hg]; exact (below_size u5_0) : w.heap.size ≤ gb195)); have n5_ := Aside0.mk ((by rw [hg]; exact Nat.ne_of_lt (blk_lt (g := gb193) (o := .cells #[.slice (some ad194) l0_0.length c0_0] 29 (0, 0)) u5_2) : gb193 ≠ gb195)); have n6_ := Aside0.mk ((by rw [hg]; exact Nat.ne_of_gt (blk_lt (g := gb193) (o := .cells #[.slice (some ad194) l0_0.length c0_0] 29 (0, 0)) u5_2) : gb195 ≠ gb193)); clear BK193; clear HB; have BK193 := n0_; have HB := n1_; have BK195 := n2_; have GW195 := n3_; have GE195 := n4_; have NB193_195 := n5_; have NB195_193 := n6_; clear n0_ n1_ n2_ n3_ n4_ n5_ n6_; clear hb hbox hg; have hnb18 := NB195_193.out; have hnc18 := NB193_195.out; have hcz19_0 : w17.cell? ⟨gb195, 0, none⟩ = some (.int .u64 0) := (blk_cell BK195.out 0).trans rfl; have hcz19_1 : w17.cell? ⟨gb195, 1, none⟩ = some (.int .u64 0) := (blk_cell BK195.out 1).trans rfl; have hcz19_2 : w17.cell? ⟨gb195, 2, none⟩ = some (.int .u64 0) := (blk_cell BK195.out 2).trans rfl; have hcz19_3 : w17.cell? ⟨gb195, 3, none⟩ = some (.int .u64 0) := (blk_cell BK195.out 3).trans rfl; have hcz19_4 : w17.cell? ⟨gb195, 4, none⟩ = some (.int .i64 0) := (blk_cell BK195.out 4).trans rfl; have hfz19_0 := blk_frozen BK195.out 0; have hfz19_1 := blk_frozen BK195.out 1; have hfz19_2 := blk_frozen BK195.out 2; have hfz19_3 := blk_frozen BK195.out 3; have hfz19_4 := blk_frozen BK195.out 4)) | go_quiet (fail))
      go_ret
      exact ⟨by first | rfl | (simp [errW_none, errW_some] <;> rfl) | (simp only [← hji9]; first | rfl | (simp [errW_none, errW_some] <;> rfl)) | (simp [*, errW_none, errW_some] <;> rfl), u5_5⟩
    rw [if_neg c16] at H
    have c16b0 : decide (((rd_T53 l0_0 x12_1).f4) < 0) = false := decide_eq_false c16
    clear c16
    by_cases c20 : ((rd_T53 l0_0 x12_1).f4) = 0
    rotate_left
    · rw [if_neg c20] at H
      have c20b0 : (((rd_T53 l0_0 x12_1).f4) == 0) = false := beq_eq_false_iff_ne.mpr c20
      have c20b1 : (((rd_T53 l0_0 x12_1).f4) != 0) = true := bne_iff_ne.mpr c20
      by_cases c41 : x12_1 > 0
      rotate_left
      · rw [if_neg c41] at H
        have c41b0 : decide (0 < x12_1) = false := decide_eq_false c41
        clear c41
        have H' := Aside0.mk H
        clear H
        have p194 : 0 ≤ (x12_1 : Int) := of_decide_eq_true u5_19
        have q194 : x12_1 < (l0_0.length : Int) := of_decide_eq_true u5_19
        obtain ⟨ad194, e194, hx194_0, hx194_1, hx194_2, hx194_3, hx194_4⟩ := at_T53 HR0_0.out x12_1 p194 q194
        cases e194
        replace hx194_0 := (HB.out.cell (World.block_lt_of_cell? w _ hx194_0)).trans hx194_0
        replace hx194_1 := (HB.out.cell (World.block_lt_of_cell? w _ hx194_1)).trans hx194_1
        replace hx194_2 := (HB.out.cell (World.block_lt_of_cell? w _ hx194_2)).trans hx194_2
        replace hx194_3 := (HB.out.cell (World.block_lt_of_cell? w _ hx194_3)).trans hx194_3
        replace hx194_4 := (HB.out.cell (World.block_lt_of_cell? w _ hx194_4)).trans hx194_4
        replace p194 := eq_true p194
        replace q194 := eq_true q194
        go_wp2_with (first | (first | ((with_reducible refine gate_dst (N := 4) rfl ?_); refine box_event ?hg (N := 4) ?hd (cs := #[.int .u64 0, .int .u64 0, .int .u64 0, .int .u64 0, .int .i64 0]) (t := 53) ?hr ?_; (case hd => rfl); (case hg => rfl); (case hr => first | (go_simp; done) | (go_simp; rfl)); intro gb195 hg w50 hbox hb; have n0_ := Aside0.mk (blk_below (g := gb193) (o := .cells #[.slice (some ad194) l0_0.length c0_0] 29 (0, 0)) u5_2 hb); have n1_ := Aside0.mk (below_step u5_0 hb); have n2_ := Aside0.mk (hbox); have n3_ := Aside0.mk ((by rw [hg]; exact (below_size u5_0) : w.heap.size ≤ gb195)); have n4_ := Aside0.mk ((by rw [hg]; exact (below_size u5_0) : w.heap.size ≤ gb195)); have n5_ := Aside0.mk ((by rw [hg]; exact Nat.ne_of_lt (blk_lt (g := gb193) (o := .cells #[.slice (some ad194) l0_0.length c0_0] 29 (0, 0)) u5_2) : gb193 ≠ gb195)); have n6_ := Aside0.mk ((by rw [hg]; exact Nat.ne_of_gt (blk_lt (g := gb193) (o := .cells #[.slice (some ad194) l0_0.length c0_0] 29 (0, 0)) u5_2) : gb195 ≠ gb193)); clear BK193; clear HB; have BK193 := n0_; have HB := n1_; have BK195 := n2_; have GW195 := n3_; have GE195 := n4_; have NB193_195 := n5_; have NB195_193 := n6_; clear n0_ n1_ n2_ n3_ n4_ n5_ n6_; clear hb hbox hg; have hnb51 := NB195_193.out; have hnc51 := NB193_195.out; have hcz52_0 : w50.cell? ⟨gb195, 0, none⟩ = some (.int .u64 0) := (blk_cell BK195.out 0).trans rfl; have hcz52_1 : w50.cell? ⟨gb195, 1, none⟩ = some (.int .u64 0) := (blk_cell BK195.out 1).trans rfl; have hcz52_2 : w50.cell? ⟨gb195, 2, none⟩ = some (.int .u64 0) := (blk_cell BK195.out 2).trans rfl; have hcz52_3 : w50.cell? ⟨gb195, 3, none⟩ = some (.int .u64 0) := (blk_cell BK195.out 3).trans rfl; have hcz52_4 : w50.cell? ⟨gb195, 4, none⟩ = some (.int .i64 0) := (blk_cell BK195.out 4).trans rfl; have hfz52_0 := blk_frozen BK195.out 0; have hfz52_1 := blk_frozen BK195.out 1; have hfz52_2 := blk_frozen BK195.out 2; have hfz52_3 := blk_frozen BK195.out 3; have hfz52_4 := blk_frozen BK195.out 4)) | go_quiet (fail))
        go_roundg k1
        case measure => have := HK1.out; omega
        case rel => exact ⟨(wrap64 (x12_1 + 1)), u5_33, H', ⟨by have := HK1.out; omega⟩, ⟨u5_4⟩, ⟨u5_5⟩⟩
      rw [if_pos c41] at H
      have c41b0 : decide (0 < x12_1) = true := decide_eq_true c41
      clear c41
      obtain ⟨ji42, hji42⟩ : ∃ j_ : Int, (wrap64 (x12_1 - 1)) = j_ := ⟨_, rfl⟩
      replace H : (if 0 ≤ (ji42) then (if (ji42) < (l0_0.length : Int) then (if ((rd_T53 l0_0 (ji42)).f0) ≥ ((rd_T53 l0_0 x12_1).f0) then (some false) else (impl_isBook.l0 k1 l0_0 (l0_0.length : Int) (wrap64 (x12_1 + 1)) l0_0)) else (none)) else (none)) = some r := by first | (rw [hji42] at H; exact H) | (simp only [hji42] at H ⊢; exact H)
      have hji42w : (IntKind.i64.wrap (x12_1 - 1)) = ji42 := (i64_w _).trans hji42
      by_cases c43 : 0 ≤ (ji42)
      rotate_left
      · rw [if_neg c43] at H
        exact absurd H (by simp)
      rw [if_pos c43] at H
      have c43b0 : decide (0 ≤ (ji42)) = true := decide_eq_true c43
      clear c43
      by_cases c44 : (ji42) < (l0_0.length : Int)
      rotate_left
      · rw [if_neg c44] at H
        exact absurd H (by simp)
      rw [if_pos c44] at H
      have c44b0 : decide ((ji42) < (l0_0.length : Int)) = true := decide_eq_true c44
      clear c44
      have H9 := Aside0.mk H
      clear H
      have p194 : 0 ≤ (x12_1 : Int) := of_decide_eq_true u5_19
      have q194 : x12_1 < (l0_0.length : Int) := of_decide_eq_true u5_19
      obtain ⟨ad194, e194, hx194_0, hx194_1, hx194_2, hx194_3, hx194_4⟩ := at_T53 HR0_0.out x12_1 p194 q194
      cases e194
      replace hx194_0 := (HB.out.cell (World.block_lt_of_cell? w _ hx194_0)).trans hx194_0
      replace hx194_1 := (HB.out.cell (World.block_lt_of_cell? w _ hx194_1)).trans hx194_1
      replace hx194_2 := (HB.out.cell (World.block_lt_of_cell? w _ hx194_2)).trans hx194_2
      replace hx194_3 := (HB.out.cell (World.block_lt_of_cell? w _ hx194_3)).trans hx194_3
      replace hx194_4 := (HB.out.cell (World.block_lt_of_cell? w _ hx194_4)).trans hx194_4
      replace p194 := eq_true p194
      replace q194 := eq_true q194
      go_upto_if 75 with (first | ((with_reducible refine gate_dst (N := 4) rfl ?_); refine box_event ?hg (N := 4) ?hd (cs := #[.int .u64 0, .int .u64 0, .int .u64 0, .int .u64 0, .int .i64 0]) (t := 53) ?hr ?_; (case hd => rfl); (case hg => rfl); (case hr => first | (go_simp; done) | (go_simp; rfl)); intro gb195 hg w45 hbox hb; have n0_ := Aside0.mk (blk_below (g := gb193) (o := .cells #[.slice (some ad194) l0_0.length c0_0] 29 (0, 0)) u5_2 hb); have n1_ := Aside0.mk (below_step u5_0 hb); have n2_ := Aside0.mk (hbox); have n3_ := Aside0.mk ((by rw [hg]; exact (below_size u5_0) : w.heap.size ≤ gb195)); have n4_ := Aside0.mk ((by rw [hg]; exact (below_size u5_0) : w.heap.size ≤ gb195)); have n5_ := Aside0.mk ((by rw [hg]; exact Nat.ne_of_lt (blk_lt (g := gb193) (o := .cells #[.slice (some ad194) l0_0.length c0_0] 29 (0, 0)) u5_2) : gb193 ≠ gb195)); have n6_ := Aside0.mk ((by rw [hg]; exact Nat.ne_of_gt (blk_lt (g := gb193) (o := .cells #[.slice (some ad194) l0_0.length c0_0] 29 (0, 0)) u5_2) : gb195 ≠ gb193)); clear BK193; clear HB; have BK193 := n0_; have HB := n1_; have BK195 := n2_; have GW195 := n3_; have GE195 := n4_; have NB193_195 := n5_; have NB195_193 := n6_; clear n0_ n1_ n2_ n3_ n4_ n5_ n6_; clear hb hbox hg; have hnb46 := NB195_193.out; have hnc46 := NB193_195.out; have hcz47_0 : w45.cell? ⟨gb195, 0, none⟩ = some (.int .u64 0) := (blk_cell BK195.out 0).trans rfl; have hcz47_1 : w45.cell? ⟨gb195, 1, none⟩ = some (.int .u64 0) := (blk_cell BK195.out 1).trans rfl; have hcz47_2 : w45.cell? ⟨gb195, 2, none⟩ = some (.int .u64 0) := (blk_cell BK195.out 2).trans rfl; have hcz47_3 : w45.cell? ⟨gb195, 3, none⟩ = some (.int .u64 0) := (blk_cell BK195.out 3).trans rfl; have hcz47_4 : w45.cell? ⟨gb195, 4, none⟩ = some (.int .i64 0) := (blk_cell BK195.out 4).trans rfl; have hfz47_0 := blk_frozen BK195.out 0; have hfz47_1 := blk_frozen BK195.out 1; have hfz47_2 := blk_frozen BK195.out 2; have hfz47_3 := blk_frozen BK195.out 3; have hfz47_4 := blk_frozen BK195.out 4; have hcz48_0 : w45.cell? ⟨gb193, 0, none⟩ = some (.slice (some ad194) l0_0.length c0_0) := (blk_cell BK193.out 0).trans rfl; have hfz48_0 := blk_frozen BK193.out 0; have p197 : 0 ≤ ((ji42) : Int) := of_decide_eq_true u5_19; have q197 : (ji42) < (l0_0.length : Int) := of_decide_eq_true u5_19; obtain ⟨ad197, e197, hx197_0, hx197_1, hx197_2, hx197_3, hx197_4⟩ := at_T53 HR0_0.out (ji42) p197 q197; obtain rfl : ad194 = ad197 := (by injection e197); have hn197_0 : ad194.block ≠ gb195 := Nat.ne_of_lt (Nat.lt_of_lt_of_le u5_21 GW195.out); have hn197_1 : ad194.block ≠ gb195 := Nat.ne_of_lt (Nat.lt_of_lt_of_le u5_21 GW195.out); have hn197_2 : ad194.block ≠ gb195 := Nat.ne_of_lt (Nat.lt_of_lt_of_le u5_21 GW195.out); have hn197_3 : ad194.block ≠ gb195 := Nat.ne_of_lt (Nat.lt_of_lt_of_le u5_21 GW195.out); have hn197_4 : ad194.block ≠ gb195 := Nat.ne_of_lt (Nat.lt_of_lt_of_le u5_21 GW195.out); replace hx197_0 := (HB.out.cell (World.block_lt_of_cell? w _ hx197_0)).trans hx197_0; replace hx197_1 := (HB.out.cell (World.block_lt_of_cell? w _ hx197_1)).trans hx197_1; replace hx197_2 := (HB.out.cell (World.block_lt_of_cell? w _ hx197_2)).trans hx197_2; replace hx197_3 := (HB.out.cell (World.block_lt_of_cell? w _ hx197_3)).trans hx197_3; replace hx197_4 := (HB.out.cell (World.block_lt_of_cell? w _ hx197_4)).trans hx197_4; replace hx197_0 := (cell_far (p := ⟨gb195, 0, none⟩) u5_6 (.int .u64 ((rd_T53 l0_0 x12_1).f0))).trans hx197_0; replace hx197_1 := (cell_far (p := ⟨gb195, 0, none⟩) u5_6 (.int .u64 ((rd_T53 l0_0 x12_1).f0))).trans hx197_1; replace hx197_2 := (cell_far (p := ⟨gb195, 0, none⟩) u5_6 (.int .u64 ((rd_T53 l0_0 x12_1).f0))).trans hx197_2; replace hx197_3 := (cell_far (p := ⟨gb195, 0, none⟩) u5_6 (.int .u64 ((rd_T53 l0_0 x12_1).f0))).trans hx197_3; replace hx197_4 := (cell_far (p := ⟨gb195, 0, none⟩) u5_6 (.int .u64 ((rd_T53 l0_0 x12_1).f0))).trans hx197_4; replace hx197_0 := (cell_far (p := ⟨gb195, 1, none⟩) u5_7 (.int .u64 ((rd_T53 l0_0 x12_1).f1))).trans hx197_0; replace hx197_1 := (cell_far (p := ⟨gb195, 1, none⟩) u5_7 (.int .u64 ((rd_T53 l0_0 x12_1).f1))).trans hx197_1; replace hx197_2 := (cell_far (p := ⟨gb195, 1, none⟩) u5_7 (.int .u64 ((rd_T53 l0_0 x12_1).f1))).trans hx197_2; replace hx197_3 := (cell_far (p := ⟨gb195, 1, none⟩) u5_7 (.int .u64 ((rd_T53 l0_0 x12_1).f1))).trans hx197_3; replace hx197_4 := (cell_far (p := ⟨gb195, 1, none⟩) u5_7 (.int .u64 ((rd_T53 l0_0 x12_1).f1))).trans hx197_4; replace hx197_0 := (cell_far (p := ⟨gb195, 2, none⟩) u5_8 (.int .u64 ((rd_T53 l0_0 x12_1).f2))).trans hx197_0; replace hx197_1 := (cell_far (p := ⟨gb195, 2, none⟩) u5_8 (.int .u64 ((rd_T53 l0_0 x12_1).f2))).trans hx197_1; replace hx197_2 := (cell_far (p := ⟨gb195, 2, none⟩) u5_8 (.int .u64 ((rd_T53 l0_0 x12_1).f2))).trans hx197_2; replace hx197_3 := (cell_far (p := ⟨gb195, 2, none⟩) u5_8 (.int .u64 ((rd_T53 l0_0 x12_1).f2))).trans hx197_3; replace hx197_4 := (cell_far (p := ⟨gb195, 2, none⟩) u5_8 (.int .u64 ((rd_T53 l0_0 x12_1).f2))).trans hx197_4; replace hx197_0 := (cell_far (p := ⟨gb195, 3, none⟩) u5_9 (.int .u64 ((rd_T53 l0_0 x12_1).f3))).trans hx197_0; replace hx197_1 := (cell_far (p := ⟨gb195, 3, none⟩) u5_9 (.int .u64 ((rd_T53 l0_0 x12_1).f3))).trans hx197_1; replace hx197_2 := (cell_far (p := ⟨gb195, 3, none⟩) u5_9 (.int .u64 ((rd_T53 l0_0 x12_1).f3))).trans hx197_2; replace hx197_3 := (cell_far (p := ⟨gb195, 3, none⟩) u5_9 (.int .u64 ((rd_T53 l0_0 x12_1).f3))).trans hx197_3; replace hx197_4 := (cell_far (p := ⟨gb195, 3, none⟩) u5_9 (.int .u64 ((rd_T53 l0_0 x12_1).f3))).trans hx197_4; replace hx197_0 := (cell_far (p := ⟨gb195, 4, none⟩) u5_10 (.int .i64 ((rd_T53 l0_0 x12_1).f4))).trans hx197_0; replace hx197_1 := (cell_far (p := ⟨gb195, 4, none⟩) u5_10 (.int .i64 ((rd_T53 l0_0 x12_1).f4))).trans hx197_1; replace hx197_2 := (cell_far (p := ⟨gb195, 4, none⟩) u5_10 (.int .i64 ((rd_T53 l0_0 x12_1).f4))).trans hx197_2; replace hx197_3 := (cell_far (p := ⟨gb195, 4, none⟩) u5_10 (.int .i64 ((rd_T53 l0_0 x12_1).f4))).trans hx197_3; replace hx197_4 := (cell_far (p := ⟨gb195, 4, none⟩) u5_10 (.int .i64 ((rd_T53 l0_0 x12_1).f4))).trans hx197_4; (try have hch_ := fun (n_ : Nat) => (show (((((((w45.drewN n_).setCell ⟨gb195, 0, none⟩ (.int .u64 ((rd_T53 l0_0 x12_1).f0))).setCell ⟨gb195, 1, none⟩ (.int .u64 ((rd_T53 l0_0 x12_1).f1))).setCell ⟨gb195, 2, none⟩ (.int .u64 ((rd_T53 l0_0 x12_1).f2))).setCell ⟨gb195, 3, none⟩ (.int .u64 ((rd_T53 l0_0 x12_1).f3))).setCell ⟨gb195, 4, none⟩ (.int .i64 ((rd_T53 l0_0 x12_1).f4)))) = World.drewN ((((((w45.setCell ⟨gb195, 0, none⟩ (.int .u64 ((rd_T53 l0_0 x12_1).f0))).setCell ⟨gb195, 1, none⟩ (.int .u64 ((rd_T53 l0_0 x12_1).f1))).setCell ⟨gb195, 2, none⟩ (.int .u64 ((rd_T53 l0_0 x12_1).f2))).setCell ⟨gb195, 3, none⟩ (.int .u64 ((rd_T53 l0_0 x12_1).f3))).setCell ⟨gb195, 4, none⟩ (.int .i64 ((rd_T53 l0_0 x12_1).f4)))) n_ from by simp only [Go.Proofs.Ytdbfjakhkclggaa.Slc.setCell_drewN])); (try have hy197_0 := fun (n_ : Nat) => Go.Proofs.Ytdbfjakhkclggaa.Slc.cell_of (hch_ n_) hx197_0); (try have hy197_1 := fun (n_ : Nat) => Go.Proofs.Ytdbfjakhkclggaa.Slc.cell_of (hch_ n_) hx197_1); (try have hy197_2 := fun (n_ : Nat) => Go.Proofs.Ytdbfjakhkclggaa.Slc.cell_of (hch_ n_) hx197_2); (try have hy197_3 := fun (n_ : Nat) => Go.Proofs.Ytdbfjakhkclggaa.Slc.cell_of (hch_ n_) hx197_3); (try have hy197_4 := fun (n_ : Nat) => Go.Proofs.Ytdbfjakhkclggaa.Slc.cell_of (hch_ n_) hx197_4); clear hn197_0; clear hn197_1; clear hn197_2; clear hn197_3; clear hn197_4; replace p197 := eq_true p197; replace q197 := eq_true q197))
      repeat (go_quiet (first | ((with_reducible refine gate_dst (N := 4) rfl ?_); refine box_event ?hg (N := 4) ?hd (cs := #[.int .u64 0, .int .u64 0, .int .u64 0, .int .u64 0, .int .i64 0]) (t := 53) ?hr ?_; (case hd => rfl); (case hg => rfl); (case hr => first | (go_simp; done) | (go_simp; rfl)); intro gb195 hg w45 hbox hb; have n0_ := Aside0.mk (blk_below (g := gb193) (o := .cells #[.slice (some ad194) l0_0.length c0_0] 29 (0, 0)) u5_2 hb); have n1_ := Aside0.mk (below_step u5_0 hb); have n2_ := Aside0.mk (hbox); have n3_ := Aside0.mk ((by rw [hg]; exact (below_size u5_0) : w.heap.size ≤ gb195)); have n4_ := Aside0.mk ((by rw [hg]; exact (below_size u5_0) : w.heap.size ≤ gb195)); have n5_ := Aside0.mk ((by rw [hg]; exact Nat.ne_of_lt (blk_lt (g := gb193) (o := .cells #[.slice (some ad194) l0_0.length c0_0] 29 (0, 0)) u5_2) : gb193 ≠ gb195)); have n6_ := Aside0.mk ((by rw [hg]; exact Nat.ne_of_gt (blk_lt (g := gb193) (o := .cells #[.slice (some ad194) l0_0.length c0_0] 29 (0, 0)) u5_2) : gb195 ≠ gb193)); clear BK193; clear HB; have BK193 := n0_; have HB := n1_; have BK195 := n2_; have GW195 := n3_; have GE195 := n4_; have NB193_195 := n5_; have NB195_193 := n6_; clear n0_ n1_ n2_ n3_ n4_ n5_ n6_; clear hb hbox hg; have hnb46 := NB195_193.out; have hnc46 := NB193_195.out; have hcz47_0 : w45.cell? ⟨gb195, 0, none⟩ = some (.int .u64 0) := (blk_cell BK195.out 0).trans rfl; have hcz47_1 : w45.cell? ⟨gb195, 1, none⟩ = some (.int .u64 0) := (blk_cell BK195.out 1).trans rfl; have hcz47_2 : w45.cell? ⟨gb195, 2, none⟩ = some (.int .u64 0) := (blk_cell BK195.out 2).trans rfl; have hcz47_3 : w45.cell? ⟨gb195, 3, none⟩ = some (.int .u64 0) := (blk_cell BK195.out 3).trans rfl; have hcz47_4 : w45.cell? ⟨gb195, 4, none⟩ = some (.int .i64 0) := (blk_cell BK195.out 4).trans rfl; have hfz47_0 := blk_frozen BK195.out 0; have hfz47_1 := blk_frozen BK195.out 1; have hfz47_2 := blk_frozen BK195.out 2; have hfz47_3 := blk_frozen BK195.out 3; have hfz47_4 := blk_frozen BK195.out 4; have hcz48_0 : w45.cell? ⟨gb193, 0, none⟩ = some (.slice (some ad194) l0_0.length c0_0) := (blk_cell BK193.out 0).trans rfl; have hfz48_0 := blk_frozen BK193.out 0; have p197 : 0 ≤ ((ji42) : Int) := of_decide_eq_true u5_19; have q197 : (ji42) < (l0_0.length : Int) := of_decide_eq_true u5_19; obtain ⟨ad197, e197, hx197_0, hx197_1, hx197_2, hx197_3, hx197_4⟩ := at_T53 HR0_0.out (ji42) p197 q197; obtain rfl : ad194 = ad197 := (by injection e197); have hn197_0 : ad194.block ≠ gb195 := Nat.ne_of_lt (Nat.lt_of_lt_of_le u5_21 GW195.out); have hn197_1 : ad194.block ≠ gb195 := Nat.ne_of_lt (Nat.lt_of_lt_of_le u5_21 GW195.out); have hn197_2 : ad194.block ≠ gb195 := Nat.ne_of_lt (Nat.lt_of_lt_of_le u5_21 GW195.out); have hn197_3 : ad194.block ≠ gb195 := Nat.ne_of_lt (Nat.lt_of_lt_of_le u5_21 GW195.out); have hn197_4 : ad194.block ≠ gb195 := Nat.ne_of_lt (Nat.lt_of_lt_of_le u5_21 GW195.out); replace hx197_0 := (HB.out.cell (World.block_lt_of_cell? w _ hx197_0)).trans hx197_0; replace hx197_1 := (HB.out.cell (World.block_lt_of_cell? w _ hx197_1)).trans hx197_1; replace hx197_2 := (HB.out.cell (World.block_lt_of_cell? w _ hx197_2)).trans hx197_2; replace hx197_3 := (HB.out.cell (World.block_lt_of_cell? w _ hx197_3)).trans hx197_3; replace hx197_4 := (HB.out.cell (World.block_lt_of_cell? w _ hx197_4)).trans hx197_4; replace hx197_0 := (cell_far (p := ⟨gb195, 0, none⟩) u5_6 (.int .u64 ((rd_T53 l0_0 x12_1).f0))).trans hx197_0; replace hx197_1 := (cell_far (p := ⟨gb195, 0, none⟩) u5_6 (.int .u64 ((rd_T53 l0_0 x12_1).f0))).trans hx197_1; replace hx197_2 := (cell_far (p := ⟨gb195, 0, none⟩) u5_6 (.int .u64 ((rd_T53 l0_0 x12_1).f0))).trans hx197_2; replace hx197_3 := (cell_far (p := ⟨gb195, 0, none⟩) u5_6 (.int .u64 ((rd_T53 l0_0 x12_1).f0))).trans hx197_3; replace hx197_4 := (cell_far (p := ⟨gb195, 0, none⟩) u5_6 (.int .u64 ((rd_T53 l0_0 x12_1).f0))).trans hx197_4; replace hx197_0 := (cell_far (p := ⟨gb195, 1, none⟩) u5_7 (.int .u64 ((rd_T53 l0_0 x12_1).f1))).trans hx197_0; replace hx197_1 := (cell_far (p := ⟨gb195, 1, none⟩) u5_7 (.int .u64 ((rd_T53 l0_0 x12_1).f1))).trans hx197_1; replace hx197_2 := (cell_far (p := ⟨gb195, 1, none⟩) u5_7 (.int .u64 ((rd_T53 l0_0 x12_1).f1))).trans hx197_2; replace hx197_3 := (cell_far (p := ⟨gb195, 1, none⟩) u5_7 (.int .u64 ((rd_T53 l0_0 x12_1).f1))).trans hx197_3; replace hx197_4 := (cell_far (p := ⟨gb195, 1, none⟩) u5_7 (.int .u64 ((rd_T53 l0_0 x12_1).f1))).trans hx197_4; replace hx197_0 := (cell_far (p := ⟨gb195, 2, none⟩) u5_8 (.int .u64 ((rd_T53 l0_0 x12_1).f2))).trans hx197_0; replace hx197_1 := (cell_far (p := ⟨gb195, 2, none⟩) u5_8 (.int .u64 ((rd_T53 l0_0 x12_1).f2))).trans hx197_1; replace hx197_2 := (cell_far (p := ⟨gb195, 2, none⟩) u5_8 (.int .u64 ((rd_T53 l0_0 x12_1).f2))).trans hx197_2; replace hx197_3 := (cell_far (p := ⟨gb195, 2, none⟩) u5_8 (.int .u64 ((rd_T53 l0_0 x12_1).f2))).trans hx197_3; replace hx197_4 := (cell_far (p := ⟨gb195, 2, none⟩) u5_8 (.int .u64 ((rd_T53 l0_0 x12_1).f2))).trans hx197_4; replace hx197_0 := (cell_far (p := ⟨gb195, 3, none⟩) u5_9 (.int .u64 ((rd_T53 l0_0 x12_1).f3))).trans hx197_0; replace hx197_1 := (cell_far (p := ⟨gb195, 3, none⟩) u5_9 (.int .u64 ((rd_T53 l0_0 x12_1).f3))).trans hx197_1; replace hx197_2 := (cell_far (p := ⟨gb195, 3, none⟩) u5_9 (.int .u64 ((rd_T53 l0_0 x12_1).f3))).trans hx197_2; replace hx197_3 := (cell_far (p := ⟨gb195, 3, none⟩) u5_9 (.int .u64 ((rd_T53 l0_0 x12_1).f3))).trans hx197_3; replace hx197_4 := (cell_far (p := ⟨gb195, 3, none⟩) u5_9 (.int .u64 ((rd_T53 l0_0 x12_1).f3))).trans hx197_4; replace hx197_0 := (cell_far (p := ⟨gb195, 4, none⟩) u5_10 (.int .i64 ((rd_T53 l0_0 x12_1).f4))).trans hx197_0; replace hx197_1 := (cell_far (p := ⟨gb195, 4, none⟩) u5_10 (.int .i64 ((rd_T53 l0_0 x12_1).f4))).trans hx197_1; replace hx197_2 := (cell_far (p := ⟨gb195, 4, none⟩) u5_10 (.int .i64 ((rd_T53 l0_0 x12_1).f4))).trans hx197_2; replace hx197_3 := (cell_far (p := ⟨gb195, 4, none⟩) u5_10 (.int .i64 ((rd_T53 l0_0 x12_1).f4))).trans hx197_3; replace hx197_4 := (cell_far (p := ⟨gb195, 4, none⟩) u5_10 (.int .i64 ((rd_T53 l0_0 x12_1).f4))).trans hx197_4; (try have hch_ := fun (n_ : Nat) => (show (((((((w45.drewN n_).setCell ⟨gb195, 0, none⟩ (.int .u64 ((rd_T53 l0_0 x12_1).f0))).setCell ⟨gb195, 1, none⟩ (.int .u64 ((rd_T53 l0_0 x12_1).f1))).setCell ⟨gb195, 2, none⟩ (.int .u64 ((rd_T53 l0_0 x12_1).f2))).setCell ⟨gb195, 3, none⟩ (.int .u64 ((rd_T53 l0_0 x12_1).f3))).setCell ⟨gb195, 4, none⟩ (.int .i64 ((rd_T53 l0_0 x12_1).f4)))) = World.drewN ((((((w45.setCell ⟨gb195, 0, none⟩ (.int .u64 ((rd_T53 l0_0 x12_1).f0))).setCell ⟨gb195, 1, none⟩ (.int .u64 ((rd_T53 l0_0 x12_1).f1))).setCell ⟨gb195, 2, none⟩ (.int .u64 ((rd_T53 l0_0 x12_1).f2))).setCell ⟨gb195, 3, none⟩ (.int .u64 ((rd_T53 l0_0 x12_1).f3))).setCell ⟨gb195, 4, none⟩ (.int .i64 ((rd_T53 l0_0 x12_1).f4)))) n_ from by simp only [Go.Proofs.Ytdbfjakhkclggaa.Slc.setCell_drewN])); (try have hy197_0 := fun (n_ : Nat) => Go.Proofs.Ytdbfjakhkclggaa.Slc.cell_of (hch_ n_) hx197_0); (try have hy197_1 := fun (n_ : Nat) => Go.Proofs.Ytdbfjakhkclggaa.Slc.cell_of (hch_ n_) hx197_1); (try have hy197_2 := fun (n_ : Nat) => Go.Proofs.Ytdbfjakhkclggaa.Slc.cell_of (hch_ n_) hx197_2); (try have hy197_3 := fun (n_ : Nat) => Go.Proofs.Ytdbfjakhkclggaa.Slc.cell_of (hch_ n_) hx197_3); (try have hy197_4 := fun (n_ : Nat) => Go.Proofs.Ytdbfjakhkclggaa.Slc.cell_of (hch_ n_) hx197_4); clear hn197_0; clear hn197_1; clear hn197_2; clear hn197_3; clear hn197_4; replace p197 := eq_true p197; replace q197 := eq_true q197)); go_upto_if 75 with (first | ((with_reducible refine gate_dst (N := 4) rfl ?_); refine box_event ?hg (N := 4) ?hd (cs := #[.int .u64 0, .int .u64 0, .int .u64 0, .int .u64 0, .int .i64 0]) (t := 53) ?hr ?_; (case hd => rfl); (case hg => rfl); (case hr => first | (go_simp; done) | (go_simp; rfl)); intro gb195 hg w45 hbox hb; have n0_ := Aside0.mk (blk_below (g := gb193) (o := .cells #[.slice (some ad194) l0_0.length c0_0] 29 (0, 0)) u5_2 hb); have n1_ := Aside0.mk (below_step u5_0 hb); have n2_ := Aside0.mk (hbox); have n3_ := Aside0.mk ((by rw [hg]; exact (below_size u5_0) : w.heap.size ≤ gb195)); have n4_ := Aside0.mk ((by rw [hg]; exact (below_size u5_0) : w.heap.size ≤ gb195)); have n5_ := Aside0.mk ((by rw [hg]; exact Nat.ne_of_lt (blk_lt (g := gb193) (o := .cells #[.slice (some ad194) l0_0.length c0_0] 29 (0, 0)) u5_2) : gb193 ≠ gb195)); have n6_ := Aside0.mk ((by rw [hg]; exact Nat.ne_of_gt (blk_lt (g := gb193) (o := .cells #[.slice (some ad194) l0_0.length c0_0] 29 (0, 0)) u5_2) : gb195 ≠ gb193)); clear BK193; clear HB; have BK193 := n0_; have HB := n1_; have BK195 := n2_; have GW195 := n3_; have GE195 := n4_; have NB193_195 := n5_; have NB195_193 := n6_; clear n0_ n1_ n2_ n3_ n4_ n5_ n6_; clear hb hbox hg; have hnb46 := NB195_193.out; have hnc46 := NB193_195.out; have hcz47_0 : w45.cell? ⟨gb195, 0, none⟩ = some (.int .u64 0) := (blk_cell BK195.out 0).trans rfl; have hcz47_1 : w45.cell? ⟨gb195, 1, none⟩ = some (.int .u64 0) := (blk_cell BK195.out 1).trans rfl; have hcz47_2 : w45.cell? ⟨gb195, 2, none⟩ = some (.int .u64 0) := (blk_cell BK195.out 2).trans rfl; have hcz47_3 : w45.cell? ⟨gb195, 3, none⟩ = some (.int .u64 0) := (blk_cell BK195.out 3).trans rfl; have hcz47_4 : w45.cell? ⟨gb195, 4, none⟩ = some (.int .i64 0) := (blk_cell BK195.out 4).trans rfl; have hfz47_0 := blk_frozen BK195.out 0; have hfz47_1 := blk_frozen BK195.out 1; have hfz47_2 := blk_frozen BK195.out 2; have hfz47_3 := blk_frozen BK195.out 3; have hfz47_4 := blk_frozen BK195.out 4; have hcz48_0 : w45.cell? ⟨gb193, 0, none⟩ = some (.slice (some ad194) l0_0.length c0_0) := (blk_cell BK193.out 0).trans rfl; have hfz48_0 := blk_frozen BK193.out 0; have p197 : 0 ≤ ((ji42) : Int) := of_decide_eq_true u5_19; have q197 : (ji42) < (l0_0.length : Int) := of_decide_eq_true u5_19; obtain ⟨ad197, e197, hx197_0, hx197_1, hx197_2, hx197_3, hx197_4⟩ := at_T53 HR0_0.out (ji42) p197 q197; obtain rfl : ad194 = ad197 := (by injection e197); have hn197_0 : ad194.block ≠ gb195 := Nat.ne_of_lt (Nat.lt_of_lt_of_le u5_21 GW195.out); have hn197_1 : ad194.block ≠ gb195 := Nat.ne_of_lt (Nat.lt_of_lt_of_le u5_21 GW195.out); have hn197_2 : ad194.block ≠ gb195 := Nat.ne_of_lt (Nat.lt_of_lt_of_le u5_21 GW195.out); have hn197_3 : ad194.block ≠ gb195 := Nat.ne_of_lt (Nat.lt_of_lt_of_le u5_21 GW195.out); have hn197_4 : ad194.block ≠ gb195 := Nat.ne_of_lt (Nat.lt_of_lt_of_le u5_21 GW195.out); replace hx197_0 := (HB.out.cell (World.block_lt_of_cell? w _ hx197_0)).trans hx197_0; replace hx197_1 := (HB.out.cell (World.block_lt_of_cell? w _ hx197_1)).trans hx197_1; replace hx197_2 := (HB.out.cell (World.block_lt_of_cell? w _ hx197_2)).trans hx197_2; replace hx197_3 := (HB.out.cell (World.block_lt_of_cell? w _ hx197_3)).trans hx197_3; replace hx197_4 := (HB.out.cell (World.block_lt_of_cell? w _ hx197_4)).trans hx197_4; replace hx197_0 := (cell_far (p := ⟨gb195, 0, none⟩) u5_6 (.int .u64 ((rd_T53 l0_0 x12_1).f0))).trans hx197_0; replace hx197_1 := (cell_far (p := ⟨gb195, 0, none⟩) u5_6 (.int .u64 ((rd_T53 l0_0 x12_1).f0))).trans hx197_1; replace hx197_2 := (cell_far (p := ⟨gb195, 0, none⟩) u5_6 (.int .u64 ((rd_T53 l0_0 x12_1).f0))).trans hx197_2; replace hx197_3 := (cell_far (p := ⟨gb195, 0, none⟩) u5_6 (.int .u64 ((rd_T53 l0_0 x12_1).f0))).trans hx197_3; replace hx197_4 := (cell_far (p := ⟨gb195, 0, none⟩) u5_6 (.int .u64 ((rd_T53 l0_0 x12_1).f0))).trans hx197_4; replace hx197_0 := (cell_far (p := ⟨gb195, 1, none⟩) u5_7 (.int .u64 ((rd_T53 l0_0 x12_1).f1))).trans hx197_0; replace hx197_1 := (cell_far (p := ⟨gb195, 1, none⟩) u5_7 (.int .u64 ((rd_T53 l0_0 x12_1).f1))).trans hx197_1; replace hx197_2 := (cell_far (p := ⟨gb195, 1, none⟩) u5_7 (.int .u64 ((rd_T53 l0_0 x12_1).f1))).trans hx197_2; replace hx197_3 := (cell_far (p := ⟨gb195, 1, none⟩) u5_7 (.int .u64 ((rd_T53 l0_0 x12_1).f1))).trans hx197_3; replace hx197_4 := (cell_far (p := ⟨gb195, 1, none⟩) u5_7 (.int .u64 ((rd_T53 l0_0 x12_1).f1))).trans hx197_4; replace hx197_0 := (cell_far (p := ⟨gb195, 2, none⟩) u5_8 (.int .u64 ((rd_T53 l0_0 x12_1).f2))).trans hx197_0; replace hx197_1 := (cell_far (p := ⟨gb195, 2, none⟩) u5_8 (.int .u64 ((rd_T53 l0_0 x12_1).f2))).trans hx197_1; replace hx197_2 := (cell_far (p := ⟨gb195, 2, none⟩) u5_8 (.int .u64 ((rd_T53 l0_0 x12_1).f2))).trans hx197_2; replace hx197_3 := (cell_far (p := ⟨gb195, 2, none⟩) u5_8 (.int .u64 ((rd_T53 l0_0 x12_1).f2))).trans hx197_3; replace hx197_4 := (cell_far (p := ⟨gb195, 2, none⟩) u5_8 (.int .u64 ((rd_T53 l0_0 x12_1).f2))).trans hx197_4; replace hx197_0 := (cell_far (p := ⟨gb195, 3, none⟩) u5_9 (.int .u64 ((rd_T53 l0_0 x12_1).f3))).trans hx197_0; replace hx197_1 := (cell_far (p := ⟨gb195, 3, none⟩) u5_9 (.int .u64 ((rd_T53 l0_0 x12_1).f3))).trans hx197_1; replace hx197_2 := (cell_far (p := ⟨gb195, 3, none⟩) u5_9 (.int .u64 ((rd_T53 l0_0 x12_1).f3))).trans hx197_2; replace hx197_3 := (cell_far (p := ⟨gb195, 3, none⟩) u5_9 (.int .u64 ((rd_T53 l0_0 x12_1).f3))).trans hx197_3; replace hx197_4 := (cell_far (p := ⟨gb195, 3, none⟩) u5_9 (.int .u64 ((rd_T53 l0_0 x12_1).f3))).trans hx197_4; replace hx197_0 := (cell_far (p := ⟨gb195, 4, none⟩) u5_10 (.int .i64 ((rd_T53 l0_0 x12_1).f4))).trans hx197_0; replace hx197_1 := (cell_far (p := ⟨gb195, 4, none⟩) u5_10 (.int .i64 ((rd_T53 l0_0 x12_1).f4))).trans hx197_1; replace hx197_2 := (cell_far (p := ⟨gb195, 4, none⟩) u5_10 (.int .i64 ((rd_T53 l0_0 x12_1).f4))).trans hx197_2; replace hx197_3 := (cell_far (p := ⟨gb195, 4, none⟩) u5_10 (.int .i64 ((rd_T53 l0_0 x12_1).f4))).trans hx197_3; replace hx197_4 := (cell_far (p := ⟨gb195, 4, none⟩) u5_10 (.int .i64 ((rd_T53 l0_0 x12_1).f4))).trans hx197_4; (try have hch_ := fun (n_ : Nat) => (show (((((((w45.drewN n_).setCell ⟨gb195, 0, none⟩ (.int .u64 ((rd_T53 l0_0 x12_1).f0))).setCell ⟨gb195, 1, none⟩ (.int .u64 ((rd_T53 l0_0 x12_1).f1))).setCell ⟨gb195, 2, none⟩ (.int .u64 ((rd_T53 l0_0 x12_1).f2))).setCell ⟨gb195, 3, none⟩ (.int .u64 ((rd_T53 l0_0 x12_1).f3))).setCell ⟨gb195, 4, none⟩ (.int .i64 ((rd_T53 l0_0 x12_1).f4)))) = World.drewN ((((((w45.setCell ⟨gb195, 0, none⟩ (.int .u64 ((rd_T53 l0_0 x12_1).f0))).setCell ⟨gb195, 1, none⟩ (.int .u64 ((rd_T53 l0_0 x12_1).f1))).setCell ⟨gb195, 2, none⟩ (.int .u64 ((rd_T53 l0_0 x12_1).f2))).setCell ⟨gb195, 3, none⟩ (.int .u64 ((rd_T53 l0_0 x12_1).f3))).setCell ⟨gb195, 4, none⟩ (.int .i64 ((rd_T53 l0_0 x12_1).f4)))) n_ from by simp only [Go.Proofs.Ytdbfjakhkclggaa.Slc.setCell_drewN])); (try have hy197_0 := fun (n_ : Nat) => Go.Proofs.Ytdbfjakhkclggaa.Slc.cell_of (hch_ n_) hx197_0); (try have hy197_1 := fun (n_ : Nat) => Go.Proofs.Ytdbfjakhkclggaa.Slc.cell_of (hch_ n_) hx197_1); (try have hy197_2 := fun (n_ : Nat) => Go.Proofs.Ytdbfjakhkclggaa.Slc.cell_of (hch_ n_) hx197_2); (try have hy197_3 := fun (n_ : Nat) => Go.Proofs.Ytdbfjakhkclggaa.Slc.cell_of (hch_ n_) hx197_3); (try have hy197_4 := fun (n_ : Nat) => Go.Proofs.Ytdbfjakhkclggaa.Slc.cell_of (hch_ n_) hx197_4); clear hn197_0; clear hn197_1; clear hn197_2; clear hn197_3; clear hn197_4; replace p197 := eq_true p197; replace q197 := eq_true q197)))
      have H := H9.out
      clear H9
      by_cases c49 : ((rd_T53 l0_0 (ji42)).f0) ≥ ((rd_T53 l0_0 x12_1).f0)
      · rw [if_pos c49] at H
        have c49b0 : decide (((rd_T53 l0_0 x12_1).f0) ≤ ((rd_T53 l0_0 (ji42)).f0)) = true := decide_eq_true c49
        clear c49
        (first | rw [c49b0] | (simp only [i64_w, i32_w]; rw [c49b0]) | skip)
        obtain rfl := Option.some.inj H
        go_wp2
        repeat (go_quiet (fail); try go_wp2)
        go_ret
        exact ⟨by first | rfl | (simp [errW_none, errW_some] <;> rfl) | (simp only [← hji9, ← hji42]; first | rfl | (simp [errW_none, errW_some] <;> rfl)) | (simp [*, errW_none, errW_some] <;> rfl), u5_5⟩
      rw [if_neg c49] at H
      have c49b0 : decide (((rd_T53 l0_0 x12_1).f0) ≤ ((rd_T53 l0_0 (ji42)).f0)) = false := decide_eq_false c49
      clear c49
      (first | rw [c49b0] | (simp only [i64_w, i32_w]; rw [c49b0]) | skip)
      have H' := Aside0.mk H
      clear H
      go_wp2
      repeat (go_quiet (fail); try go_wp2)
      go_roundg k1
      case measure => have := HK1.out; omega
      case rel => exact ⟨(wrap64 (x12_1 + 1)), u5_33, H', ⟨by have := HK1.out; omega⟩, ⟨u5_4⟩, ⟨u5_5⟩⟩
    rw [if_pos c20] at H
    have c20b0 : (((rd_T53 l0_0 x12_1).f4) == 0) = true := beq_iff_eq.mpr c20
    have c20b1 : (((rd_T53 l0_0 x12_1).f4) != 0) = false := bne_eq_false_iff_eq.mpr c20
    clear c20
    by_cases c21 : ((rd_T53 l0_0 x12_1).f2) = 0
    rotate_left
    · rw [if_neg c21] at H
      have c21b0 : (((rd_T53 l0_0 x12_1).f2) == 0) = false := beq_eq_false_iff_ne.mpr c21
      have c21b1 : (((rd_T53 l0_0 x12_1).f2) != 0) = true := bne_iff_ne.mpr c21
      obtain rfl := Option.some.inj H
      have p194 : 0 ≤ (x12_1 : Int) := of_decide_eq_true u5_19
      have q194 : x12_1 < (l0_0.length : Int) := of_decide_eq_true u5_19
      obtain ⟨ad194, e194, hx194_0, hx194_1, hx194_2, hx194_3, hx194_4⟩ := at_T53 HR0_0.out x12_1 p194 q194
      cases e194
      replace hx194_0 := (HB.out.cell (World.block_lt_of_cell? w _ hx194_0)).trans hx194_0
      replace hx194_1 := (HB.out.cell (World.block_lt_of_cell? w _ hx194_1)).trans hx194_1
      replace hx194_2 := (HB.out.cell (World.block_lt_of_cell? w _ hx194_2)).trans hx194_2
      replace hx194_3 := (HB.out.cell (World.block_lt_of_cell? w _ hx194_3)).trans hx194_3
      replace hx194_4 := (HB.out.cell (World.block_lt_of_cell? w _ hx194_4)).trans hx194_4
      replace p194 := eq_true p194
      replace q194 := eq_true q194
      go_wp2_with (first | (first | ((with_reducible refine gate_dst (N := 4) rfl ?_); refine box_event ?hg (N := 4) ?hd (cs := #[.int .u64 0, .int .u64 0, .int .u64 0, .int .u64 0, .int .i64 0]) (t := 53) ?hr ?_; (case hd => rfl); (case hg => rfl); (case hr => first | (go_simp; done) | (go_simp; rfl)); intro gb195 hg w38 hbox hb; have n0_ := Aside0.mk (blk_below (g := gb193) (o := .cells #[.slice (some ad194) l0_0.length c0_0] 29 (0, 0)) u5_2 hb); have n1_ := Aside0.mk (below_step u5_0 hb); have n2_ := Aside0.mk (hbox); have n3_ := Aside0.mk ((by rw [hg]; exact (below_size u5_0) : w.heap.size ≤ gb195)); have n4_ := Aside0.mk ((by rw [hg]; exact (below_size u5_0) : w.heap.size ≤ gb195)); have n5_ := Aside0.mk ((by rw [hg]; exact Nat.ne_of_lt (blk_lt (g := gb193) (o := .cells #[.slice (some ad194) l0_0.length c0_0] 29 (0, 0)) u5_2) : gb193 ≠ gb195)); have n6_ := Aside0.mk ((by rw [hg]; exact Nat.ne_of_gt (blk_lt (g := gb193) (o := .cells #[.slice (some ad194) l0_0.length c0_0] 29 (0, 0)) u5_2) : gb195 ≠ gb193)); clear BK193; clear HB; have BK193 := n0_; have HB := n1_; have BK195 := n2_; have GW195 := n3_; have GE195 := n4_; have NB193_195 := n5_; have NB195_193 := n6_; clear n0_ n1_ n2_ n3_ n4_ n5_ n6_; clear hb hbox hg; have hnb39 := NB195_193.out; have hnc39 := NB193_195.out; have hcz40_0 : w38.cell? ⟨gb195, 0, none⟩ = some (.int .u64 0) := (blk_cell BK195.out 0).trans rfl; have hcz40_1 : w38.cell? ⟨gb195, 1, none⟩ = some (.int .u64 0) := (blk_cell BK195.out 1).trans rfl; have hcz40_2 : w38.cell? ⟨gb195, 2, none⟩ = some (.int .u64 0) := (blk_cell BK195.out 2).trans rfl; have hcz40_3 : w38.cell? ⟨gb195, 3, none⟩ = some (.int .u64 0) := (blk_cell BK195.out 3).trans rfl; have hcz40_4 : w38.cell? ⟨gb195, 4, none⟩ = some (.int .i64 0) := (blk_cell BK195.out 4).trans rfl; have hfz40_0 := blk_frozen BK195.out 0; have hfz40_1 := blk_frozen BK195.out 1; have hfz40_2 := blk_frozen BK195.out 2; have hfz40_3 := blk_frozen BK195.out 3; have hfz40_4 := blk_frozen BK195.out 4)) | go_quiet (fail))
      go_ret
      exact ⟨by first | rfl | (simp [errW_none, errW_some] <;> rfl) | (simp only [← hji9]; first | rfl | (simp [errW_none, errW_some] <;> rfl)) | (simp [*, errW_none, errW_some] <;> rfl), u5_5⟩
    rw [if_pos c21] at H
    have c21b0 : (((rd_T53 l0_0 x12_1).f2) == 0) = true := beq_iff_eq.mpr c21
    have c21b1 : (((rd_T53 l0_0 x12_1).f2) != 0) = false := bne_eq_false_iff_eq.mpr c21
    clear c21
    by_cases c22 : ((rd_T53 l0_0 x12_1).f3) = 0
    rotate_left
    · rw [if_neg c22] at H
      have c22b0 : (((rd_T53 l0_0 x12_1).f3) == 0) = false := beq_eq_false_iff_ne.mpr c22
      have c22b1 : (((rd_T53 l0_0 x12_1).f3) != 0) = true := bne_iff_ne.mpr c22
      obtain rfl := Option.some.inj H
      have p194 : 0 ≤ (x12_1 : Int) := of_decide_eq_true u5_19
      have q194 : x12_1 < (l0_0.length : Int) := of_decide_eq_true u5_19
      obtain ⟨ad194, e194, hx194_0, hx194_1, hx194_2, hx194_3, hx194_4⟩ := at_T53 HR0_0.out x12_1 p194 q194
      cases e194
      replace hx194_0 := (HB.out.cell (World.block_lt_of_cell? w _ hx194_0)).trans hx194_0
      replace hx194_1 := (HB.out.cell (World.block_lt_of_cell? w _ hx194_1)).trans hx194_1
      replace hx194_2 := (HB.out.cell (World.block_lt_of_cell? w _ hx194_2)).trans hx194_2
      replace hx194_3 := (HB.out.cell (World.block_lt_of_cell? w _ hx194_3)).trans hx194_3
      replace hx194_4 := (HB.out.cell (World.block_lt_of_cell? w _ hx194_4)).trans hx194_4
      replace p194 := eq_true p194
      replace q194 := eq_true q194
      go_wp2_with (first | (first | ((with_reducible refine gate_dst (N := 4) rfl ?_); refine box_event ?hg (N := 4) ?hd (cs := #[.int .u64 0, .int .u64 0, .int .u64 0, .int .u64 0, .int .i64 0]) (t := 53) ?hr ?_; (case hd => rfl); (case hg => rfl); (case hr => first | (go_simp; done) | (go_simp; rfl)); intro gb195 hg w35 hbox hb; have n0_ := Aside0.mk (blk_below (g := gb193) (o := .cells #[.slice (some ad194) l0_0.length c0_0] 29 (0, 0)) u5_2 hb); have n1_ := Aside0.mk (below_step u5_0 hb); have n2_ := Aside0.mk (hbox); have n3_ := Aside0.mk ((by rw [hg]; exact (below_size u5_0) : w.heap.size ≤ gb195)); have n4_ := Aside0.mk ((by rw [hg]; exact (below_size u5_0) : w.heap.size ≤ gb195)); have n5_ := Aside0.mk ((by rw [hg]; exact Nat.ne_of_lt (blk_lt (g := gb193) (o := .cells #[.slice (some ad194) l0_0.length c0_0] 29 (0, 0)) u5_2) : gb193 ≠ gb195)); have n6_ := Aside0.mk ((by rw [hg]; exact Nat.ne_of_gt (blk_lt (g := gb193) (o := .cells #[.slice (some ad194) l0_0.length c0_0] 29 (0, 0)) u5_2) : gb195 ≠ gb193)); clear BK193; clear HB; have BK193 := n0_; have HB := n1_; have BK195 := n2_; have GW195 := n3_; have GE195 := n4_; have NB193_195 := n5_; have NB195_193 := n6_; clear n0_ n1_ n2_ n3_ n4_ n5_ n6_; clear hb hbox hg; have hnb36 := NB195_193.out; have hnc36 := NB193_195.out; have hcz37_0 : w35.cell? ⟨gb195, 0, none⟩ = some (.int .u64 0) := (blk_cell BK195.out 0).trans rfl; have hcz37_1 : w35.cell? ⟨gb195, 1, none⟩ = some (.int .u64 0) := (blk_cell BK195.out 1).trans rfl; have hcz37_2 : w35.cell? ⟨gb195, 2, none⟩ = some (.int .u64 0) := (blk_cell BK195.out 2).trans rfl; have hcz37_3 : w35.cell? ⟨gb195, 3, none⟩ = some (.int .u64 0) := (blk_cell BK195.out 3).trans rfl; have hcz37_4 : w35.cell? ⟨gb195, 4, none⟩ = some (.int .i64 0) := (blk_cell BK195.out 4).trans rfl; have hfz37_0 := blk_frozen BK195.out 0; have hfz37_1 := blk_frozen BK195.out 1; have hfz37_2 := blk_frozen BK195.out 2; have hfz37_3 := blk_frozen BK195.out 3; have hfz37_4 := blk_frozen BK195.out 4)) | go_quiet (fail))
      go_ret
      exact ⟨by first | rfl | (simp [errW_none, errW_some] <;> rfl) | (simp only [← hji9]; first | rfl | (simp [errW_none, errW_some] <;> rfl)) | (simp [*, errW_none, errW_some] <;> rfl), u5_5⟩
    rw [if_pos c22] at H
    have c22b0 : (((rd_T53 l0_0 x12_1).f3) == 0) = true := beq_iff_eq.mpr c22
    have c22b1 : (((rd_T53 l0_0 x12_1).f3) != 0) = false := bne_eq_false_iff_eq.mpr c22
    clear c22
    by_cases c23 : x12_1 > 0
    rotate_left
    · rw [if_neg c23] at H
      have c23b0 : decide (0 < x12_1) = false := decide_eq_false c23
      clear c23
      have H' := Aside0.mk H
      clear H
      have p194 : 0 ≤ (x12_1 : Int) := of_decide_eq_true u5_19
      have q194 : x12_1 < (l0_0.length : Int) := of_decide_eq_true u5_19
      obtain ⟨ad194, e194, hx194_0, hx194_1, hx194_2, hx194_3, hx194_4⟩ := at_T53 HR0_0.out x12_1 p194 q194
      cases e194
      replace hx194_0 := (HB.out.cell (World.block_lt_of_cell? w _ hx194_0)).trans hx194_0
      replace hx194_1 := (HB.out.cell (World.block_lt_of_cell? w _ hx194_1)).trans hx194_1
      replace hx194_2 := (HB.out.cell (World.block_lt_of_cell? w _ hx194_2)).trans hx194_2
      replace hx194_3 := (HB.out.cell (World.block_lt_of_cell? w _ hx194_3)).trans hx194_3
      replace hx194_4 := (HB.out.cell (World.block_lt_of_cell? w _ hx194_4)).trans hx194_4
      replace p194 := eq_true p194
      replace q194 := eq_true q194
      go_wp2_with (first | (first | ((with_reducible refine gate_dst (N := 4) rfl ?_); refine box_event ?hg (N := 4) ?hd (cs := #[.int .u64 0, .int .u64 0, .int .u64 0, .int .u64 0, .int .i64 0]) (t := 53) ?hr ?_; (case hd => rfl); (case hg => rfl); (case hr => first | (go_simp; done) | (go_simp; rfl)); intro gb195 hg w32 hbox hb; have n0_ := Aside0.mk (blk_below (g := gb193) (o := .cells #[.slice (some ad194) l0_0.length c0_0] 29 (0, 0)) u5_2 hb); have n1_ := Aside0.mk (below_step u5_0 hb); have n2_ := Aside0.mk (hbox); have n3_ := Aside0.mk ((by rw [hg]; exact (below_size u5_0) : w.heap.size ≤ gb195)); have n4_ := Aside0.mk ((by rw [hg]; exact (below_size u5_0) : w.heap.size ≤ gb195)); have n5_ := Aside0.mk ((by rw [hg]; exact Nat.ne_of_lt (blk_lt (g := gb193) (o := .cells #[.slice (some ad194) l0_0.length c0_0] 29 (0, 0)) u5_2) : gb193 ≠ gb195)); have n6_ := Aside0.mk ((by rw [hg]; exact Nat.ne_of_gt (blk_lt (g := gb193) (o := .cells #[.slice (some ad194) l0_0.length c0_0] 29 (0, 0)) u5_2) : gb195 ≠ gb193)); clear BK193; clear HB; have BK193 := n0_; have HB := n1_; have BK195 := n2_; have GW195 := n3_; have GE195 := n4_; have NB193_195 := n5_; have NB195_193 := n6_; clear n0_ n1_ n2_ n3_ n4_ n5_ n6_; clear hb hbox hg; have hnb33 := NB195_193.out; have hnc33 := NB193_195.out; have hcz34_0 : w32.cell? ⟨gb195, 0, none⟩ = some (.int .u64 0) := (blk_cell BK195.out 0).trans rfl; have hcz34_1 : w32.cell? ⟨gb195, 1, none⟩ = some (.int .u64 0) := (blk_cell BK195.out 1).trans rfl; have hcz34_2 : w32.cell? ⟨gb195, 2, none⟩ = some (.int .u64 0) := (blk_cell BK195.out 2).trans rfl; have hcz34_3 : w32.cell? ⟨gb195, 3, none⟩ = some (.int .u64 0) := (blk_cell BK195.out 3).trans rfl; have hcz34_4 : w32.cell? ⟨gb195, 4, none⟩ = some (.int .i64 0) := (blk_cell BK195.out 4).trans rfl; have hfz34_0 := blk_frozen BK195.out 0; have hfz34_1 := blk_frozen BK195.out 1; have hfz34_2 := blk_frozen BK195.out 2; have hfz34_3 := blk_frozen BK195.out 3; have hfz34_4 := blk_frozen BK195.out 4)) | go_quiet (fail))
      go_roundg k1
      case measure => have := HK1.out; omega
      case rel => exact ⟨(wrap64 (x12_1 + 1)), u5_33, H', ⟨by have := HK1.out; omega⟩, ⟨u5_4⟩, ⟨u5_5⟩⟩
    rw [if_pos c23] at H
    have c23b0 : decide (0 < x12_1) = true := decide_eq_true c23
    clear c23
    obtain ⟨ji24, hji24⟩ : ∃ j_ : Int, (wrap64 (x12_1 - 1)) = j_ := ⟨_, rfl⟩
    replace H : (if 0 ≤ (ji24) then (if (ji24) < (l0_0.length : Int) then (if ((rd_T53 l0_0 (ji24)).f0) ≥ ((rd_T53 l0_0 x12_1).f0) then (some false) else (impl_isBook.l0 k1 l0_0 (l0_0.length : Int) (wrap64 (x12_1 + 1)) l0_0)) else (none)) else (none)) = some r := by first | (rw [hji24] at H; exact H) | (simp only [hji24] at H ⊢; exact H)
    have hji24w : (IntKind.i64.wrap (x12_1 - 1)) = ji24 := (i64_w _).trans hji24
    by_cases c25 : 0 ≤ (ji24)
    rotate_left
    · rw [if_neg c25] at H
      exact absurd H (by simp)
    rw [if_pos c25] at H
    have c25b0 : decide (0 ≤ (ji24)) = true := decide_eq_true c25
    clear c25
    by_cases c26 : (ji24) < (l0_0.length : Int)
    rotate_left
    · rw [if_neg c26] at H
      exact absurd H (by simp)
    rw [if_pos c26] at H
    have c26b0 : decide ((ji24) < (l0_0.length : Int)) = true := decide_eq_true c26
    clear c26
    have H9 := Aside0.mk H
    clear H
    have p194 : 0 ≤ (x12_1 : Int) := of_decide_eq_true u5_19
    have q194 : x12_1 < (l0_0.length : Int) := of_decide_eq_true u5_19
    obtain ⟨ad194, e194, hx194_0, hx194_1, hx194_2, hx194_3, hx194_4⟩ := at_T53 HR0_0.out x12_1 p194 q194
    cases e194
    replace hx194_0 := (HB.out.cell (World.block_lt_of_cell? w _ hx194_0)).trans hx194_0
    replace hx194_1 := (HB.out.cell (World.block_lt_of_cell? w _ hx194_1)).trans hx194_1
    replace hx194_2 := (HB.out.cell (World.block_lt_of_cell? w _ hx194_2)).trans hx194_2
    replace hx194_3 := (HB.out.cell (World.block_lt_of_cell? w _ hx194_3)).trans hx194_3
    replace hx194_4 := (HB.out.cell (World.block_lt_of_cell? w _ hx194_4)).trans hx194_4
    replace p194 := eq_true p194
    replace q194 := eq_true q194
    go_upto_if 75 with (first | ((with_reducible refine gate_dst (N := 4) rfl ?_); refine box_event ?hg (N := 4) ?hd (cs := #[.int .u64 0, .int .u64 0, .int .u64 0, .int .u64 0, .int .i64 0]) (t := 53) ?hr ?_; (case hd => rfl); (case hg => rfl); (case hr => first | (go_simp; done) | (go_simp; rfl)); intro gb195 hg w27 hbox hb; have n0_ := Aside0.mk (blk_below (g := gb193) (o := .cells #[.slice (some ad194) l0_0.length c0_0] 29 (0, 0)) u5_2 hb); have n1_ := Aside0.mk (below_step u5_0 hb); have n2_ := Aside0.mk (hbox); have n3_ := Aside0.mk ((by rw [hg]; exact (below_size u5_0) : w.heap.size ≤ gb195)); have n4_ := Aside0.mk ((by rw [hg]; exact (below_size u5_0) : w.heap.size ≤ gb195)); have n5_ := Aside0.mk ((by rw [hg]; exact Nat.ne_of_lt (blk_lt (g := gb193) (o := .cells #[.slice (some ad194) l0_0.length c0_0] 29 (0, 0)) u5_2) : gb193 ≠ gb195)); have n6_ := Aside0.mk ((by rw [hg]; exact Nat.ne_of_gt (blk_lt (g := gb193) (o := .cells #[.slice (some ad194) l0_0.length c0_0] 29 (0, 0)) u5_2) : gb195 ≠ gb193)); clear BK193; clear HB; have BK193 := n0_; have HB := n1_; have BK195 := n2_; have GW195 := n3_; have GE195 := n4_; have NB193_195 := n5_; have NB195_193 := n6_; clear n0_ n1_ n2_ n3_ n4_ n5_ n6_; clear hb hbox hg; have hnb28 := NB195_193.out; have hnc28 := NB193_195.out; have hcz29_0 : w27.cell? ⟨gb195, 0, none⟩ = some (.int .u64 0) := (blk_cell BK195.out 0).trans rfl; have hcz29_1 : w27.cell? ⟨gb195, 1, none⟩ = some (.int .u64 0) := (blk_cell BK195.out 1).trans rfl; have hcz29_2 : w27.cell? ⟨gb195, 2, none⟩ = some (.int .u64 0) := (blk_cell BK195.out 2).trans rfl; have hcz29_3 : w27.cell? ⟨gb195, 3, none⟩ = some (.int .u64 0) := (blk_cell BK195.out 3).trans rfl; have hcz29_4 : w27.cell? ⟨gb195, 4, none⟩ = some (.int .i64 0) := (blk_cell BK195.out 4).trans rfl; have hfz29_0 := blk_frozen BK195.out 0; have hfz29_1 := blk_frozen BK195.out 1; have hfz29_2 := blk_frozen BK195.out 2; have hfz29_3 := blk_frozen BK195.out 3; have hfz29_4 := blk_frozen BK195.out 4; have hcz30_0 : w27.cell? ⟨gb193, 0, none⟩ = some (.slice (some ad194) l0_0.length c0_0) := (blk_cell BK193.out 0).trans rfl; have hfz30_0 := blk_frozen BK193.out 0; have p196 : 0 ≤ ((ji24) : Int) := of_decide_eq_true u5_19; have q196 : (ji24) < (l0_0.length : Int) := of_decide_eq_true u5_19; obtain ⟨ad196, e196, hx196_0, hx196_1, hx196_2, hx196_3, hx196_4⟩ := at_T53 HR0_0.out (ji24) p196 q196; obtain rfl : ad194 = ad196 := (by injection e196); have hn196_0 : ad194.block ≠ gb195 := Nat.ne_of_lt (Nat.lt_of_lt_of_le u5_22 GW195.out); have hn196_1 : ad194.block ≠ gb195 := Nat.ne_of_lt (Nat.lt_of_lt_of_le u5_22 GW195.out); have hn196_2 : ad194.block ≠ gb195 := Nat.ne_of_lt (Nat.lt_of_lt_of_le u5_22 GW195.out); have hn196_3 : ad194.block ≠ gb195 := Nat.ne_of_lt (Nat.lt_of_lt_of_le u5_22 GW195.out); have hn196_4 : ad194.block ≠ gb195 := Nat.ne_of_lt (Nat.lt_of_lt_of_le u5_22 GW195.out); replace hx196_0 := (HB.out.cell (World.block_lt_of_cell? w _ hx196_0)).trans hx196_0; replace hx196_1 := (HB.out.cell (World.block_lt_of_cell? w _ hx196_1)).trans hx196_1; replace hx196_2 := (HB.out.cell (World.block_lt_of_cell? w _ hx196_2)).trans hx196_2; replace hx196_3 := (HB.out.cell (World.block_lt_of_cell? w _ hx196_3)).trans hx196_3; replace hx196_4 := (HB.out.cell (World.block_lt_of_cell? w _ hx196_4)).trans hx196_4; replace hx196_0 := (cell_far (p := ⟨gb195, 0, none⟩) u5_11 (.int .u64 ((rd_T53 l0_0 x12_1).f0))).trans hx196_0; replace hx196_1 := (cell_far (p := ⟨gb195, 0, none⟩) u5_11 (.int .u64 ((rd_T53 l0_0 x12_1).f0))).trans hx196_1; replace hx196_2 := (cell_far (p := ⟨gb195, 0, none⟩) u5_11 (.int .u64 ((rd_T53 l0_0 x12_1).f0))).trans hx196_2; replace hx196_3 := (cell_far (p := ⟨gb195, 0, none⟩) u5_11 (.int .u64 ((rd_T53 l0_0 x12_1).f0))).trans hx196_3; replace hx196_4 := (cell_far (p := ⟨gb195, 0, none⟩) u5_11 (.int .u64 ((rd_T53 l0_0 x12_1).f0))).trans hx196_4; replace hx196_0 := (cell_far (p := ⟨gb195, 1, none⟩) u5_12 (.int .u64 ((rd_T53 l0_0 x12_1).f1))).trans hx196_0; replace hx196_1 := (cell_far (p := ⟨gb195, 1, none⟩) u5_12 (.int .u64 ((rd_T53 l0_0 x12_1).f1))).trans hx196_1; replace hx196_2 := (cell_far (p := ⟨gb195, 1, none⟩) u5_12 (.int .u64 ((rd_T53 l0_0 x12_1).f1))).trans hx196_2; replace hx196_3 := (cell_far (p := ⟨gb195, 1, none⟩) u5_12 (.int .u64 ((rd_T53 l0_0 x12_1).f1))).trans hx196_3; replace hx196_4 := (cell_far (p := ⟨gb195, 1, none⟩) u5_12 (.int .u64 ((rd_T53 l0_0 x12_1).f1))).trans hx196_4; replace hx196_0 := (cell_far (p := ⟨gb195, 2, none⟩) u5_13 (.int .u64 ((rd_T53 l0_0 x12_1).f2))).trans hx196_0; replace hx196_1 := (cell_far (p := ⟨gb195, 2, none⟩) u5_13 (.int .u64 ((rd_T53 l0_0 x12_1).f2))).trans hx196_1; replace hx196_2 := (cell_far (p := ⟨gb195, 2, none⟩) u5_13 (.int .u64 ((rd_T53 l0_0 x12_1).f2))).trans hx196_2; replace hx196_3 := (cell_far (p := ⟨gb195, 2, none⟩) u5_13 (.int .u64 ((rd_T53 l0_0 x12_1).f2))).trans hx196_3; replace hx196_4 := (cell_far (p := ⟨gb195, 2, none⟩) u5_13 (.int .u64 ((rd_T53 l0_0 x12_1).f2))).trans hx196_4; replace hx196_0 := (cell_far (p := ⟨gb195, 3, none⟩) u5_14 (.int .u64 ((rd_T53 l0_0 x12_1).f3))).trans hx196_0; replace hx196_1 := (cell_far (p := ⟨gb195, 3, none⟩) u5_14 (.int .u64 ((rd_T53 l0_0 x12_1).f3))).trans hx196_1; replace hx196_2 := (cell_far (p := ⟨gb195, 3, none⟩) u5_14 (.int .u64 ((rd_T53 l0_0 x12_1).f3))).trans hx196_2; replace hx196_3 := (cell_far (p := ⟨gb195, 3, none⟩) u5_14 (.int .u64 ((rd_T53 l0_0 x12_1).f3))).trans hx196_3; replace hx196_4 := (cell_far (p := ⟨gb195, 3, none⟩) u5_14 (.int .u64 ((rd_T53 l0_0 x12_1).f3))).trans hx196_4; replace hx196_0 := (cell_far (p := ⟨gb195, 4, none⟩) u5_15 (.int .i64 ((rd_T53 l0_0 x12_1).f4))).trans hx196_0; replace hx196_1 := (cell_far (p := ⟨gb195, 4, none⟩) u5_15 (.int .i64 ((rd_T53 l0_0 x12_1).f4))).trans hx196_1; replace hx196_2 := (cell_far (p := ⟨gb195, 4, none⟩) u5_15 (.int .i64 ((rd_T53 l0_0 x12_1).f4))).trans hx196_2; replace hx196_3 := (cell_far (p := ⟨gb195, 4, none⟩) u5_15 (.int .i64 ((rd_T53 l0_0 x12_1).f4))).trans hx196_3; replace hx196_4 := (cell_far (p := ⟨gb195, 4, none⟩) u5_15 (.int .i64 ((rd_T53 l0_0 x12_1).f4))).trans hx196_4; (try have hch_ := fun (n_ : Nat) => (show (((((((w27.drewN n_).setCell ⟨gb195, 0, none⟩ (.int .u64 ((rd_T53 l0_0 x12_1).f0))).setCell ⟨gb195, 1, none⟩ (.int .u64 ((rd_T53 l0_0 x12_1).f1))).setCell ⟨gb195, 2, none⟩ (.int .u64 ((rd_T53 l0_0 x12_1).f2))).setCell ⟨gb195, 3, none⟩ (.int .u64 ((rd_T53 l0_0 x12_1).f3))).setCell ⟨gb195, 4, none⟩ (.int .i64 ((rd_T53 l0_0 x12_1).f4)))) = World.drewN ((((((w27.setCell ⟨gb195, 0, none⟩ (.int .u64 ((rd_T53 l0_0 x12_1).f0))).setCell ⟨gb195, 1, none⟩ (.int .u64 ((rd_T53 l0_0 x12_1).f1))).setCell ⟨gb195, 2, none⟩ (.int .u64 ((rd_T53 l0_0 x12_1).f2))).setCell ⟨gb195, 3, none⟩ (.int .u64 ((rd_T53 l0_0 x12_1).f3))).setCell ⟨gb195, 4, none⟩ (.int .i64 ((rd_T53 l0_0 x12_1).f4)))) n_ from by simp only [Go.Proofs.Ytdbfjakhkclggaa.Slc.setCell_drewN])); (try have hy196_0 := fun (n_ : Nat) => Go.Proofs.Ytdbfjakhkclggaa.Slc.cell_of (hch_ n_) hx196_0); (try have hy196_1 := fun (n_ : Nat) => Go.Proofs.Ytdbfjakhkclggaa.Slc.cell_of (hch_ n_) hx196_1); (try have hy196_2 := fun (n_ : Nat) => Go.Proofs.Ytdbfjakhkclggaa.Slc.cell_of (hch_ n_) hx196_2); (try have hy196_3 := fun (n_ : Nat) => Go.Proofs.Ytdbfjakhkclggaa.Slc.cell_of (hch_ n_) hx196_3); (try have hy196_4 := fun (n_ : Nat) => Go.Proofs.Ytdbfjakhkclggaa.Slc.cell_of (hch_ n_) hx196_4); clear hn196_0; clear hn196_1; clear hn196_2; clear hn196_3; clear hn196_4; replace p196 := eq_true p196; replace q196 := eq_true q196))
    repeat (go_quiet (first | ((with_reducible refine gate_dst (N := 4) rfl ?_); refine box_event ?hg (N := 4) ?hd (cs := #[.int .u64 0, .int .u64 0, .int .u64 0, .int .u64 0, .int .i64 0]) (t := 53) ?hr ?_; (case hd => rfl); (case hg => rfl); (case hr => first | (go_simp; done) | (go_simp; rfl)); intro gb195 hg w27 hbox hb; have n0_ := Aside0.mk (blk_below (g := gb193) (o := .cells #[.slice (some ad194) l0_0.length c0_0] 29 (0, 0)) u5_2 hb); have n1_ := Aside0.mk (below_step u5_0 hb); have n2_ := Aside0.mk (hbox); have n3_ := Aside0.mk ((by rw [hg]; exact (below_size u5_0) : w.heap.size ≤ gb195)); have n4_ := Aside0.mk ((by rw [hg]; exact (below_size u5_0) : w.heap.size ≤ gb195)); have n5_ := Aside0.mk ((by rw [hg]; exact Nat.ne_of_lt (blk_lt (g := gb193) (o := .cells #[.slice (some ad194) l0_0.length c0_0] 29 (0, 0)) u5_2) : gb193 ≠ gb195)); have n6_ := Aside0.mk ((by rw [hg]; exact Nat.ne_of_gt (blk_lt (g := gb193) (o := .cells #[.slice (some ad194) l0_0.length c0_0] 29 (0, 0)) u5_2) : gb195 ≠ gb193)); clear BK193; clear HB; have BK193 := n0_; have HB := n1_; have BK195 := n2_; have GW195 := n3_; have GE195 := n4_; have NB193_195 := n5_; have NB195_193 := n6_; clear n0_ n1_ n2_ n3_ n4_ n5_ n6_; clear hb hbox hg; have hnb28 := NB195_193.out; have hnc28 := NB193_195.out; have hcz29_0 : w27.cell? ⟨gb195, 0, none⟩ = some (.int .u64 0) := (blk_cell BK195.out 0).trans rfl; have hcz29_1 : w27.cell? ⟨gb195, 1, none⟩ = some (.int .u64 0) := (blk_cell BK195.out 1).trans rfl; have hcz29_2 : w27.cell? ⟨gb195, 2, none⟩ = some (.int .u64 0) := (blk_cell BK195.out 2).trans rfl; have hcz29_3 : w27.cell? ⟨gb195, 3, none⟩ = some (.int .u64 0) := (blk_cell BK195.out 3).trans rfl; have hcz29_4 : w27.cell? ⟨gb195, 4, none⟩ = some (.int .i64 0) := (blk_cell BK195.out 4).trans rfl; have hfz29_0 := blk_frozen BK195.out 0; have hfz29_1 := blk_frozen BK195.out 1; have hfz29_2 := blk_frozen BK195.out 2; have hfz29_3 := blk_frozen BK195.out 3; have hfz29_4 := blk_frozen BK195.out 4; have hcz30_0 : w27.cell? ⟨gb193, 0, none⟩ = some (.slice (some ad194) l0_0.length c0_0) := (blk_cell BK193.out 0).trans rfl; have hfz30_0 := blk_frozen BK193.out 0; have p196 : 0 ≤ ((ji24) : Int) := of_decide_eq_true u5_19; have q196 : (ji24) < (l0_0.length : Int) := of_decide_eq_true u5_19; obtain ⟨ad196, e196, hx196_0, hx196_1, hx196_2, hx196_3, hx196_4⟩ := at_T53 HR0_0.out (ji24) p196 q196; obtain rfl : ad194 = ad196 := (by injection e196); have hn196_0 : ad194.block ≠ gb195 := Nat.ne_of_lt (Nat.lt_of_lt_of_le u5_22 GW195.out); have hn196_1 : ad194.block ≠ gb195 := Nat.ne_of_lt (Nat.lt_of_lt_of_le u5_22 GW195.out); have hn196_2 : ad194.block ≠ gb195 := Nat.ne_of_lt (Nat.lt_of_lt_of_le u5_22 GW195.out); have hn196_3 : ad194.block ≠ gb195 := Nat.ne_of_lt (Nat.lt_of_lt_of_le u5_22 GW195.out); have hn196_4 : ad194.block ≠ gb195 := Nat.ne_of_lt (Nat.lt_of_lt_of_le u5_22 GW195.out); replace hx196_0 := (HB.out.cell (World.block_lt_of_cell? w _ hx196_0)).trans hx196_0; replace hx196_1 := (HB.out.cell (World.block_lt_of_cell? w _ hx196_1)).trans hx196_1; replace hx196_2 := (HB.out.cell (World.block_lt_of_cell? w _ hx196_2)).trans hx196_2; replace hx196_3 := (HB.out.cell (World.block_lt_of_cell? w _ hx196_3)).trans hx196_3; replace hx196_4 := (HB.out.cell (World.block_lt_of_cell? w _ hx196_4)).trans hx196_4; replace hx196_0 := (cell_far (p := ⟨gb195, 0, none⟩) u5_11 (.int .u64 ((rd_T53 l0_0 x12_1).f0))).trans hx196_0; replace hx196_1 := (cell_far (p := ⟨gb195, 0, none⟩) u5_11 (.int .u64 ((rd_T53 l0_0 x12_1).f0))).trans hx196_1; replace hx196_2 := (cell_far (p := ⟨gb195, 0, none⟩) u5_11 (.int .u64 ((rd_T53 l0_0 x12_1).f0))).trans hx196_2; replace hx196_3 := (cell_far (p := ⟨gb195, 0, none⟩) u5_11 (.int .u64 ((rd_T53 l0_0 x12_1).f0))).trans hx196_3; replace hx196_4 := (cell_far (p := ⟨gb195, 0, none⟩) u5_11 (.int .u64 ((rd_T53 l0_0 x12_1).f0))).trans hx196_4; replace hx196_0 := (cell_far (p := ⟨gb195, 1, none⟩) u5_12 (.int .u64 ((rd_T53 l0_0 x12_1).f1))).trans hx196_0; replace hx196_1 := (cell_far (p := ⟨gb195, 1, none⟩) u5_12 (.int .u64 ((rd_T53 l0_0 x12_1).f1))).trans hx196_1; replace hx196_2 := (cell_far (p := ⟨gb195, 1, none⟩) u5_12 (.int .u64 ((rd_T53 l0_0 x12_1).f1))).trans hx196_2; replace hx196_3 := (cell_far (p := ⟨gb195, 1, none⟩) u5_12 (.int .u64 ((rd_T53 l0_0 x12_1).f1))).trans hx196_3; replace hx196_4 := (cell_far (p := ⟨gb195, 1, none⟩) u5_12 (.int .u64 ((rd_T53 l0_0 x12_1).f1))).trans hx196_4; replace hx196_0 := (cell_far (p := ⟨gb195, 2, none⟩) u5_13 (.int .u64 ((rd_T53 l0_0 x12_1).f2))).trans hx196_0; replace hx196_1 := (cell_far (p := ⟨gb195, 2, none⟩) u5_13 (.int .u64 ((rd_T53 l0_0 x12_1).f2))).trans hx196_1; replace hx196_2 := (cell_far (p := ⟨gb195, 2, none⟩) u5_13 (.int .u64 ((rd_T53 l0_0 x12_1).f2))).trans hx196_2; replace hx196_3 := (cell_far (p := ⟨gb195, 2, none⟩) u5_13 (.int .u64 ((rd_T53 l0_0 x12_1).f2))).trans hx196_3; replace hx196_4 := (cell_far (p := ⟨gb195, 2, none⟩) u5_13 (.int .u64 ((rd_T53 l0_0 x12_1).f2))).trans hx196_4; replace hx196_0 := (cell_far (p := ⟨gb195, 3, none⟩) u5_14 (.int .u64 ((rd_T53 l0_0 x12_1).f3))).trans hx196_0; replace hx196_1 := (cell_far (p := ⟨gb195, 3, none⟩) u5_14 (.int .u64 ((rd_T53 l0_0 x12_1).f3))).trans hx196_1; replace hx196_2 := (cell_far (p := ⟨gb195, 3, none⟩) u5_14 (.int .u64 ((rd_T53 l0_0 x12_1).f3))).trans hx196_2; replace hx196_3 := (cell_far (p := ⟨gb195, 3, none⟩) u5_14 (.int .u64 ((rd_T53 l0_0 x12_1).f3))).trans hx196_3; replace hx196_4 := (cell_far (p := ⟨gb195, 3, none⟩) u5_14 (.int .u64 ((rd_T53 l0_0 x12_1).f3))).trans hx196_4; replace hx196_0 := (cell_far (p := ⟨gb195, 4, none⟩) u5_15 (.int .i64 ((rd_T53 l0_0 x12_1).f4))).trans hx196_0; replace hx196_1 := (cell_far (p := ⟨gb195, 4, none⟩) u5_15 (.int .i64 ((rd_T53 l0_0 x12_1).f4))).trans hx196_1; replace hx196_2 := (cell_far (p := ⟨gb195, 4, none⟩) u5_15 (.int .i64 ((rd_T53 l0_0 x12_1).f4))).trans hx196_2; replace hx196_3 := (cell_far (p := ⟨gb195, 4, none⟩) u5_15 (.int .i64 ((rd_T53 l0_0 x12_1).f4))).trans hx196_3; replace hx196_4 := (cell_far (p := ⟨gb195, 4, none⟩) u5_15 (.int .i64 ((rd_T53 l0_0 x12_1).f4))).trans hx196_4; (try have hch_ := fun (n_ : Nat) => (show (((((((w27.drewN n_).setCell ⟨gb195, 0, none⟩ (.int .u64 ((rd_T53 l0_0 x12_1).f0))).setCell ⟨gb195, 1, none⟩ (.int .u64 ((rd_T53 l0_0 x12_1).f1))).setCell ⟨gb195, 2, none⟩ (.int .u64 ((rd_T53 l0_0 x12_1).f2))).setCell ⟨gb195, 3, none⟩ (.int .u64 ((rd_T53 l0_0 x12_1).f3))).setCell ⟨gb195, 4, none⟩ (.int .i64 ((rd_T53 l0_0 x12_1).f4)))) = World.drewN ((((((w27.setCell ⟨gb195, 0, none⟩ (.int .u64 ((rd_T53 l0_0 x12_1).f0))).setCell ⟨gb195, 1, none⟩ (.int .u64 ((rd_T53 l0_0 x12_1).f1))).setCell ⟨gb195, 2, none⟩ (.int .u64 ((rd_T53 l0_0 x12_1).f2))).setCell ⟨gb195, 3, none⟩ (.int .u64 ((rd_T53 l0_0 x12_1).f3))).setCell ⟨gb195, 4, none⟩ (.int .i64 ((rd_T53 l0_0 x12_1).f4)))) n_ from by simp only [Go.Proofs.Ytdbfjakhkclggaa.Slc.setCell_drewN])); (try have hy196_0 := fun (n_ : Nat) => Go.Proofs.Ytdbfjakhkclggaa.Slc.cell_of (hch_ n_) hx196_0); (try have hy196_1 := fun (n_ : Nat) => Go.Proofs.Ytdbfjakhkclggaa.Slc.cell_of (hch_ n_) hx196_1); (try have hy196_2 := fun (n_ : Nat) => Go.Proofs.Ytdbfjakhkclggaa.Slc.cell_of (hch_ n_) hx196_2); (try have hy196_3 := fun (n_ : Nat) => Go.Proofs.Ytdbfjakhkclggaa.Slc.cell_of (hch_ n_) hx196_3); (try have hy196_4 := fun (n_ : Nat) => Go.Proofs.Ytdbfjakhkclggaa.Slc.cell_of (hch_ n_) hx196_4); clear hn196_0; clear hn196_1; clear hn196_2; clear hn196_3; clear hn196_4; replace p196 := eq_true p196; replace q196 := eq_true q196)); go_upto_if 75 with (first | ((with_reducible refine gate_dst (N := 4) rfl ?_); refine box_event ?hg (N := 4) ?hd (cs := #[.int .u64 0, .int .u64 0, .int .u64 0, .int .u64 0, .int .i64 0]) (t := 53) ?hr ?_; (case hd => rfl); (case hg => rfl); (case hr => first | (go_simp; done) | (go_simp; rfl)); intro gb195 hg w27 hbox hb; have n0_ := Aside0.mk (blk_below (g := gb193) (o := .cells #[.slice (some ad194) l0_0.length c0_0] 29 (0, 0)) u5_2 hb); have n1_ := Aside0.mk (below_step u5_0 hb); have n2_ := Aside0.mk (hbox); have n3_ := Aside0.mk ((by rw [hg]; exact (below_size u5_0) : w.heap.size ≤ gb195)); have n4_ := Aside0.mk ((by rw [hg]; exact (below_size u5_0) : w.heap.size ≤ gb195)); have n5_ := Aside0.mk ((by rw [hg]; exact Nat.ne_of_lt (blk_lt (g := gb193) (o := .cells #[.slice (some ad194) l0_0.length c0_0] 29 (0, 0)) u5_2) : gb193 ≠ gb195)); have n6_ := Aside0.mk ((by rw [hg]; exact Nat.ne_of_gt (blk_lt (g := gb193) (o := .cells #[.slice (some ad194) l0_0.length c0_0] 29 (0, 0)) u5_2) : gb195 ≠ gb193)); clear BK193; clear HB; have BK193 := n0_; have HB := n1_; have BK195 := n2_; have GW195 := n3_; have GE195 := n4_; have NB193_195 := n5_; have NB195_193 := n6_; clear n0_ n1_ n2_ n3_ n4_ n5_ n6_; clear hb hbox hg; have hnb28 := NB195_193.out; have hnc28 := NB193_195.out; have hcz29_0 : w27.cell? ⟨gb195, 0, none⟩ = some (.int .u64 0) := (blk_cell BK195.out 0).trans rfl; have hcz29_1 : w27.cell? ⟨gb195, 1, none⟩ = some (.int .u64 0) := (blk_cell BK195.out 1).trans rfl; have hcz29_2 : w27.cell? ⟨gb195, 2, none⟩ = some (.int .u64 0) := (blk_cell BK195.out 2).trans rfl; have hcz29_3 : w27.cell? ⟨gb195, 3, none⟩ = some (.int .u64 0) := (blk_cell BK195.out 3).trans rfl; have hcz29_4 : w27.cell? ⟨gb195, 4, none⟩ = some (.int .i64 0) := (blk_cell BK195.out 4).trans rfl; have hfz29_0 := blk_frozen BK195.out 0; have hfz29_1 := blk_frozen BK195.out 1; have hfz29_2 := blk_frozen BK195.out 2; have hfz29_3 := blk_frozen BK195.out 3; have hfz29_4 := blk_frozen BK195.out 4; have hcz30_0 : w27.cell? ⟨gb193, 0, none⟩ = some (.slice (some ad194) l0_0.length c0_0) := (blk_cell BK193.out 0).trans rfl; have hfz30_0 := blk_frozen BK193.out 0; have p196 : 0 ≤ ((ji24) : Int) := of_decide_eq_true u5_19; have q196 : (ji24) < (l0_0.length : Int) := of_decide_eq_true u5_19; obtain ⟨ad196, e196, hx196_0, hx196_1, hx196_2, hx196_3, hx196_4⟩ := at_T53 HR0_0.out (ji24) p196 q196; obtain rfl : ad194 = ad196 := (by injection e196); have hn196_0 : ad194.block ≠ gb195 := Nat.ne_of_lt (Nat.lt_of_lt_of_le u5_22 GW195.out); have hn196_1 : ad194.block ≠ gb195 := Nat.ne_of_lt (Nat.lt_of_lt_of_le u5_22 GW195.out); have hn196_2 : ad194.block ≠ gb195 := Nat.ne_of_lt (Nat.lt_of_lt_of_le u5_22 GW195.out); have hn196_3 : ad194.block ≠ gb195 := Nat.ne_of_lt (Nat.lt_of_lt_of_le u5_22 GW195.out); have hn196_4 : ad194.block ≠ gb195 := Nat.ne_of_lt (Nat.lt_of_lt_of_le u5_22 GW195.out); replace hx196_0 := (HB.out.cell (World.block_lt_of_cell? w _ hx196_0)).trans hx196_0; replace hx196_1 := (HB.out.cell (World.block_lt_of_cell? w _ hx196_1)).trans hx196_1; replace hx196_2 := (HB.out.cell (World.block_lt_of_cell? w _ hx196_2)).trans hx196_2; replace hx196_3 := (HB.out.cell (World.block_lt_of_cell? w _ hx196_3)).trans hx196_3; replace hx196_4 := (HB.out.cell (World.block_lt_of_cell? w _ hx196_4)).trans hx196_4; replace hx196_0 := (cell_far (p := ⟨gb195, 0, none⟩) u5_11 (.int .u64 ((rd_T53 l0_0 x12_1).f0))).trans hx196_0; replace hx196_1 := (cell_far (p := ⟨gb195, 0, none⟩) u5_11 (.int .u64 ((rd_T53 l0_0 x12_1).f0))).trans hx196_1; replace hx196_2 := (cell_far (p := ⟨gb195, 0, none⟩) u5_11 (.int .u64 ((rd_T53 l0_0 x12_1).f0))).trans hx196_2; replace hx196_3 := (cell_far (p := ⟨gb195, 0, none⟩) u5_11 (.int .u64 ((rd_T53 l0_0 x12_1).f0))).trans hx196_3; replace hx196_4 := (cell_far (p := ⟨gb195, 0, none⟩) u5_11 (.int .u64 ((rd_T53 l0_0 x12_1).f0))).trans hx196_4; replace hx196_0 := (cell_far (p := ⟨gb195, 1, none⟩) u5_12 (.int .u64 ((rd_T53 l0_0 x12_1).f1))).trans hx196_0; replace hx196_1 := (cell_far (p := ⟨gb195, 1, none⟩) u5_12 (.int .u64 ((rd_T53 l0_0 x12_1).f1))).trans hx196_1; replace hx196_2 := (cell_far (p := ⟨gb195, 1, none⟩) u5_12 (.int .u64 ((rd_T53 l0_0 x12_1).f1))).trans hx196_2; replace hx196_3 := (cell_far (p := ⟨gb195, 1, none⟩) u5_12 (.int .u64 ((rd_T53 l0_0 x12_1).f1))).trans hx196_3; replace hx196_4 := (cell_far (p := ⟨gb195, 1, none⟩) u5_12 (.int .u64 ((rd_T53 l0_0 x12_1).f1))).trans hx196_4; replace hx196_0 := (cell_far (p := ⟨gb195, 2, none⟩) u5_13 (.int .u64 ((rd_T53 l0_0 x12_1).f2))).trans hx196_0; replace hx196_1 := (cell_far (p := ⟨gb195, 2, none⟩) u5_13 (.int .u64 ((rd_T53 l0_0 x12_1).f2))).trans hx196_1; replace hx196_2 := (cell_far (p := ⟨gb195, 2, none⟩) u5_13 (.int .u64 ((rd_T53 l0_0 x12_1).f2))).trans hx196_2; replace hx196_3 := (cell_far (p := ⟨gb195, 2, none⟩) u5_13 (.int .u64 ((rd_T53 l0_0 x12_1).f2))).trans hx196_3; replace hx196_4 := (cell_far (p := ⟨gb195, 2, none⟩) u5_13 (.int .u64 ((rd_T53 l0_0 x12_1).f2))).trans hx196_4; replace hx196_0 := (cell_far (p := ⟨gb195, 3, none⟩) u5_14 (.int .u64 ((rd_T53 l0_0 x12_1).f3))).trans hx196_0; replace hx196_1 := (cell_far (p := ⟨gb195, 3, none⟩) u5_14 (.int .u64 ((rd_T53 l0_0 x12_1).f3))).trans hx196_1; replace hx196_2 := (cell_far (p := ⟨gb195, 3, none⟩) u5_14 (.int .u64 ((rd_T53 l0_0 x12_1).f3))).trans hx196_2; replace hx196_3 := (cell_far (p := ⟨gb195, 3, none⟩) u5_14 (.int .u64 ((rd_T53 l0_0 x12_1).f3))).trans hx196_3; replace hx196_4 := (cell_far (p := ⟨gb195, 3, none⟩) u5_14 (.int .u64 ((rd_T53 l0_0 x12_1).f3))).trans hx196_4; replace hx196_0 := (cell_far (p := ⟨gb195, 4, none⟩) u5_15 (.int .i64 ((rd_T53 l0_0 x12_1).f4))).trans hx196_0; replace hx196_1 := (cell_far (p := ⟨gb195, 4, none⟩) u5_15 (.int .i64 ((rd_T53 l0_0 x12_1).f4))).trans hx196_1; replace hx196_2 := (cell_far (p := ⟨gb195, 4, none⟩) u5_15 (.int .i64 ((rd_T53 l0_0 x12_1).f4))).trans hx196_2; replace hx196_3 := (cell_far (p := ⟨gb195, 4, none⟩) u5_15 (.int .i64 ((rd_T53 l0_0 x12_1).f4))).trans hx196_3; replace hx196_4 := (cell_far (p := ⟨gb195, 4, none⟩) u5_15 (.int .i64 ((rd_T53 l0_0 x12_1).f4))).trans hx196_4; (try have hch_ := fun (n_ : Nat) => (show (((((((w27.drewN n_).setCell ⟨gb195, 0, none⟩ (.int .u64 ((rd_T53 l0_0 x12_1).f0))).setCell ⟨gb195, 1, none⟩ (.int .u64 ((rd_T53 l0_0 x12_1).f1))).setCell ⟨gb195, 2, none⟩ (.int .u64 ((rd_T53 l0_0 x12_1).f2))).setCell ⟨gb195, 3, none⟩ (.int .u64 ((rd_T53 l0_0 x12_1).f3))).setCell ⟨gb195, 4, none⟩ (.int .i64 ((rd_T53 l0_0 x12_1).f4)))) = World.drewN ((((((w27.setCell ⟨gb195, 0, none⟩ (.int .u64 ((rd_T53 l0_0 x12_1).f0))).setCell ⟨gb195, 1, none⟩ (.int .u64 ((rd_T53 l0_0 x12_1).f1))).setCell ⟨gb195, 2, none⟩ (.int .u64 ((rd_T53 l0_0 x12_1).f2))).setCell ⟨gb195, 3, none⟩ (.int .u64 ((rd_T53 l0_0 x12_1).f3))).setCell ⟨gb195, 4, none⟩ (.int .i64 ((rd_T53 l0_0 x12_1).f4)))) n_ from by simp only [Go.Proofs.Ytdbfjakhkclggaa.Slc.setCell_drewN])); (try have hy196_0 := fun (n_ : Nat) => Go.Proofs.Ytdbfjakhkclggaa.Slc.cell_of (hch_ n_) hx196_0); (try have hy196_1 := fun (n_ : Nat) => Go.Proofs.Ytdbfjakhkclggaa.Slc.cell_of (hch_ n_) hx196_1); (try have hy196_2 := fun (n_ : Nat) => Go.Proofs.Ytdbfjakhkclggaa.Slc.cell_of (hch_ n_) hx196_2); (try have hy196_3 := fun (n_ : Nat) => Go.Proofs.Ytdbfjakhkclggaa.Slc.cell_of (hch_ n_) hx196_3); (try have hy196_4 := fun (n_ : Nat) => Go.Proofs.Ytdbfjakhkclggaa.Slc.cell_of (hch_ n_) hx196_4); clear hn196_0; clear hn196_1; clear hn196_2; clear hn196_3; clear hn196_4; replace p196 := eq_true p196; replace q196 := eq_true q196)))
    have H := H9.out
    clear H9
    by_cases c31 : ((rd_T53 l0_0 (ji24)).f0) ≥ ((rd_T53 l0_0 x12_1).f0)
    · rw [if_pos c31] at H
      have c31b0 : decide (((rd_T53 l0_0 x12_1).f0) ≤ ((rd_T53 l0_0 (ji24)).f0)) = true := decide_eq_true c31
      clear c31
      (first | rw [c31b0] | (simp only [i64_w, i32_w]; rw [c31b0]) | skip)
      obtain rfl := Option.some.inj H
      go_wp2
      repeat (go_quiet (fail); try go_wp2)
      go_ret
      exact ⟨by first | rfl | (simp [errW_none, errW_some] <;> rfl) | (simp only [← hji9, ← hji24]; first | rfl | (simp [errW_none, errW_some] <;> rfl)) | (simp [*, errW_none, errW_some] <;> rfl), u5_5⟩
    rw [if_neg c31] at H
    have c31b0 : decide (((rd_T53 l0_0 x12_1).f0) ≤ ((rd_T53 l0_0 (ji24)).f0)) = false := decide_eq_false c31
    clear c31
    (first | rw [c31b0] | (simp only [i64_w, i32_w]; rw [c31b0]) | skip)
    have H' := Aside0.mk H
    clear H
    go_wp2
    repeat (go_quiet (fail); try go_wp2)
    go_roundg k1
    case measure => have := HK1.out; omega
    case rel => exact ⟨(wrap64 (x12_1 + 1)), u5_33, H', ⟨by have := HK1.out; omega⟩, ⟨u5_4⟩, ⟨u5_5⟩⟩

/-! ### impl_copyBook: function 56 -/
def impl_copyBook.f (l0_0 : List (S53)) : Option ((List (S53))) := (some (([] : List (S53)) : List (S53))).bind fun y200 => (if y200.length + l0_0.length < 3518437208883 then (some (y200 ++ l0_0)) else (none))
set_option maxHeartbeats 8000000 in
set_option maxRecDepth 100000 in
theorem impl_copyBook.calls (A0_0 : Option Addr) (c0_0 : Nat) (l0_0 : List (S53)) (r : List (S53)) (w : World) (hr0_0 : Kd.C k53 w A0_0 l0_0.length l0_0) (hc0_0 : l0_0.length ≤ c0_0) (h : impl_copyBook.f l0_0 = some r) :
    Calls Try.prog 56 #[.agg #[.slice A0_0 l0_0.length c0_0]] w fun e w' => ∃ v0_ : Value, e = .returned (.agg #[v0_]) ∧ Kd.R k53 53 w' w.heap.size (fun _ => True) v0_ r ∧ Below w.heap.size w w' := by
  have hu29 := Try.underlying29
  have HR0_0 := Aside0.mk hr0_0
  have HC0_0 := Aside0.mk hc0_0
  clear hr0_0 hc0_0
  have HB := Aside0.mk (Below.refl w.heap.size w)
  have H : ((some (([] : List (S53)) : List (S53))).bind fun y200 => (if y200.length + l0_0.length < 3518437208883 then (some (y200 ++ l0_0)) else (none))) = some r := h
  clear h
  obtain ⟨y200, hy200⟩ : ∃ y_ : List (S53), y_ = (([] : List (S53))) := ⟨_, rfl⟩
  replace H : (if y200.length + l0_0.length < 3518437208883 then (some (y200 ++ l0_0)) else (none)) = some r := by first | (rw [hy200]; with_reducible exact H) | (have H2_ := (Option.bind_some _ _).symm.trans H; rw [hy200]; with_reducible exact H2_) | (have H2_ := (Option.bind_some _ _).symm.trans H; with_reducible exact H2_) | with_reducible exact H | (rw [hy200]; exact H) | exact H
  have Ny200 := Aside0.mk hy200
  clear hy200
  by_cases c2 : y200.length + l0_0.length < 3518437208883
  rotate_left
  · rw [if_neg c2] at H
    exact absurd H (by simp)
  rw [if_pos c2] at H
  have LMc2 := Aside0.mk c2
  clear c2
  obtain ⟨y203, hy203⟩ : ∃ y_ : List (S53), y_ = (y200 ++ l0_0) := ⟨_, rfl⟩
  replace H : (some y203) = some r := by first | (rw [hy203]; with_reducible exact H) | (have H2_ := (Option.bind_some _ _).symm.trans H; rw [hy203]; with_reducible exact H2_) | (have H2_ := (Option.bind_some _ _).symm.trans H; with_reducible exact H2_) | with_reducible exact H | (rw [hy203]; exact H) | exact H
  have Ny203 := Aside0.mk hy203
  clear hy203
  obtain rfl := Option.some.inj H
  go_enter Try.func56, Try.ntmps56
  go_wp2_with (first | ((with_reducible refine gate_dst (N := 1) rfl ?_); refine box_event ?hg (N := 1) ?hd (cs := #[.slice A0_0 l0_0.length c0_0]) (t := 29) ?hr ?_; (case hd => rfl); (case hg => rfl); (case hr => first | (go_simp; done) | (go_simp; rfl)); intro gb198 hg w3 hbox hb; have n0_ := Aside0.mk (below_step u5_18 hb); have n1_ := Aside0.mk (hbox); have n2_ := Aside0.mk ((by rw [hg]; exact (below_size u5_18) : w.heap.size ≤ gb198)); have n3_ := Aside0.mk ((by rw [hg]; exact (below_size u5_18) : w.heap.size ≤ gb198)); clear HB; have HB := n0_; have BK198 := n1_; have GW198 := n2_; have GE198 := n3_; clear n0_ n1_ n2_ n3_; clear hb hbox hg) | ((with_reducible refine gate_dst (N := 2) rfl ?_); refine box_event ?hg (N := 2) ?hd (cs := #[.slice none 0 0]) (t := 29) ?hr ?_; (case hd => rfl); (case hg => rfl); (case hr => first | (go_simp; done) | (go_simp; rfl)); intro gb199 hg w4 hbox hb; have n0_ := Aside0.mk (blk_below (g := gb198) (o := .cells #[.slice A0_0 l0_0.length c0_0] 29 (0, 0)) u5_29 hb); have n1_ := Aside0.mk (below_step u5_32 hb); have n2_ := Aside0.mk (hbox); have n3_ := Aside0.mk ((by rw [hg]; exact (below_size u5_32) : w.heap.size ≤ gb199)); have n4_ := Aside0.mk ((by rw [hg]; exact (below_size u5_32) : w.heap.size ≤ gb199)); have n5_ := Aside0.mk ((by rw [hg]; exact Nat.ne_of_lt (blk_lt (g := gb198) (o := .cells #[.slice A0_0 l0_0.length c0_0] 29 (0, 0)) u5_29) : gb198 ≠ gb199)); have n6_ := Aside0.mk ((by rw [hg]; exact Nat.ne_of_gt (blk_lt (g := gb198) (o := .cells #[.slice A0_0 l0_0.length c0_0] 29 (0, 0)) u5_29) : gb199 ≠ gb198)); clear BK198; clear HB; have BK198 := n0_; have HB := n1_; have BK199 := n2_; have GW199 := n3_; have GE199 := n4_; have NB198_199 := n5_; have NB199_198 := n6_; clear n0_ n1_ n2_ n3_ n4_ n5_ n6_; clear hb hbox hg) | ((with_reducible refine gate_dst (N := 3) rfl ?_); refine Kd.R_lit k53 _ 53 ?hg (N := 3) ?hd (xs := ([] : List (S53))) (inner := []) (ok := fun _ => True) (okp := fun _ => True) ?hr ?hp (fun _ hk => hk) trivial (Below.refl _ _) (Nat.le_refl _) (by simp) ?_; (case hd => rfl); (case hg => rfl); (case hr => first | (go_simp; done) | (go_simp; rfl)); (case hp => exact (Reps.none _ _)); intro v201 w5 ho6 hb hg_ hnew_; clear hg_ hnew_; (first | rw [← Ny200.out] at ho6 | (simp only [Int.reduceToNat] at ho6; rw [← Ny200.out] at ho6)); have n0_ := Aside0.mk (Kd.R_lower ho6 (below_size u5_24)); have n1_ := Aside0.mk (blk_below (g := gb198) (o := .cells #[.slice A0_0 l0_0.length c0_0] 29 (0, 0)) u5_29 hb); have n2_ := Aside0.mk (blk_below (g := gb199) (o := .cells #[.slice none 0 0] 29 (0, 0)) u5_34 hb); have n3_ := Aside0.mk (below_step u5_24 hb); clear BK198; clear BK199; clear HB; have HO202 := n0_; have BK198 := n1_; have BK199 := n2_; have HB := n3_; clear n0_ n1_ n2_ n3_; clear hb ho6; have hnb7 := NB198_199.out; have hnc7 := NB199_198.out; have hcz8_0 : w5.cell? ⟨gb198, 0, none⟩ = some (.slice A0_0 l0_0.length c0_0) := (blk_cell BK198.out 0).trans rfl; have hfz8_0 := blk_frozen BK198.out 0) | ((with_reducible refine gate_builtin (b := .append) (xs := #[.tmp 3, .tmp 5]) rfl ?_); at_builtin; refine Kd.R_append_rows k53 (w0 := w) w.heap.size rfl (.tmp 3) (.tmp 5) 27 53 (.agg #[(.int .u64 0), (.int .u64 0), (.int .u64 0), (.int .u64 0), (.int .i64 0)]) 40 rfl Try.underlying27 info53 rfl (by decide) (by omega) v201 y200 l0_0 _ _ _ (fun _ => True) (fun _ => False) rfl rfl ?aO ?aR (fun _ _ h => h) (fun _ h => h.elim) ?aF ?aB ?aS ?aL ?_; (case aR => repeat (first | exact (Kd.C_below HR0_0.out HB.out) | (with_reducible refine Kd.C_alloc ?_ _) | (with_reducible refine Kd.C_drewN ?_ _) | (with_reducible refine Kd.C_drew ?_))); (case aB => exact u5_24); (case aF => exact (fun _ _ => trivial)); (case aO => exact (by (with_reducible repeat (first | apply Kd.R_alloc | apply Kd.R_drewN | apply Kd.R_drew)); exact HO202.out)); (case aS => exact (below_size u5_24)); (case aL => have := LMc2.out; omega); intro v204 w9 ho hb hg hat; rw [← Ny203.out] at ho; have n0_ := Aside0.mk (blk_grown (g := gb198) (o := .cells #[.slice A0_0 l0_0.length c0_0] 29 (0, 0)) u5_29 hg (Kd.R_ne HO202.out BK198.out (by decide))); have n1_ := Aside0.mk (blk_grown (g := gb199) (o := .cells #[.slice none 0 0] 29 (0, 0)) u5_34 hg (Kd.R_ne HO202.out BK199.out (by decide))); have n2_ := Aside0.mk (hb); have n3_ := Aside0.mk (ho); clear BK198; clear BK199; clear HB; clear HO202; have BK198 := n0_; have BK199 := n1_; have HB := n2_; have HO205 := n3_; clear n0_ n1_ n2_ n3_; clear ho hb hg hat; obtain ⟨Ao10, co10, eo10⟩ := Kd.R_slice HO205.out; subst eo10; have hcz11_0 : w9.cell? ⟨gb199, 0, none⟩ = some (.slice none 0 0) := (blk_cell BK199.out 0).trans rfl; have hfz11_0 := blk_frozen BK199.out 0))
  refine bodyPost_ret (results_cell_row rfl _ _ gb199 29 #[.slice Ao10 y203.length co10] (0, 0) _ rfl (by (with_reducible repeat (first | refine blk_drewN ?_ _ | refine blk_drew ?_ | refine blk_alloc ?_ _)); refine blk_put (cs := #[.slice none 0 0]) ?_ 0 _ rfl; (with_reducible repeat (first | refine blk_drewN ?_ _ | refine blk_drew ?_ | refine blk_alloc ?_ _)); exact BK199.out) Try.underlying29 rfl (by kernel_rfl)) rfl ?_
  exact ⟨_, by first | rfl | (simp [errW_none, errW_some] <;> rfl) | (simp [*, errW_none, errW_some] <;> rfl), (by (with_reducible repeat (first | apply Kd.R_alloc | apply Kd.R_drewN | apply Kd.R_drew)); exact Kd.R_mono (Kd.R_far (p := ⟨gb199, 0, none⟩) (Kd.R_types HO205.out BK199.out (by decide)) (fun _ hk => hk.2) (.slice Ao10 y203.length co10)) (fun _ hk => trivial)), u5_24⟩

/-! ### impl_accountOf: function 57 -/
def impl_accountOf.l0 : Nat → Int → Int → List (S53) → Option (Int × Bool)
  | 0, _, _, _ => none
  | k + 1, x1, x6, x207000 => if x6 < (x207000.length : Int) then (if 0 ≤ x6 then (if ((rd_T53 x207000 x6).f0) < x1 then (impl_accountOf.l0 k x1 (wrap64 (x6 + 1)) x207000) else (some (x6, (((rd_T53 x207000 x6).f0) == x1)))) else (none)) else (some (x6, false))
def impl_accountOf.f (k : Nat) (l0_0 : List (S53)) (a1 : Int) : Option (Int × Bool) := impl_accountOf.l0 k a1 0 l0_0
theorem impl_accountOf.mono_l : ∀ k, (∀ y0 y1 y2, LeO (impl_accountOf.l0 k y0 y1 y2) (impl_accountOf.l0 (k + 1) y0 y1 y2))
  | 0 => fun _ _ _ r h => by simp [impl_accountOf.l0] at h
  | k + 1 => by
    have ih0 := impl_accountOf.mono_l k
    · intro y0 y1 y2
      unfold impl_accountOf.l0
      repeat' first
      | (with_reducible exact ih0 _ _ _)
      | (with_reducible exact LeO.refl _)
      | (with_reducible exact LeO.none _)
      | (with_reducible refine LeO.ite ?_ ?_)
      | (with_reducible refine LeO.bind ?_ (fun _ => ?_))
      | exact ih0 _ _ _
      | exact LeO.none _
      | refine LeO.ite ?_ ?_
      | refine LeO.bind ?_ (fun _ => ?_)
theorem impl_accountOf.mono : ∀ a0 a1 k, LeO (impl_accountOf.f k a0 a1) (impl_accountOf.f (k + 1) a0 a1) := by
  intro a0 a1 k
  have ih0 := impl_accountOf.mono_l k
  unfold impl_accountOf.f
  repeat' first
      | (with_reducible exact ih0 _ _ _)
      | (with_reducible exact LeO.refl _)
      | (with_reducible exact LeO.none _)
      | (with_reducible refine LeO.ite ?_ ?_)
      | (with_reducible refine LeO.bind ?_ (fun _ => ?_))
      | exact ih0 _ _ _
      | exact LeO.none _
      | refine LeO.ite ?_ ?_
      | refine LeO.bind ?_ (fun _ => ?_)
set_option maxHeartbeats 8000000 in
set_option maxRecDepth 100000 in
theorem impl_accountOf.calls (k : Nat) (A0_0 : Option Addr) (c0_0 : Nat) (l0_0 : List (S53)) (a1 : Int) (r1 : Int) (r2 : Bool) (w : World) (hr0_0 : Kd.C k53 w A0_0 l0_0.length l0_0) (hc0_0 : l0_0.length ≤ c0_0) (h : impl_accountOf.f k l0_0 a1 = some (r1, r2)) :
    Calls Try.prog 57 #[.agg #[.slice A0_0 l0_0.length c0_0], .int .u64 a1] w fun e w' => e = .returned (.tuple #[.int .i64 r1, .bool r2]) ∧ Below w.heap.size w w' := by
  have hu29 := Try.underlying29
  have HR0_0 := Aside0.mk hr0_0
  have HC0_0 := Aside0.mk hc0_0
  clear hr0_0 hc0_0
  have HB := Aside0.mk (Below.refl w.heap.size w)
  have H : (impl_accountOf.l0 k a1 0 l0_0) = some (r1, r2) := h
  clear h
  have H' := Aside0.mk H
  clear H
  go_enter Try.func57, Try.ntmps57
  go_wp2_with (first | (first | ((with_reducible refine gate_dst (N := 2) rfl ?_); refine box_event ?hg (N := 2) ?hd (cs := #[.slice A0_0 l0_0.length c0_0]) (t := 29) ?hr ?_; (case hd => rfl); (case hg => rfl); (case hr => first | (go_simp; done) | (go_simp; rfl)); intro gb206 hg w3 hbox hb; have n0_ := Aside0.mk (below_step u5_18 hb); have n1_ := Aside0.mk (hbox); have n2_ := Aside0.mk ((by rw [hg]; exact (below_size u5_18) : w.heap.size ≤ gb206)); have n3_ := Aside0.mk ((by rw [hg]; exact (below_size u5_18) : w.heap.size ≤ gb206)); clear HB; have HB := n0_; have BK206 := n1_; have GW206 := n2_; have GE206 := n3_; clear n0_ n1_ n2_ n3_; clear hb hbox hg)) | go_quiet (fail))
  go_loopg [6] k (fun kq v6 w' => ∃ (x6_1 : Int), v6 = .int .i64 x6_1 ∧ Aside0 (impl_accountOf.l0 kq a1 x6_1 l0_0 = some (r1, r2)) ∧ Aside0 (kq ≤ k) ∧ Aside0 (w'.heap[gb206]? = some (.cells #[(.slice A0_0 l0_0.length c0_0)] 29 (0, 0))) ∧ Aside0 (Below w.heap.size w w'))
  case atStart => exact ⟨(0), u5_33, H', ⟨Nat.le_refl _⟩, ⟨u5_35⟩, ⟨u5_28⟩⟩
  clear H'
  try clear p2
  obtain ⟨x6_1, rfl, HA, HK1, BK206, HB⟩ := hrel
  cases gk with
  | zero => exact absurd HA.out (by simp [impl_accountOf.l0])
  | succ k1 =>
    have H := HA.out
    clear HA
    simp only [impl_accountOf.l0] at H
    by_cases c4 : x6_1 < (l0_0.length : Int)
    rotate_left
    · rw [if_neg c4] at H
      have c4b0 : decide (x6_1 < (l0_0.length : Int)) = false := decide_eq_false c4
      clear c4
      simp only [Option.some.injEq, Prod.mk.injEq] at H
      obtain ⟨rfl, rfl⟩ := H
      have hcz9_0 : wr.cell? ⟨gb206, 0, none⟩ = some (.slice A0_0 l0_0.length c0_0) := (blk_cell BK206.out 0).trans rfl
      have hfz9_0 := blk_frozen BK206.out 0
      go_wp2
      repeat (go_quiet (fail); try go_wp2)
      go_ret2
      exact ⟨by first | rfl | (simp [errW_none, errW_some] <;> rfl) | (simp [*, errW_none, errW_some] <;> rfl), u5_28⟩
    rw [if_pos c4] at H
    have c4b0 : decide (x6_1 < (l0_0.length : Int)) = true := decide_eq_true c4
    clear c4
    by_cases c5 : 0 ≤ x6_1
    rotate_left
    · rw [if_neg c5] at H
      exact absurd H (by simp)
    rw [if_pos c5] at H
    have c5b0 : decide (0 ≤ x6_1) = true := decide_eq_true c5
    clear c5
    have H9 := Aside0.mk H
    clear H
    have hcz6_0 : wr.cell? ⟨gb206, 0, none⟩ = some (.slice A0_0 l0_0.length c0_0) := (blk_cell BK206.out 0).trans rfl
    have hfz6_0 := blk_frozen BK206.out 0
    have p207 : 0 ≤ (x6_1 : Int) := of_decide_eq_true u5_19
    have q207 : x6_1 < (l0_0.length : Int) := of_decide_eq_true u5_19
    obtain ⟨ad207, e207, hx207_0, hx207_1, hx207_2, hx207_3, hx207_4⟩ := at_T53 HR0_0.out x6_1 p207 q207
    cases e207
    replace hx207_0 := (HB.out.cell (World.block_lt_of_cell? w _ hx207_0)).trans hx207_0
    replace hx207_1 := (HB.out.cell (World.block_lt_of_cell? w _ hx207_1)).trans hx207_1
    replace hx207_2 := (HB.out.cell (World.block_lt_of_cell? w _ hx207_2)).trans hx207_2
    replace hx207_3 := (HB.out.cell (World.block_lt_of_cell? w _ hx207_3)).trans hx207_3
    replace hx207_4 := (HB.out.cell (World.block_lt_of_cell? w _ hx207_4)).trans hx207_4
    replace p207 := eq_true p207
    replace q207 := eq_true q207
    go_upto_if 21 with (fail)
    repeat (go_quiet (fail); go_upto_if 21 with (fail))
    have H := H9.out
    clear H9
    by_cases c7 : ((rd_T53 l0_0 x6_1).f0) < a1
    · rw [if_pos c7] at H
      have c7b0 : decide (((rd_T53 l0_0 x6_1).f0) < a1) = true := decide_eq_true c7
      clear c7
      (first | rw [c7b0] | (simp only [i64_w, i32_w]; rw [c7b0]) | skip)
      have H' := Aside0.mk H
      clear H
      go_wp2
      repeat (go_quiet (fail); try go_wp2)
      go_roundg k1
      case measure => have := HK1.out; omega
      case rel => exact ⟨(wrap64 (x6_1 + 1)), u5_33, H', ⟨by have := HK1.out; omega⟩, ⟨u5_35⟩, ⟨u5_28⟩⟩
    rw [if_neg c7] at H
    have c7b0 : decide (((rd_T53 l0_0 x6_1).f0) < a1) = false := decide_eq_false c7
    clear c7
    (first | rw [c7b0] | (simp only [i64_w, i32_w]; rw [c7b0]) | skip)
    simp only [Option.some.injEq, Prod.mk.injEq] at H
    obtain ⟨rfl, rfl⟩ := H
    have hcz8_0 : wr.cell? ⟨gb206, 0, none⟩ = some (.slice (some ad207) l0_0.length c0_0) := (blk_cell BK206.out 0).trans rfl
    have hfz8_0 := blk_frozen BK206.out 0
    have p208 : 0 ≤ (x6_1 : Int) := of_decide_eq_true u5_19
    have q208 : x6_1 < (l0_0.length : Int) := of_decide_eq_true u5_19
    obtain ⟨ad208, e208, hx208_0, hx208_1, hx208_2, hx208_3, hx208_4⟩ := at_T53 HR0_0.out x6_1 p208 q208
    obtain rfl : ad207 = ad208 := (by injection e208)
    replace hx208_0 := (HB.out.cell (World.block_lt_of_cell? w _ hx208_0)).trans hx208_0
    replace hx208_1 := (HB.out.cell (World.block_lt_of_cell? w _ hx208_1)).trans hx208_1
    replace hx208_2 := (HB.out.cell (World.block_lt_of_cell? w _ hx208_2)).trans hx208_2
    replace hx208_3 := (HB.out.cell (World.block_lt_of_cell? w _ hx208_3)).trans hx208_3
    replace hx208_4 := (HB.out.cell (World.block_lt_of_cell? w _ hx208_4)).trans hx208_4
    replace p208 := eq_true p208
    replace q208 := eq_true q208
    go_wp2
    repeat (go_quiet (fail); try go_wp2)
    go_ret2
    exact ⟨by first | rfl | (simp [errW_none, errW_some] <;> rfl) | (simp [*, errW_none, errW_some] <;> rfl), u5_28⟩

/-! ### impl_Account: function 78 -/
def impl_Account.enc (x : S53) : List Value := [.int .u64 x.f0, .int .u64 x.f1, .int .u64 x.f2, .int .u64 x.f3, .int .i64 x.f4]
theorem impl_Account.flat : Go.Proofs.Ytdbfjakhkclggaa.Slc.Flat k53 impl_Account.enc := ⟨fun w base ok x => k53_mkM w base ok x, fun h => k53_open h⟩
def impl_Account.f (l0 : List (S53)) (a1 : Int) (a2 : Int) : Option (List (S53)) := if 0 ≤ a1 ∧ a2 = a1 + 1 ∧ a1 < (l0.length : Int) then some (l0.eraseIdx a1.toNat) else none
theorem impl_Account.size : (Try.prog.info? 53).map (·.size) = some 5 := by kernel_rfl
theorem impl_Account.zero (w : World) : (zeroValue 53).run Try.prog w = .ok (.agg #[.int .u64 0, .int .u64 0, .int .u64 0, .int .u64 0, .int .i64 0]) w := by kernel_rfl
set_option maxHeartbeats 2000000 in
set_option maxRecDepth 100000 in
theorem impl_Account.calls (P0_ : Nat → Prop) (u9000_ : Value) (l0 : List (S53)) (a1 : Int) (a2 : Int) (r : List (S53)) (w0 w : World) (hB : Below w0.heap.size w0 w) (ho0 : Kd.R k53 53 w w0.heap.size P0_ u9000_ l0) (h : impl_Account.f l0 a1 a2 = some r) :
    Calls Try.prog 78 #[u9000_, .int .i64 a1, .int .i64 a2] w fun e w' => ∃ v0_ : Value, e = .returned (v0_) ∧ Kd.R k53 53 w' w0.heap.size (fun k_ => (P0_ k_ ∨ w.heap.size ≤ k_)) v0_ r ∧ Below w0.heap.size w0 w' ∧ Kept w w' (fun k_ => P0_ k_) := by
  unfold impl_Account.f at h
  by_cases hc : 0 ≤ a1 ∧ a2 = a1 + 1 ∧ a1 < (l0.length : Int)
  rotate_left
  · rw [if_neg hc] at h; cases h
  rw [if_pos hc] at h
  obtain rfl := Option.some.inj h
  clear h
  obtain ⟨h0, rfl, hlt⟩ := hc
  obtain ⟨i, rfl⟩ := Int.eq_ofNat_of_zero_le h0
  have hi : i < l0.length := by omega
  obtain ⟨g, cap, cur, hv, hg, hP, hb, hcap, hm, hs, ht⟩ := impl_Account.flat.block ho0 (by omega)
  subst hv
  obtain ⟨n, hn⟩ : ∃ n, n = l0.length := ⟨_, rfl⟩
  unfold maxLen at hm
  have hm63 := hm
  have HO := Aside0.mk (Kd.R_mono ho0 (ok' := fun k_ => P0_ k_ ∨ w.heap.size ≤ k_) (fun k hk => .inl hk))
  have HB := Aside0.mk hB
  have HG := Aside0.mk hg
  have HP := Aside0.mk hP
  have HN := Aside0.mk hn
  rw [← hn] at HO ⊢
  rw [← hn] at hi hcap
  clear ho0 hB hg hP hb hs ht hn h0 hlt
  have e1 : (i : Int) + 1 = ((i + 1 : Nat) : Int) := by omega
  rw [Int.toNat_natCast]
  have p1 : (i : Int) ≤ ((i + 1 : Nat) : Int) := by omega
  have p2 : ((i + 1 : Nat) : Int) ≤ (n : Int) := by omega
  have p3 : ¬ ((i : Int) = ((i + 1 : Nat) : Int)) := by omega
  rw [e1]
  clear e1
  have hsz := impl_Account.size
  have hdr : Aside0 (Kd.R k53 53 w.drew w0.heap.size (fun k_ => P0_ k_ ∨ w.heap.size ≤ k_) (.slice (some ⟨g, 0, none⟩) n cap) l0) := ⟨HO.out⟩
  have hbd : Aside0 (Below w0.heap.size w0 w.drew) := ⟨below_drew HB.out⟩
  clear HO
  have hic : i ≤ cap := by omega
  have hjc : i + 1 ≤ cap := by omega
  have hq : (i : Int) ≤ (i : Int) + 1 := by omega
  have hr0 : (0 : Int) ≤ (i : Int) + 1 := by omega
  have hr1 : (i : Int) + 1 ≤ (n : Int) := by omega
  by_cases hce : cap = i + 1
  · subst hce
    clear hic hjc
    go_enter Try.func78, Try.ntmps78
    go_wp2_with (fail)
    go_region_law (refine Kd.R_delete_step k53 (w0 := w0) w0.heap.size (by simp [Region.wanted]) (.tmp 22) (.tmp 25) 27 53 rfl Try.underlying27 hsz (g := g) (n := n) (c := i + 1) (k := i) (m := n - (i + 1)) (c2 := 0) (A := some ⟨g, 0, none⟩) (by simp [Act.eval, Act.put]) (by simp [Act.eval, Act.put]; omega) (by simp) rfl hdr.out hi hbd.out hbd.out.size ?_; intro w1 hr hb hgw)
    have hcn : ¬ ((i + 1) = n - 1) := by omega
    have hnn : n - 1 ≤ n := by omega
    have hk1 : ((n - 1 : Nat) : Int) ≤ (n : Int) := by omega
    obtain ⟨hl1, _, hok1, _, _, cur1, hb1, hs1, ht1⟩ := impl_Account.flat.blockG hr
    have hsz3 : (k53).sz = 5 := rfl
    have hcl : ∀ ty, (Builtin.clear_ #[27] ty #[.slice (some ⟨g, (n - 1) * 5, none⟩) (n - (n - 1)) ((i + 1) - (n - 1))]).run Try.prog w1 = .ok (.tuple #[]) (w1.setCells g ((n - 1) * 5) (.agg #[.int .u64 0, .int .u64 0, .int .u64 0, .int .u64 0, .int .i64 0] : Value).cells.toList) := fun ty => by
      rw [show n - (n - 1) = 1 by omega]
      refine Go.Proofs.Ytdbfjakhkclggaa.Slc.run_clear_one w1 _ 53 ty _ Try.underlying27 impl_Account.zero g _ _ (by decide) (fun j hj => ?_) (fun j hj => blk_frozen hb1 _)
      have hj' : j < 5 := hj
      rw [blk_cell hb1, Array.getElem?_eq_getElem (by rw [hs1, hsz3]; omega)]
      rfl
    obtain ⟨W2, hW2⟩ : ∃ W2, W2 = w1.setCells g ((n - 1) * 5) (.agg #[.int .u64 0, .int .u64 0, .int .u64 0, .int .u64 0, .int .i64 0] : Value).cells.toList := ⟨_, rfl⟩
    rw [← hW2] at hcl
    obtain ⟨cur2, hb2, hs2, hk2, _⟩ := Go.Proofs.Ytdbfjakhkclggaa.Slc.setCells_blk g 53 (.agg #[.int .u64 0, .int .u64 0, .int .u64 0, .int .u64 0, .int .i64 0] : Value).cells.toList ((n - 1) * 5) w1 cur1 hb1
    rw [← hW2] at hb2
    have hR : Kd.R k53 53 W2 w0.heap.size (fun k_ => (P0_ k_ ∨ w.heap.size ≤ k_)) (.slice (some ⟨g, 0, none⟩) (n - 1) (i + 1)) (l0.eraseIdx i) := by
      refine impl_Account.flat.row hb2 HG.out hok1 hl1.symm (by omega) (by unfold maxLen; omega) (hs2.trans hs1) ?_
      rw [← ht1, ← hl1]
      apply List.ext_getElem?
      intro q
      by_cases hq : q < (n - 1) * (k53).sz
      · rw [List.getElem?_take_of_lt hq, List.getElem?_take_of_lt hq, Array.getElem?_toList, Array.getElem?_toList]
        exact hk2 q (.inl (by rw [hsz3] at hq; exact hq))
      · rw [List.getElem?_eq_none u5_37, List.getElem?_eq_none u5_37]
    have hBel : Below w0.heap.size w0 W2 := by rw [hW2]; exact Go.Proofs.Ytdbfjakhkclggaa.Slc.below_setCells HG.out _ _ hb
    have hKp : Kept w W2 (fun k_ => P0_ k_) := by
      rw [hW2]
      exact Go.Proofs.Ytdbfjakhkclggaa.Slc.kept_setCells (.inl HP.out) _ _ (Kept.of_grown (W := w.drew) hgw (Kept.drew (Kept.refl w _)) (fun k hk => .inl (by injection hk with hk; exact hk ▸ HP.out)))
    have HR := Aside0.mk hR
    have HBe := Aside0.mk hBel
    have HKp := Aside0.mk hKp
    clear hR hBel hKp hr hb hgw hb1 hs1 ht1 hb2 hs2 hk2 hW2 hl1 hok1 hsz3
    go_wp2
    go_ret
    exact ⟨_, rfl, HR.out, HBe.out, HKp.out⟩
  go_enter Try.func78, Try.ntmps78
  go_wp2_with (fail)
  go_region_law (refine Kd.R_delete_step k53 (w0 := w0) w0.heap.size (by simp [Region.wanted]) (.tmp 22) (.tmp 25) 27 53 rfl Try.underlying27 hsz (g := g) (n := n) (c := cap) (k := i) (m := n - (i + 1)) (c2 := cap - (i + 1)) (A := some ⟨g, (i + 1) * 5, none⟩) (by simp [Act.eval, Act.put]) (by simp [Act.eval, Act.put]) (by rw [if_neg hce]; simp only [Option.map_some, add_plain]; first | done | rfl) rfl hdr.out hi hbd.out hbd.out.size ?_; intro w1 hr hb hgw)
  have hcn : ¬ (cap = n - 1) := by omega
  have hnn : n - 1 ≤ n := by omega
  have hk1 : ((n - 1 : Nat) : Int) ≤ (n : Int) := by omega
  obtain ⟨hl1, _, hok1, _, _, cur1, hb1, hs1, ht1⟩ := impl_Account.flat.blockG hr
  have hsz3 : (k53).sz = 5 := rfl
  have hcl : ∀ ty, (Builtin.clear_ #[27] ty #[.slice (some ⟨g, (n - 1) * 5, none⟩) (n - (n - 1)) (cap - (n - 1))]).run Try.prog w1 = .ok (.tuple #[]) (w1.setCells g ((n - 1) * 5) (.agg #[.int .u64 0, .int .u64 0, .int .u64 0, .int .u64 0, .int .i64 0] : Value).cells.toList) := fun ty => by
    rw [show n - (n - 1) = 1 by omega]
    refine Go.Proofs.Ytdbfjakhkclggaa.Slc.run_clear_one w1 _ 53 ty _ Try.underlying27 impl_Account.zero g _ _ (by decide) (fun j hj => ?_) (fun j hj => blk_frozen hb1 _)
    have hj' : j < 5 := hj
    rw [blk_cell hb1, Array.getElem?_eq_getElem (by rw [hs1, hsz3]; omega)]
    rfl
  obtain ⟨W2, hW2⟩ : ∃ W2, W2 = w1.setCells g ((n - 1) * 5) (.agg #[.int .u64 0, .int .u64 0, .int .u64 0, .int .u64 0, .int .i64 0] : Value).cells.toList := ⟨_, rfl⟩
  rw [← hW2] at hcl
  obtain ⟨cur2, hb2, hs2, hk2, _⟩ := Go.Proofs.Ytdbfjakhkclggaa.Slc.setCells_blk g 53 (.agg #[.int .u64 0, .int .u64 0, .int .u64 0, .int .u64 0, .int .i64 0] : Value).cells.toList ((n - 1) * 5) w1 cur1 hb1
  rw [← hW2] at hb2
  have hR : Kd.R k53 53 W2 w0.heap.size (fun k_ => (P0_ k_ ∨ w.heap.size ≤ k_)) (.slice (some ⟨g, 0, none⟩) (n - 1) cap) (l0.eraseIdx i) := by
    refine impl_Account.flat.row hb2 HG.out hok1 hl1.symm (by omega) (by unfold maxLen; omega) (hs2.trans hs1) ?_
    rw [← ht1, ← hl1]
    apply List.ext_getElem?
    intro q
    by_cases hq : q < (n - 1) * (k53).sz
    · rw [List.getElem?_take_of_lt hq, List.getElem?_take_of_lt hq, Array.getElem?_toList, Array.getElem?_toList]
      exact hk2 q (.inl (by rw [hsz3] at hq; exact hq))
    · rw [List.getElem?_eq_none u5_37, List.getElem?_eq_none u5_37]
  have hBel : Below w0.heap.size w0 W2 := by rw [hW2]; exact Go.Proofs.Ytdbfjakhkclggaa.Slc.below_setCells HG.out _ _ hb
  have hKp : Kept w W2 (fun k_ => P0_ k_) := by
    rw [hW2]
    exact Go.Proofs.Ytdbfjakhkclggaa.Slc.kept_setCells (.inl HP.out) _ _ (Kept.of_grown (W := w.drew) hgw (Kept.drew (Kept.refl w _)) (fun k hk => .inl (by injection hk with hk; exact hk ▸ HP.out)))
  have HR := Aside0.mk hR
  have HBe := Aside0.mk hBel
  have HKp := Aside0.mk hKp
  clear hR hBel hKp hr hb hgw hb1 hs1 ht1 hb2 hs2 hk2 hW2 hl1 hok1 hsz3
  go_wp2
  go_ret
  exact ⟨_, rfl, HR.out, HBe.out, HKp.out⟩


end Go.Proofs.Ytdbfjakhkclggaa.QFnExactWithdraw
