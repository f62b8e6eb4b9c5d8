-- Printed by the session's own program wip/prx.py.
import Derived.Test.YtjdpifafijcpbaaQFnExactKeepx0
import Derived.Test.YtjdpifafijcpbaaQFnExactKeepx8
import Derived.Test.YtjdpifafijcpbaaQFnExactKeepx9
namespace Go.Proofs.Ytjdpifafijcpbaa.QFnExactKeep
open Go.RowKit Go.Proofs.YtjdpifafijcpbaaW.PrintWords Go.Proofs.YtjdpifafijcpbaaW.PrintLast Go.Proofs.YtjdpifafijcpbaaW.PrintMore
attribute [local go_sem] max2_int min2_int max_two min_two max_three min_three max_four min_four Go.Proofs.Ytjdpifafijcpbaa.Set.isSome_setCell   -- for this text's walks alone
set_option linter.unusedVariables false
set_option linter.unusedSimpArgs false

-- squeezed
theorem u10_0 {P : Prop} (h : P := by repeat (first | (with_reducible first | exact HB.out | apply below_alloc | apply pw_below_drewN | apply below_drew1 | refine below_set ?_ GE266.out | refine below_set ?_ GE267.out | refine below_set ?_ GE273.out | refine below_set ?_ GE276.out) | exact HB.out)) : P := h
theorem u10_1 {P : Prop} (h : P := by (with_reducible repeat (first | refine blk_drewN ?_ _ | refine blk_drew ?_ | refine blk_alloc ?_ _)); exact BK266.out) : P := h
theorem u10_2 {P : Prop} (h : P := by (with_reducible repeat (first | refine blk_drewN ?_ _ | refine blk_drew ?_ | refine blk_alloc ?_ _)); exact BK267.out) : P := h
theorem u10_3 {P : Prop} (h : P := by repeat (first | (with_reducible first | exact HB.out | apply below_alloc | apply pw_below_drewN | apply below_drew1 | refine below_set ?_ GE266.out | refine below_set ?_ GE267.out | refine below_set ?_ GE273.out) | exact HB.out)) : P := h
theorem u10_4 {P : Prop} (h : P := by (with_reducible repeat (first | refine blk_drewN ?_ _ | refine blk_drew ?_ | refine blk_alloc ?_ _)); exact BK276.out) : P := h
theorem u10_5 {P : Prop} (h : P := by (with_reducible repeat (first | refine blk_drewN ?_ _ | refine blk_drew ?_ | refine blk_alloc ?_ _)); exact BK273.out) : P := h
theorem u10_6 {P : Prop} (h : P := by repeat (first | (with_reducible first | exact HB.out | apply below_alloc | apply pw_below_drewN | apply below_drew1 | refine below_set ?_ GE266.out | refine below_set ?_ GE267.out) | exact HB.out)) : P := h
theorem u10_7 {P : Prop} (h : P := by (with_reducible repeat (first | refine blk_drewN ?_ _ | refine blk_drew ?_ | refine blk_alloc ?_ _)); refine blk_put (cs := #[.int .i64 t268, .int .i64 t269, .slice Ao17 t270.length co17]) ?_ 1 _ rfl; (with_reducible repeat (first | refine blk_drewN ?_ _ | refine blk_drew ?_ | refine blk_alloc ?_ _)); exact BK273.out) : P := h
theorem u10_8 {P : Prop} (h : P := by (with_reducible repeat (first | apply Kd.R_alloc | apply Kd.R_drewN | apply Kd.R_drew)); exact (Kd.R_mono (Kd.R_far (p := ⟨gb276, 3, none⟩) (Kd.R_far (p := ⟨gb276, 2, none⟩) (Kd.R_far (p := ⟨gb276, 1, none⟩) (Kd.R_far (p := ⟨gb276, 0, none⟩) (Kd.R_mono HO_274002.out (fun k_ hk => (⟨hk, hk.2⟩ : _ ∧ k_ ≠ gb276))) (fun _ hk => hk.2) (.int .i64 a1)) (fun _ hk => hk.2) (.int .i64 a2)) (fun _ hk => hk.2) (.int .i64 (wrap64 (t269 + 1)))) (fun _ hk => hk.2) (.string a3)) (fun _ h_ => h_.1))) : P := h
theorem u10_9 {P : Prop} (h : P := by (with_reducible repeat (first | refine blk_drewN ?_ _ | refine blk_drew ?_ | refine blk_alloc ?_ _)); refine blk_far ?_ NB266_273.out _; (with_reducible repeat (first | refine blk_drewN ?_ _ | refine blk_drew ?_ | refine blk_alloc ?_ _)); exact BK266.out) : P := h
theorem u10_10 {P : Prop} (h : P := by (with_reducible repeat (first | refine blk_drewN ?_ _ | refine blk_drew ?_ | refine blk_alloc ?_ _)); refine blk_far ?_ NB267_273.out _; (with_reducible repeat (first | refine blk_drewN ?_ _ | refine blk_drew ?_ | refine blk_alloc ?_ _)); exact BK267.out) : P := h
theorem u10_11 {P : Prop} (h : P := by first | exact Kd.own_blk (Kd.R_ne HO_274002.out BK280.out (by decide)) | (have hz_ := HO_274002.out.1 _ rfl; first | exact hz_ | exact hz_.2 | exact hz_.2.2 | exact hz_.2.1 | exact hz_.1 | exact hz_.1.2)) : P := h
theorem u10_12 {P : Prop} (h : P := by (with_reducible repeat (first | refine blk_drewN ?_ _ | refine blk_drew ?_ | refine blk_alloc ?_ _)); refine blk_put (cs := #[.int .i64 a1, .int .i64 a2, .int .i64 (wrap64 (t269 + 1)), .string (⟨#[]⟩ : ByteArray)]) ?_ 3 _ rfl; (with_reducible repeat (first | refine blk_drewN ?_ _ | refine blk_drew ?_ | refine blk_alloc ?_ _)); refine blk_put (cs := #[.int .i64 a1, .int .i64 a2, .int .i64 0, .string (⟨#[]⟩ : ByteArray)]) ?_ 2 _ rfl; (with_reducible repeat (first | refine blk_drewN ?_ _ | refine blk_drew ?_ | refine blk_alloc ?_ _)); refine blk_put (cs := #[.int .i64 a1, .int .i64 0, .int .i64 0, .string (⟨#[]⟩ : ByteArray)]) ?_ 1 _ rfl; (with_reducible repeat (first | refine blk_drewN ?_ _ | refine blk_drew ?_ | refine blk_alloc ?_ _)); refine blk_put (cs := #[.int .i64 0, .int .i64 0, .int .i64 0, .string (⟨#[]⟩ : ByteArray)]) ?_ 0 _ rfl; (with_reducible repeat (first | refine blk_drewN ?_ _ | refine blk_drew ?_ | refine blk_alloc ?_ _)); exact BK276.out) : P := h
theorem u10_13 {P : Prop} (h : P := by (with_reducible repeat (first | apply Kd.R_alloc | apply Kd.R_drewN | apply Kd.R_drew)); exact HO_274002.out) : P := h
theorem u10_14 {P : Prop} (h : P := by (with_reducible repeat (first | refine blk_drewN ?_ _ | refine blk_drew ?_ | refine blk_alloc ?_ _)); refine blk_put (cs := #[.int .i64 t268, .int .i64 t269, .slice none 0 0]) ?_ 2 _ rfl; (with_reducible repeat (first | refine blk_drewN ?_ _ | refine blk_drew ?_ | refine blk_alloc ?_ _)); refine blk_put (cs := #[.int .i64 t268, .int .i64 0, .slice none 0 0]) ?_ 1 _ rfl; (with_reducible repeat (first | refine blk_drewN ?_ _ | refine blk_drew ?_ | refine blk_alloc ?_ _)); refine blk_put (cs := #[.int .i64 0, .int .i64 0, .slice none 0 0]) ?_ 0 _ rfl; (with_reducible repeat (first | refine blk_drewN ?_ _ | refine blk_drew ?_ | refine blk_alloc ?_ _)); exact BK273.out) : P := h
theorem u10_15 {P : Prop} (h : P := by (with_reducible repeat (first | refine blk_drewN ?_ _ | refine blk_drew ?_ | refine blk_alloc ?_ _)); refine blk_far ?_ NB266_276.out _; (with_reducible repeat (first | refine blk_drewN ?_ _ | refine blk_drew ?_ | refine blk_alloc ?_ _)); refine blk_far ?_ NB266_276.out _; (with_reducible repeat (first | refine blk_drewN ?_ _ | refine blk_drew ?_ | refine blk_alloc ?_ _)); refine blk_far ?_ NB266_276.out _; (with_reducible repeat (first | refine blk_drewN ?_ _ | refine blk_drew ?_ | refine blk_alloc ?_ _)); refine blk_far ?_ NB266_276.out _; (with_reducible repeat (first | refine blk_drewN ?_ _ | refine blk_drew ?_ | refine blk_alloc ?_ _)); exact BK266.out) : P := h
theorem u10_16 {P : Prop} (h : P := by (with_reducible repeat (first | refine blk_drewN ?_ _ | refine blk_drew ?_ | refine blk_alloc ?_ _)); refine blk_far ?_ NB267_276.out _; (with_reducible repeat (first | refine blk_drewN ?_ _ | refine blk_drew ?_ | refine blk_alloc ?_ _)); refine blk_far ?_ NB267_276.out _; (with_reducible repeat (first | refine blk_drewN ?_ _ | refine blk_drew ?_ | refine blk_alloc ?_ _)); refine blk_far ?_ NB267_276.out _; (with_reducible repeat (first | refine blk_drewN ?_ _ | refine blk_drew ?_ | refine blk_alloc ?_ _)); refine blk_far ?_ NB267_276.out _; (with_reducible repeat (first | refine blk_drewN ?_ _ | refine blk_drew ?_ | refine blk_alloc ?_ _)); exact BK267.out) : P := h
theorem u10_17 {P : Prop} (h : P := by (with_reducible repeat (first | refine blk_drewN ?_ _ | refine blk_drew ?_ | refine blk_alloc ?_ _)); refine blk_far ?_ NB273_276.out _; (with_reducible repeat (first | refine blk_drewN ?_ _ | refine blk_drew ?_ | refine blk_alloc ?_ _)); refine blk_far ?_ NB273_276.out _; (with_reducible repeat (first | refine blk_drewN ?_ _ | refine blk_drew ?_ | refine blk_alloc ?_ _)); refine blk_far ?_ NB273_276.out _; (with_reducible repeat (first | refine blk_drewN ?_ _ | refine blk_drew ?_ | refine blk_alloc ?_ _)); refine blk_far ?_ NB273_276.out _; (with_reducible repeat (first | refine blk_drewN ?_ _ | refine blk_drew ?_ | refine blk_alloc ?_ _)); exact BK273.out) : P := h
theorem u10_18 {P : Prop} (h : P := by repeat (first | (with_reducible first | exact HB.out | apply below_alloc | apply pw_below_drewN | apply below_drew1 | refine below_set ?_ GE266.out) | exact HB.out)) : P := h
theorem u10_19 {P : Prop} (h : P := by first | (rw [add_block]; exact hn281_0) | (show (Addr.add _ _).block ≠ _; rw [add_block]; exact hn281_0) | exact hn281_0) : P := h
theorem u10_20 {P : Prop} (h : P := by first | (rw [add_block]; exact hn281_1) | (show (Addr.add _ _).block ≠ _; rw [add_block]; exact hn281_1) | exact hn281_1) : P := h
theorem u10_21 {P : Prop} (h : P := by first | (rw [add_block]; exact hn281_2) | (show (Addr.add _ _).block ≠ _; rw [add_block]; exact hn281_2) | exact hn281_2) : P := h
theorem u10_22 {P : Prop} (h : P := by first | (rw [add_block]; exact hn281_3) | (show (Addr.add _ _).block ≠ _; rw [add_block]; exact hn281_3) | exact hn281_3) : P := h
theorem u10_23 {P : Prop} (h : P := by (with_reducible repeat (first | refine blk_drewN ?_ _ | refine blk_drew ?_ | refine blk_alloc ?_ _)); refine blk_far ?_ NB266_273.out _; (with_reducible repeat (first | refine blk_drewN ?_ _ | refine blk_drew ?_ | refine blk_alloc ?_ _)); refine blk_far ?_ NB266_273.out _; (with_reducible repeat (first | refine blk_drewN ?_ _ | refine blk_drew ?_ | refine blk_alloc ?_ _)); refine blk_far ?_ NB266_273.out _; (with_reducible repeat (first | refine blk_drewN ?_ _ | refine blk_drew ?_ | refine blk_alloc ?_ _)); exact BK266.out) : P := h
theorem u10_24 {P : Prop} (h : P := by (with_reducible repeat (first | refine blk_drewN ?_ _ | refine blk_drew ?_ | refine blk_alloc ?_ _)); refine blk_far ?_ NB267_273.out _; (with_reducible repeat (first | refine blk_drewN ?_ _ | refine blk_drew ?_ | refine blk_alloc ?_ _)); refine blk_far ?_ NB267_273.out _; (with_reducible repeat (first | refine blk_drewN ?_ _ | refine blk_drew ?_ | refine blk_alloc ?_ _)); refine blk_far ?_ NB267_273.out _; (with_reducible repeat (first | refine blk_drewN ?_ _ | refine blk_drew ?_ | refine blk_alloc ?_ _)); exact BK267.out) : P := h
theorem u10_25 {P : Prop} (h : P := by first | (with_reducible assumption) | assumption) : P := h
theorem u10_26 {P : Prop} (h : P := by repeat (first | (with_reducible first | exact HB.out | apply below_alloc | apply pw_below_drewN | apply below_drew1) | exact HB.out)) : P := h
theorem u10_27 {P : Prop} (h : P := by (with_reducible repeat (first | refine blk_drewN ?_ _ | refine blk_drew ?_ | refine blk_alloc ?_ _)); refine blk_put (cs := #[.int .i64 t268, .int .i64 (wrap64 (t269 + 1)), .slice none 0 0]) ?_ 2 _ rfl; (with_reducible repeat (first | refine blk_drewN ?_ _ | refine blk_drew ?_ | refine blk_alloc ?_ _)); refine blk_put (cs := #[.int .i64 t268, .int .i64 0, .slice none 0 0]) ?_ 1 _ rfl; (with_reducible repeat (first | refine blk_drewN ?_ _ | refine blk_drew ?_ | refine blk_alloc ?_ _)); refine blk_put (cs := #[.int .i64 0, .int .i64 0, .slice none 0 0]) ?_ 0 _ rfl; (with_reducible repeat (first | refine blk_drewN ?_ _ | refine blk_drew ?_ | refine blk_alloc ?_ _)); refine blk_far ?_ NB267_273.out _; (with_reducible repeat (first | refine blk_drewN ?_ _ | refine blk_drew ?_ | refine blk_alloc ?_ _)); exact BK267.out) : P := h
theorem u10_28 {P : Prop} (h : P := by (with_reducible repeat (first | apply Kd.R_alloc | apply Kd.R_drewN | apply Kd.R_drew)); exact (Kd.R_mono (Kd.R_far (p := ⟨gb273, 2, none⟩) (Kd.R_far (p := ⟨gb273, 1, none⟩) (Kd.R_far (p := ⟨gb273, 0, none⟩) (Kd.R_types HO272.out BK273.out (by decide)) (fun _ hk => hk.2) (.int .i64 t268)) (fun _ hk => hk.2) (.int .i64 t269)) (fun _ hk => hk.2) (.slice Ao17 t270.length co17)) (fun _ h_ => h_.1))) : P := h
theorem u10_29 {P : Prop} (h : P := by (with_reducible repeat (first | refine blk_drewN ?_ _ | refine blk_drew ?_ | refine blk_alloc ?_ _)); refine blk_far ?_ NB266_280.out _; (with_reducible repeat (first | refine blk_drewN ?_ _ | refine blk_drew ?_ | refine blk_alloc ?_ _)); refine blk_far ?_ NB266_280.out _; (with_reducible repeat (first | refine blk_drewN ?_ _ | refine blk_drew ?_ | refine blk_alloc ?_ _)); refine blk_far ?_ NB266_280.out _; (with_reducible repeat (first | refine blk_drewN ?_ _ | refine blk_drew ?_ | refine blk_alloc ?_ _)); refine blk_far ?_ NB266_280.out _; (with_reducible repeat (first | refine blk_drewN ?_ _ | refine blk_drew ?_ | refine blk_alloc ?_ _)); exact BK266.out) : P := h
theorem u10_30 {P : Prop} (h : P := by (with_reducible repeat (first | refine blk_drewN ?_ _ | refine blk_drew ?_ | refine blk_alloc ?_ _)); refine blk_far ?_ NB267_280.out _; (with_reducible repeat (first | refine blk_drewN ?_ _ | refine blk_drew ?_ | refine blk_alloc ?_ _)); refine blk_far ?_ NB267_280.out _; (with_reducible repeat (first | refine blk_drewN ?_ _ | refine blk_drew ?_ | refine blk_alloc ?_ _)); refine blk_far ?_ NB267_280.out _; (with_reducible repeat (first | refine blk_drewN ?_ _ | refine blk_drew ?_ | refine blk_alloc ?_ _)); refine blk_far ?_ NB267_280.out _; (with_reducible repeat (first | refine blk_drewN ?_ _ | refine blk_drew ?_ | refine blk_alloc ?_ _)); exact BK267.out) : P := h
theorem u10_31 {P : Prop} (h : P := by (with_reducible repeat (first | refine blk_drewN ?_ _ | refine blk_drew ?_ | refine blk_alloc ?_ _)); refine blk_far ?_ NB273_280.out _; (with_reducible repeat (first | refine blk_drewN ?_ _ | refine blk_drew ?_ | refine blk_alloc ?_ _)); refine blk_far ?_ NB273_280.out _; (with_reducible repeat (first | refine blk_drewN ?_ _ | refine blk_drew ?_ | refine blk_alloc ?_ _)); refine blk_far ?_ NB273_280.out _; (with_reducible repeat (first | refine blk_drewN ?_ _ | refine blk_drew ?_ | refine blk_alloc ?_ _)); refine blk_far ?_ NB273_280.out _; (with_reducible repeat (first | refine blk_drewN ?_ _ | refine blk_drew ?_ | refine blk_alloc ?_ _)); exact BK273.out) : P := h
theorem u10_32 {P : Prop} (h : P := by (with_reducible repeat (first | refine blk_drewN ?_ _ | refine blk_drew ?_ | refine blk_alloc ?_ _)); refine blk_far ?_ NB276_280.out _; (with_reducible repeat (first | refine blk_drewN ?_ _ | refine blk_drew ?_ | refine blk_alloc ?_ _)); refine blk_far ?_ NB276_280.out _; (with_reducible repeat (first | refine blk_drewN ?_ _ | refine blk_drew ?_ | refine blk_alloc ?_ _)); refine blk_far ?_ NB276_280.out _; (with_reducible repeat (first | refine blk_drewN ?_ _ | refine blk_drew ?_ | refine blk_alloc ?_ _)); refine blk_far ?_ NB276_280.out _; (with_reducible repeat (first | refine blk_drewN ?_ _ | refine blk_drew ?_ | refine blk_alloc ?_ _)); exact BK276.out) : P := h
theorem u10_33 {P : Prop} (h : P := by (with_reducible repeat (first | apply Kd.R_alloc | apply Kd.R_drewN | apply Kd.R_drew)); exact Kd.R_mono (Kd.R_far (p := ⟨gb280, 3, none⟩) (Kd.R_far (p := ⟨gb280, 2, none⟩) (Kd.R_far (p := ⟨gb280, 1, none⟩) (Kd.R_far (p := ⟨gb280, 0, none⟩) (Kd.R_mono HO_274002.out (fun k_ hk => (⟨hk, hk.2⟩ : _ ∧ k_ ≠ gb280))) (fun _ hk => hk.2) (.int .i64 ((rd_T45 t270 x71_2).f0))) (fun _ hk => hk.2) (.int .i64 ((rd_T45 t270 x71_2).f1))) (fun _ hk => hk.2) (.int .i64 ((rd_T45 t270 x71_2).f2))) (fun _ hk => hk.2) (.string ((rd_T45 t270 x71_2).f3))) (fun _ hk => hk.1.1)) : P := h
theorem u10_34 {P : Prop} (h : P := by (with_reducible repeat (first | apply Kd.R_alloc | apply Kd.R_drewN | apply Kd.R_drew)); exact Kd.R_mono (Kd.R_far (p := ⟨gb280, 3, none⟩) (Kd.R_far (p := ⟨gb280, 2, none⟩) (Kd.R_far (p := ⟨gb280, 1, none⟩) (Kd.R_far (p := ⟨gb280, 0, none⟩) (Kd.R_mono HO_69.out (fun k_ hk => (⟨hk, hk.2⟩ : _ ∧ k_ ≠ gb280))) (fun _ hk => hk.2) (.int .i64 ((rd_T45 t270 x71_2).f0))) (fun _ hk => hk.2) (.int .i64 ((rd_T45 t270 x71_2).f1))) (fun _ hk => hk.2) (.int .i64 ((rd_T45 t270 x71_2).f2))) (fun _ hk => hk.2) (.string ((rd_T45 t270 x71_2).f3))) (fun _ hk => hk.1.1)) : P := h
theorem u10_35 {P : Prop} (h : P := by (with_reducible repeat (first | apply Kd.R_alloc | apply Kd.R_drewN | apply Kd.R_drew)); exact (Kd.R_mono (Kd.R_far (p := ⟨gb273, 1, none⟩) (Kd.R_types HO_274002.out BK273.out (by decide)) (fun _ hk => hk.2) (.int .i64 (wrap64 (t269 + 1)))) (fun _ h_ => h_.1))) : P := h
theorem u10_36 {P : Prop} (h : P := by (with_reducible repeat (first | apply Kd.R_alloc | apply Kd.R_drewN | apply Kd.R_drew)); exact HO272.out) : P := h
theorem u10_37 {P : Prop} (h : P := by first | rfl | (simp; done) | (simp [*]; done)) : P := h
theorem u10_38 {P : Prop} (h : P := by repeat (first | exact (Kd.C_below HR0_2.out HB.out) | (with_reducible refine Kd.C_alloc ?_ _) | (with_reducible refine Kd.C_drewN ?_ _) | (with_reducible refine Kd.C_drew ?_))) : P := h
theorem u10_39 {P : Prop} (h : P := by repeat (first | (with_reducible first | exact HB.out | apply below_alloc | apply pw_below_drewN | apply below_drew1 | refine below_set ?_ GE266.out | refine below_set ?_ GE267.out | refine below_set ?_ GE273.out | refine below_set ?_ GE276.out | refine below_set ?_ GE280.out) | exact HB.out)) : P := h
theorem u10_40 {P : Prop} (h : P := by refine (Kd.R_reads' (e := 45) (base := w.heap.size) (ok := fun k_ => (True ∧ k_ ≠ gb276)) (n := t270.length) (c := co17) ?_).2.2; exact u10_8) : P := h
theorem u10_41 {P : Prop} (h : P := by (with_reducible repeat (first | apply Kd.R_alloc | apply Kd.R_drewN | apply Kd.R_drew)); exact Kd.R_mono HO_274002.out (fun _ hk => hk.2)) : P := h
theorem u10_42 {P : Prop} (h : P := by (with_reducible repeat (first | apply Kd.R_alloc | apply Kd.R_drewN | apply Kd.R_drew)); exact HO_69.out) : P := h
/-! ### impl_keep: function 34 -/
mutual
def impl_keep.j0 : Nat → Int → Int → ByteArray → Bool → Int → Int → List (S45) → Option (Int × Int × (List (S45)) × Bool)
  | 0, _, _, _, _, _, _, _ => none
  | k + 1, x1, x2, x3, x39, x274000, x274001, x274002 => if x39 = true then (some (x274000, x274001, x274002, false)) else ((impl_sessionOf.f x274000 (wrap64 (x274001 + 1)) x274002 x1).bind fun t277 => (if t277 ≥ 0 then (if 0 ≤ t277 then (if t277 < (x274002.length : Int) then (some (x274000, wrap64 (x274001 + 1), (x274002.set (t277 : Int).toNat (⟨x1, x2, wrap64 (x274001 + 1), x3⟩ : S45)), true)) else (none)) else (none)) else (if (x274002.length : Int) = x274000 then (impl_keep.l0 k x1 0 x274002 (x274002.length : Int) 0 x274000 (wrap64 (x274001 + 1)) x274002 x1 x2 (wrap64 (x274001 + 1)) x3) else (impl_keep.j2 k x1 x274000 (wrap64 (x274001 + 1)) x274002 x1 x2 (wrap64 (x274001 + 1)) x3))))
def impl_keep.j2 : Nat → Int → Int → Int → List (S45) → Int → Int → Int → ByteArray → Option (Int × Int × (List (S45)) × Bool)
  | 0, _, _, _, _, _, _, _, _ => none
  | k + 1, x1, x274000, x274001, x274002, x277000, x277001, x277002, x277003 => impl_keep.l1 k x1 0 x274000 x274001 x274002 x277000 x277001 x277002 x277003
def impl_keep.l1 : Nat → Int → Int → Int → Int → List (S45) → Int → Int → Int → ByteArray → Option (Int × Int × (List (S45)) × Bool)
  | 0, _, _, _, _, _, _, _, _, _ => none
  | k + 1, x1, x18, x274000, x274001, x274002, x277000, x277001, x277002, x277003 => if x18 < (x274002.length : Int) then (if 0 ≤ x18 then (if ((rd_T45 x274002 x18).f0) < x1 then (impl_keep.l1 k x1 (wrap64 (x18 + 1)) x274000 x274001 x274002 x277000 x277001 x277002 x277003) else ((impl_Session_43.f x274002 x18 (([(⟨x277000, x277001, x277002, x277003⟩ : S45)] : List (S45)))).bind fun t289 => (some (x274000, x274001, t289, true)))) else (none)) else ((impl_Session_43.f x274002 x18 (([(⟨x277000, x277001, x277002, x277003⟩ : S45)] : List (S45)))).bind fun t295 => (some (x274000, x274001, t295, true)))
def impl_keep.l0 : Nat → Int → Int → List (S45) → Int → Int → Int → Int → List (S45) → Int → Int → Int → ByteArray → Option (Int × Int × (List (S45)) × Bool)
  | 0, _, _, _, _, _, _, _, _, _, _, _, _ => none
  | k + 1, x1, x15, x69, x70, x71, x274000, x274001, x274002, x277000, x277001, x277002, x277003 => if x71 < x70 then (if 0 ≤ x71 then (if x71 < (x69.length : Int) then (if 0 ≤ x15 then (if x15 < (x274002.length : Int) then (if ((rd_T45 x69 x71).f2) < ((rd_T45 x274002 x15).f2) then (impl_keep.l0 k x1 x71 x69 x70 (wrap64 (x71 + 1)) x274000 x274001 x274002 x277000 x277001 x277002 x277003) else (impl_keep.l0 k x1 x15 x69 x70 (wrap64 (x71 + 1)) x274000 x274001 x274002 x277000 x277001 x277002 x277003)) else (none)) else (none)) else (none)) else (none)) else ((impl_Session_31.f x274002 x15 (wrap64 (x15 + 1))).bind fun t282 => (impl_keep.j2 k x1 x274000 x274001 t282 x277000 x277001 x277002 x277003))
end
def impl_keep.f (k : Nat) (a0_0 : Int) (a0_1 : Int) (l0_2 : List (S45)) (a1 : Int) (a2 : Int) (a3 : ByteArray) : Option (Int × Int × (List (S45)) × Bool) := (impl_copySessions.f a0_0 a0_1 l0_2).bind fun bt268 => ((impl_look.f k a0_0 a0_1 l0_2 a1 a2).bind fun bt274 => (if bt274.1 = 0 then (if (a3.size : Int) > 40 then (impl_keep.j0 k a1 a2 a3 true bt268.1 bt268.2.1 bt268.2.2) else (impl_keep.j0 k a1 a2 a3 (a0_1 == 1000000) bt268.1 bt268.2.1 bt268.2.2)) else (impl_keep.j0 k a1 a2 a3 true bt268.1 bt268.2.1 bt268.2.2)))
theorem impl_keep.mono_l : ∀ k, (∀ y0 y1 y2 y3 y4 y5 y6, LeO (impl_keep.j0 k y0 y1 y2 y3 y4 y5 y6) (impl_keep.j0 (k + 1) y0 y1 y2 y3 y4 y5 y6)) ∧ (∀ y0 y1 y2 y3 y4 y5 y6 y7, LeO (impl_keep.j2 k y0 y1 y2 y3 y4 y5 y6 y7) (impl_keep.j2 (k + 1) y0 y1 y2 y3 y4 y5 y6 y7)) ∧ (∀ y0 y1 y2 y3 y4 y5 y6 y7 y8, LeO (impl_keep.l1 k y0 y1 y2 y3 y4 y5 y6 y7 y8) (impl_keep.l1 (k + 1) y0 y1 y2 y3 y4 y5 y6 y7 y8)) ∧ (∀ y0 y1 y2 y3 y4 y5 y6 y7 y8 y9 y10 y11, LeO (impl_keep.l0 k y0 y1 y2 y3 y4 y5 y6 y7 y8 y9 y10 y11) (impl_keep.l0 (k + 1) y0 y1 y2 y3 y4 y5 y6 y7 y8 y9 y10 y11))
  | 0 => ⟨fun _ _ _ _ _ _ _ r h => by simp [impl_keep.j0] at h, fun _ _ _ _ _ _ _ _ r h => by simp [impl_keep.j2] at h, fun _ _ _ _ _ _ _ _ _ r h => by simp [impl_keep.l1] at h, fun _ _ _ _ _ _ _ _ _ _ _ _ r h => by simp [impl_keep.l0] at h⟩
  | k + 1 => by
    obtain ⟨ih0, ih1, ih2, ih3⟩ := impl_keep.mono_l k
    refine ⟨?_, ?_, ?_, ?_⟩
    · intro y0 y1 y2 y3 y4 y5 y6
      unfold impl_keep.j0
      repeat' first
      | (with_reducible exact ih0 _ _ _ _ _ _ _)
      | (with_reducible exact ih1 _ _ _ _ _ _ _ _)
      | (with_reducible exact ih2 _ _ _ _ _ _ _ _ _)
      | (with_reducible exact ih3 _ _ _ _ _ _ _ _ _ _ _ _)
      | (with_reducible exact impl_look.mono _ _ _ _ _ _)
      | (with_reducible exact LeO.refl _)
      | (with_reducible exact LeO.none _)
      | (with_reducible refine LeO.ite ?_ ?_)
      | (with_reducible refine LeO.bind ?_ (fun _ => ?_))
      | exact ih0 _ _ _ _ _ _ _
      | exact ih1 _ _ _ _ _ _ _ _
      | exact ih2 _ _ _ _ _ _ _ _ _
      | exact ih3 _ _ _ _ _ _ _ _ _ _ _ _
      | exact impl_look.mono _ _ _ _ _ _
      | exact LeO.none _
      | refine LeO.ite ?_ ?_
      | refine LeO.bind ?_ (fun _ => ?_)
    · intro y0 y1 y2 y3 y4 y5 y6 y7
      unfold impl_keep.j2
      repeat' first
      | (with_reducible exact ih0 _ _ _ _ _ _ _)
      | (with_reducible exact ih1 _ _ _ _ _ _ _ _)
      | (with_reducible exact ih2 _ _ _ _ _ _ _ _ _)
      | (with_reducible exact ih3 _ _ _ _ _ _ _ _ _ _ _ _)
      | (with_reducible exact impl_look.mono _ _ _ _ _ _)
      | (with_reducible exact LeO.refl _)
      | (with_reducible exact LeO.none _)
      | (with_reducible refine LeO.ite ?_ ?_)
      | (with_reducible refine LeO.bind ?_ (fun _ => ?_))
      | exact ih0 _ _ _ _ _ _ _
      | exact ih1 _ _ _ _ _ _ _ _
      | exact ih2 _ _ _ _ _ _ _ _ _
      | exact ih3 _ _ _ _ _ _ _ _ _ _ _ _
      | exact impl_look.mono _ _ _ _ _ _
      | exact LeO.none _
      | refine LeO.ite ?_ ?_
      | refine LeO.bind ?_ (fun _ => ?_)
    · intro y0 y1 y2 y3 y4 y5 y6 y7 y8
      unfold impl_keep.l1
      repeat' first
      | (with_reducible exact ih0 _ _ _ _ _ _ _)
      | (with_reducible exact ih1 _ _ _ _ _ _ _ _)
      | (with_reducible exact ih2 _ _ _ _ _ _ _ _ _)
      | (with_reducible exact ih3 _ _ _ _ _ _ _ _ _ _ _ _)
      | (with_reducible exact impl_look.mono _ _ _ _ _ _)
      | (with_reducible exact LeO.refl _)
      | (with_reducible exact LeO.none _)
      | (with_reducible refine LeO.ite ?_ ?_)
      | (with_reducible refine LeO.bind ?_ (fun _ => ?_))
      | exact ih0 _ _ _ _ _ _ _
      | exact ih1 _ _ _ _ _ _ _ _
      | exact ih2 _ _ _ _ _ _ _ _ _
      | exact ih3 _ _ _ _ _ _ _ _ _ _ _ _
      | exact impl_look.mono _ _ _ _ _ _
      | exact LeO.none _
      | refine LeO.ite ?_ ?_
      | refine LeO.bind ?_ (fun _ => ?_)
    · intro y0 y1 y2 y3 y4 y5 y6 y7 y8 y9 y10 y11
      unfold impl_keep.l0
      repeat' first
      | (with_reducible exact ih0 _ _ _ _ _ _ _)
      | (with_reducible exact ih1 _ _ _ _ _ _ _ _)
      | (with_reducible exact ih2 _ _ _ _ _ _ _ _ _)
      | (with_reducible exact ih3 _ _ _ _ _ _ _ _ _ _ _ _)
      | (with_reducible exact impl_look.mono _ _ _ _ _ _)
      | (with_reducible exact LeO.refl _)
      | (with_reducible exact LeO.none _)
      | (with_reducible refine LeO.ite ?_ ?_)
      | (with_reducible refine LeO.bind ?_ (fun _ => ?_))
      | exact ih0 _ _ _ _ _ _ _
      | exact ih1 _ _ _ _ _ _ _ _
      | exact ih2 _ _ _ _ _ _ _ _ _
      | exact ih3 _ _ _ _ _ _ _ _ _ _ _ _
      | exact impl_look.mono _ _ _ _ _ _
      | exact LeO.none _
      | refine LeO.ite ?_ ?_
      | refine LeO.bind ?_ (fun _ => ?_)
theorem impl_keep.mono : ∀ a0 a1 a2 a3 a4 a5 k, LeO (impl_keep.f k a0 a1 a2 a3 a4 a5) (impl_keep.f (k + 1) a0 a1 a2 a3 a4 a5) := by
  intro a0 a1 a2 a3 a4 a5 k
  obtain ⟨ih0, ih1, ih2, ih3⟩ := impl_keep.mono_l k
  unfold impl_keep.f
  repeat' first
      | (with_reducible exact ih0 _ _ _ _ _ _ _)
      | (with_reducible exact ih1 _ _ _ _ _ _ _ _)
      | (with_reducible exact ih2 _ _ _ _ _ _ _ _ _)
      | (with_reducible exact ih3 _ _ _ _ _ _ _ _ _ _ _ _)
      | (with_reducible exact impl_look.mono _ _ _ _ _ _)
      | (with_reducible exact LeO.refl _)
      | (with_reducible exact LeO.none _)
      | (with_reducible refine LeO.ite ?_ ?_)
      | (with_reducible refine LeO.bind ?_ (fun _ => ?_))
      | exact ih0 _ _ _ _ _ _ _
      | exact ih1 _ _ _ _ _ _ _ _
      | exact ih2 _ _ _ _ _ _ _ _ _
      | exact ih3 _ _ _ _ _ _ _ _ _ _ _ _
      | exact impl_look.mono _ _ _ _ _ _
      | exact LeO.none _
      | refine LeO.ite ?_ ?_
      | refine LeO.bind ?_ (fun _ => ?_)
set_option maxHeartbeats 16000000 in
set_option maxRecDepth 100000 in
theorem impl_keep.calls (k : Nat) (a0_0 : Int) (a0_1 : Int) (A0_2 : Option Addr) (c0_2 : Nat) (l0_2 : List (S45)) (a1 : Int) (a2 : Int) (a3 : ByteArray) (r1 : Int) (r2 : Int) (r3 : List (S45)) (r4 : Bool) (w : World) (hr0_2 : Kd.C k45 w A0_2 l0_2.length l0_2) (hc0_2 : l0_2.length ≤ c0_2) (h : impl_keep.f k a0_0 a0_1 l0_2 a1 a2 a3 = some (r1, r2, r3, r4)) :
    Calls Try.prog 34 #[.agg #[.int .i64 a0_0, .int .i64 a0_1, .slice A0_2 l0_2.length c0_2], .int .i64 a1, .int .i64 a2, .string a3] w fun e w' => ∃ v2_ : Value, e = .returned (.tuple #[.agg #[.int .i64 r1, .int .i64 r2, v2_], .bool r4]) ∧ Kd.R k45 45 w' w.heap.size (fun _ => True) v2_ r3 ∧ Below w.heap.size w w' := by
  have hu29 := Try.underlying29
  have hu45 := Try.underlying45
  have HR0_2 := Aside0.mk hr0_2
  have HC0_2 := Aside0.mk hc0_2
  clear hr0_2 hc0_2
  have HB := Aside0.mk (Below.refl w.heap.size w)
  have H : ((impl_copySessions.f a0_0 a0_1 l0_2).bind fun bt268 => ((impl_look.f k a0_0 a0_1 l0_2 a1 a2).bind fun bt274 => (if bt274.1 = 0 then (if (a3.size : Int) > 40 then (impl_keep.j0 k a1 a2 a3 true bt268.1 bt268.2.1 bt268.2.2) else (impl_keep.j0 k a1 a2 a3 (a0_1 == 1000000) bt268.1 bt268.2.1 bt268.2.2)) else (impl_keep.j0 k a1 a2 a3 true bt268.1 bt268.2.1 bt268.2.2)))) = some (r1, r2, r3, r4) := h
  clear h
  replace H := Option.bind_eq_some_iff.mp H
  obtain ⟨⟨t268, t269, t270⟩, A50, H⟩ := H
  (try dsimp only at H)
  have A5 := Aside0.mk A50
  clear A50
  replace H := Option.bind_eq_some_iff.mp H
  obtain ⟨⟨t274, t275⟩, A60, H⟩ := H
  (try dsimp only at H)
  have A6 := Aside0.mk A60
  clear A60
  have HC7 := Aside0.mk H
  clear H
  go_enter Try.func34, Try.ntmps34
  go_upto_region 3 with (first | ((with_reducible refine gate_dst (N := 4) rfl ?_); (try (refine gate_guard (by rfl) ?_; dsimp only)); refine box_event ?hg (N := 4) ?hd (cs := #[.int .i64 a0_0, .int .i64 a0_1, .slice A0_2 l0_2.length c0_2]) (t := 29) ?hr ?_; (case hd => rfl); (case hg => rfl); (case hr => first | (go_simp; done) | (go_simp; rfl)); intro gb266 hg w8 hbox hb; have n0_ := Aside0.mk (below_step u10_26 hb); have n1_ := Aside0.mk (hbox); have n2_ := Aside0.mk ((by rw [hg]; exact (below_size u10_26) : w.heap.size ≤ gb266)); have n3_ := Aside0.mk ((by rw [hg]; exact (below_size u10_26) : w.heap.size ≤ gb266)); clear HB; have HB := n0_; have BK266 := n1_; have GW266 := n2_; have GE266 := n3_; clear n0_ n1_ n2_ n3_; clear hb hbox hg) | ((with_reducible refine gate_dst (N := 8) rfl ?_); (try (refine gate_guard (by rfl) ?_; dsimp only)); refine box_event ?hg (N := 8) ?hd (cs := #[.int .i64 0, .int .i64 0, .slice none 0 0]) (t := 29) ?hr ?_; (case hd => rfl); (case hg => rfl); (case hr => first | (go_simp; done) | (go_simp; rfl)); intro gb267 hg w9 hbox hb; have n0_ := Aside0.mk (blk_below (g := gb266) (o := .cells #[.int .i64 a0_0, .int .i64 a0_1, .slice A0_2 l0_2.length c0_2] 29 (0, 0)) u10_1 hb); have n1_ := Aside0.mk (below_step u10_18 hb); have n2_ := Aside0.mk (hbox); have n3_ := Aside0.mk ((by rw [hg]; exact (below_size u10_18) : w.heap.size ≤ gb267)); have n4_ := Aside0.mk ((by rw [hg]; exact (below_size u10_18) : w.heap.size ≤ gb267)); have n5_ := Aside0.mk ((by rw [hg]; exact Nat.ne_of_lt (blk_lt (g := gb266) (o := .cells #[.int .i64 a0_0, .int .i64 a0_1, .slice A0_2 l0_2.length c0_2] 29 (0, 0)) u10_1) : gb266 ≠ gb267)); have n6_ := Aside0.mk ((by rw [hg]; exact Nat.ne_of_gt (blk_lt (g := gb266) (o := .cells #[.int .i64 a0_0, .int .i64 a0_1, .slice A0_2 l0_2.length c0_2] 29 (0, 0)) u10_1) : gb267 ≠ gb266)); clear BK266; clear HB; have BK266 := n0_; have HB := n1_; have BK267 := n2_; have GW267 := n3_; have GE267 := n4_; have NB266_267 := n5_; have NB267_266 := n6_; clear n0_ n1_ n2_ n3_ n4_ n5_ n6_; clear hb hbox hg; have hnb10 := NB266_267.out; have hnc10 := NB267_266.out; have hcz11_0 : w9.cell? ⟨gb266, 0, none⟩ = some (.int .i64 a0_0) := (blk_cell BK266.out 0).trans rfl; have hcz11_1 : w9.cell? ⟨gb266, 1, none⟩ = some (.int .i64 a0_1) := (blk_cell BK266.out 1).trans rfl; have hcz11_2 : w9.cell? ⟨gb266, 2, none⟩ = some (.slice A0_2 l0_2.length c0_2) := (blk_cell BK266.out 2).trans rfl; have hfz11_0 := blk_frozen BK266.out 0; have hfz11_1 := blk_frozen BK266.out 1; have hfz11_2 := blk_frozen BK266.out 2) | (go_at_call 29; (with_reducible refine (impl_copySessions.calls a0_0 a0_1 _ _ l0_2 t268 t269 t270 _ ?side1 ?side2 A5.out).mono ?_); (case side1 => exact u10_38); (case side2 => exact HC0_2.out); rintro e w12 ⟨v271, rfl, ho0, hb⟩; have n0_ := Aside0.mk (Kd.R_lower ho0 (below_size u10_6)); have n1_ := Aside0.mk (blk_below (g := gb266) (o := .cells #[.int .i64 a0_0, .int .i64 a0_1, .slice A0_2 l0_2.length c0_2] 29 (0, 0)) u10_1 hb); have n2_ := Aside0.mk (blk_below (g := gb267) (o := .cells #[.int .i64 0, .int .i64 0, .slice none 0 0] 29 (0, 0)) u10_2 hb); have n3_ := Aside0.mk (below_step u10_6 hb); clear BK266; clear BK267; clear HB; have HO272 := n0_; have BK266 := n1_; have BK267 := n2_; have HB := n3_; clear n0_ n1_ n2_ n3_; (try clear hb); (try clear hb2); (try clear hk); (try clear hi); (try clear ho0)) | ((with_reducible refine gate_dst (N := 10) rfl ?_); (try (refine gate_guard (by rfl) ?_; dsimp only)); refine box_event ?hg (N := 10) ?hd (cs := #[.int .i64 0, .int .i64 0, .slice none 0 0]) (t := 29) ?hr ?_; (case hd => rfl); (case hg => rfl); (case hr => first | (go_simp; done) | (go_simp; rfl)); intro gb273 hg w13 hbox hb; have n0_ := Aside0.mk (Kd.R_below u10_36 hb); have n1_ := Aside0.mk (blk_below (g := gb266) (o := .cells #[.int .i64 a0_0, .int .i64 a0_1, .slice A0_2 l0_2.length c0_2] 29 (0, 0)) u10_1 hb); have n2_ := Aside0.mk (blk_below (g := gb267) (o := .cells #[.int .i64 0, .int .i64 0, .slice none 0 0] 29 (0, 0)) u10_2 hb); have n3_ := Aside0.mk (below_step u10_6 hb); have n4_ := Aside0.mk (hbox); have n5_ := Aside0.mk ((by rw [hg]; exact (below_size u10_6) : w.heap.size ≤ gb273)); have n6_ := Aside0.mk ((by rw [hg]; exact (below_size u10_6) : w.heap.size ≤ gb273)); have n7_ := Aside0.mk ((by rw [hg]; exact Nat.ne_of_lt (blk_lt (g := gb266) (o := .cells #[.int .i64 a0_0, .int .i64 a0_1, .slice A0_2 l0_2.length c0_2] 29 (0, 0)) u10_1) : gb266 ≠ gb273)); have n8_ := Aside0.mk ((by rw [hg]; exact Nat.ne_of_gt (blk_lt (g := gb266) (o := .cells #[.int .i64 a0_0, .int .i64 a0_1, .slice A0_2 l0_2.length c0_2] 29 (0, 0)) u10_1) : gb273 ≠ gb266)); have n9_ := Aside0.mk ((by rw [hg]; exact Nat.ne_of_lt (blk_lt (g := gb267) (o := .cells #[.int .i64 0, .int .i64 0, .slice none 0 0] 29 (0, 0)) u10_2) : gb267 ≠ gb273)); have n10_ := Aside0.mk ((by rw [hg]; exact Nat.ne_of_gt (blk_lt (g := gb267) (o := .cells #[.int .i64 0, .int .i64 0, .slice none 0 0] 29 (0, 0)) u10_2) : gb273 ≠ gb267)); clear HO272; clear BK266; clear BK267; clear HB; have HO272 := n0_; have BK266 := n1_; have BK267 := n2_; have HB := n3_; have BK273 := n4_; have GW273 := n5_; have GE273 := n6_; have NB266_273 := n7_; have NB273_266 := n8_; have NB267_273 := n9_; have NB273_267 := n10_; clear n0_ n1_ n2_ n3_ n4_ n5_ n6_ n7_ n8_ n9_ n10_; clear hb hbox hg; have hnb14 := NB273_266.out; have hnc14 := NB266_273.out; have hnb15 := NB273_267.out; have hnc15 := NB267_273.out; have hcz16_0 : w13.cell? ⟨gb273, 0, none⟩ = some (.int .i64 0) := (blk_cell BK273.out 0).trans rfl; have hcz16_1 : w13.cell? ⟨gb273, 1, none⟩ = some (.int .i64 0) := (blk_cell BK273.out 1).trans rfl; have hcz16_2 : w13.cell? ⟨gb273, 2, none⟩ = some (.slice none 0 0) := (blk_cell BK273.out 2).trans rfl; have hfz16_0 := blk_frozen BK273.out 0; have hfz16_1 := blk_frozen BK273.out 1; have hfz16_2 := blk_frozen BK273.out 2; obtain ⟨Ao17, co17, eo17⟩ := Kd.R_slice HO272.out; subst eo17; have hcz18_0 : w13.cell? ⟨gb266, 0, none⟩ = some (.int .i64 a0_0) := (blk_cell BK266.out 0).trans rfl; have hcz18_1 : w13.cell? ⟨gb266, 1, none⟩ = some (.int .i64 a0_1) := (blk_cell BK266.out 1).trans rfl; have hcz18_2 : w13.cell? ⟨gb266, 2, none⟩ = some (.slice A0_2 l0_2.length c0_2) := (blk_cell BK266.out 2).trans rfl; have hfz18_0 := blk_frozen BK266.out 0; have hfz18_1 := blk_frozen BK266.out 1; have hfz18_2 := blk_frozen BK266.out 2) | (go_at_call 26; (with_reducible refine (impl_look.calls k a0_0 a0_1 _ _ l0_2 a1 a2 t274 t275 _ ?side1 ?side2 A6.out).mono ?_); (case side1 => exact (by exact Kd.C_below HR0_2.out u10_3)); (case side2 => exact HC0_2.out); rintro e w19 ⟨rfl, hb⟩; have n0_ := Aside0.mk (Kd.R_below u10_28 hb); have n1_ := Aside0.mk (blk_below (g := gb266) (o := .cells #[.int .i64 a0_0, .int .i64 a0_1, .slice A0_2 l0_2.length c0_2] 29 (0, 0)) u10_23 hb); have n2_ := Aside0.mk (blk_below (g := gb267) (o := .cells #[.int .i64 0, .int .i64 0, .slice none 0 0] 29 (0, 0)) u10_24 hb); have n3_ := Aside0.mk (blk_below (g := gb273) (o := .cells #[.int .i64 t268, .int .i64 t269, .slice Ao17 t270.length co17] 29 (0, 0)) u10_14 hb); have n4_ := Aside0.mk (below_step u10_3 hb); clear HO272; clear BK266; clear BK267; clear BK273; clear HB; have HO272 := n0_; have BK266 := n1_; have BK267 := n2_; have BK273 := n3_; have HB := n4_; clear n0_ n1_ n2_ n3_ n4_; (try clear hb); (try clear hb2); (try clear hk); (try clear hi)))
  repeat (go_quiet (first | ((with_reducible refine gate_dst (N := 4) rfl ?_); (try (refine gate_guard (by rfl) ?_; dsimp only)); refine box_event ?hg (N := 4) ?hd (cs := #[.int .i64 a0_0, .int .i64 a0_1, .slice A0_2 l0_2.length c0_2]) (t := 29) ?hr ?_; (case hd => rfl); (case hg => rfl); (case hr => first | (go_simp; done) | (go_simp; rfl)); intro gb266 hg w8 hbox hb; have n0_ := Aside0.mk (below_step u10_26 hb); have n1_ := Aside0.mk (hbox); have n2_ := Aside0.mk ((by rw [hg]; exact (below_size u10_26) : w.heap.size ≤ gb266)); have n3_ := Aside0.mk ((by rw [hg]; exact (below_size u10_26) : w.heap.size ≤ gb266)); clear HB; have HB := n0_; have BK266 := n1_; have GW266 := n2_; have GE266 := n3_; clear n0_ n1_ n2_ n3_; clear hb hbox hg) | ((with_reducible refine gate_dst (N := 8) rfl ?_); (try (refine gate_guard (by rfl) ?_; dsimp only)); refine box_event ?hg (N := 8) ?hd (cs := #[.int .i64 0, .int .i64 0, .slice none 0 0]) (t := 29) ?hr ?_; (case hd => rfl); (case hg => rfl); (case hr => first | (go_simp; done) | (go_simp; rfl)); intro gb267 hg w9 hbox hb; have n0_ := Aside0.mk (blk_below (g := gb266) (o := .cells #[.int .i64 a0_0, .int .i64 a0_1, .slice A0_2 l0_2.length c0_2] 29 (0, 0)) u10_1 hb); have n1_ := Aside0.mk (below_step u10_18 hb); have n2_ := Aside0.mk (hbox); have n3_ := Aside0.mk ((by rw [hg]; exact (below_size u10_18) : w.heap.size ≤ gb267)); have n4_ := Aside0.mk ((by rw [hg]; exact (below_size u10_18) : w.heap.size ≤ gb267)); have n5_ := Aside0.mk ((by rw [hg]; exact Nat.ne_of_lt (blk_lt (g := gb266) (o := .cells #[.int .i64 a0_0, .int .i64 a0_1, .slice A0_2 l0_2.length c0_2] 29 (0, 0)) u10_1) : gb266 ≠ gb267)); have n6_ := Aside0.mk ((by rw [hg]; exact Nat.ne_of_gt (blk_lt (g := gb266) (o := .cells #[.int .i64 a0_0, .int .i64 a0_1, .slice A0_2 l0_2.length c0_2] 29 (0, 0)) u10_1) : gb267 ≠ gb266)); clear BK266; clear HB; have BK266 := n0_; have HB := n1_; have BK267 := n2_; have GW267 := n3_; have GE267 := n4_; have NB266_267 := n5_; have NB267_266 := n6_; clear n0_ n1_ n2_ n3_ n4_ n5_ n6_; clear hb hbox hg; have hnb10 := NB266_267.out; have hnc10 := NB267_266.out; have hcz11_0 : w9.cell? ⟨gb266, 0, none⟩ = some (.int .i64 a0_0) := (blk_cell BK266.out 0).trans rfl; have hcz11_1 : w9.cell? ⟨gb266, 1, none⟩ = some (.int .i64 a0_1) := (blk_cell BK266.out 1).trans rfl; have hcz11_2 : w9.cell? ⟨gb266, 2, none⟩ = some (.slice A0_2 l0_2.length c0_2) := (blk_cell BK266.out 2).trans rfl; have hfz11_0 := blk_frozen BK266.out 0; have hfz11_1 := blk_frozen BK266.out 1; have hfz11_2 := blk_frozen BK266.out 2) | (go_at_call 29; (with_reducible refine (impl_copySessions.calls a0_0 a0_1 _ _ l0_2 t268 t269 t270 _ ?side1 ?side2 A5.out).mono ?_); (case side1 => exact u10_38); (case side2 => exact HC0_2.out); rintro e w12 ⟨v271, rfl, ho0, hb⟩; have n0_ := Aside0.mk (Kd.R_lower ho0 (below_size u10_6)); have n1_ := Aside0.mk (blk_below (g := gb266) (o := .cells #[.int .i64 a0_0, .int .i64 a0_1, .slice A0_2 l0_2.length c0_2] 29 (0, 0)) u10_1 hb); have n2_ := Aside0.mk (blk_below (g := gb267) (o := .cells #[.int .i64 0, .int .i64 0, .slice none 0 0] 29 (0, 0)) u10_2 hb); have n3_ := Aside0.mk (below_step u10_6 hb); clear BK266; clear BK267; clear HB; have HO272 := n0_; have BK266 := n1_; have BK267 := n2_; have HB := n3_; clear n0_ n1_ n2_ n3_; (try clear hb); (try clear hb2); (try clear hk); (try clear hi); (try clear ho0)) | ((with_reducible refine gate_dst (N := 10) rfl ?_); (try (refine gate_guard (by rfl) ?_; dsimp only)); refine box_event ?hg (N := 10) ?hd (cs := #[.int .i64 0, .int .i64 0, .slice none 0 0]) (t := 29) ?hr ?_; (case hd => rfl); (case hg => rfl); (case hr => first | (go_simp; done) | (go_simp; rfl)); intro gb273 hg w13 hbox hb; have n0_ := Aside0.mk (Kd.R_below u10_36 hb); have n1_ := Aside0.mk (blk_below (g := gb266) (o := .cells #[.int .i64 a0_0, .int .i64 a0_1, .slice A0_2 l0_2.length c0_2] 29 (0, 0)) u10_1 hb); have n2_ := Aside0.mk (blk_below (g := gb267) (o := .cells #[.int .i64 0, .int .i64 0, .slice none 0 0] 29 (0, 0)) u10_2 hb); have n3_ := Aside0.mk (below_step u10_6 hb); have n4_ := Aside0.mk (hbox); have n5_ := Aside0.mk ((by rw [hg]; exact (below_size u10_6) : w.heap.size ≤ gb273)); have n6_ := Aside0.mk ((by rw [hg]; exact (below_size u10_6) : w.heap.size ≤ gb273)); have n7_ := Aside0.mk ((by rw [hg]; exact Nat.ne_of_lt (blk_lt (g := gb266) (o := .cells #[.int .i64 a0_0, .int .i64 a0_1, .slice A0_2 l0_2.length c0_2] 29 (0, 0)) u10_1) : gb266 ≠ gb273)); have n8_ := Aside0.mk ((by rw [hg]; exact Nat.ne_of_gt (blk_lt (g := gb266) (o := .cells #[.int .i64 a0_0, .int .i64 a0_1, .slice A0_2 l0_2.length c0_2] 29 (0, 0)) u10_1) : gb273 ≠ gb266)); have n9_ := Aside0.mk ((by rw [hg]; exact Nat.ne_of_lt (blk_lt (g := gb267) (o := .cells #[.int .i64 0, .int .i64 0, .slice none 0 0] 29 (0, 0)) u10_2) : gb267 ≠ gb273)); have n10_ := Aside0.mk ((by rw [hg]; exact Nat.ne_of_gt (blk_lt (g := gb267) (o := .cells #[.int .i64 0, .int .i64 0, .slice none 0 0] 29 (0, 0)) u10_2) : gb273 ≠ gb267)); clear HO272; clear BK266; clear BK267; clear HB; have HO272 := n0_; have BK266 := n1_; have BK267 := n2_; have HB := n3_; have BK273 := n4_; have GW273 := n5_; have GE273 := n6_; have NB266_273 := n7_; have NB273_266 := n8_; have NB267_273 := n9_; have NB273_267 := n10_; clear n0_ n1_ n2_ n3_ n4_ n5_ n6_ n7_ n8_ n9_ n10_; clear hb hbox hg; have hnb14 := NB273_266.out; have hnc14 := NB266_273.out; have hnb15 := NB273_267.out; have hnc15 := NB267_273.out; have hcz16_0 : w13.cell? ⟨gb273, 0, none⟩ = some (.int .i64 0) := (blk_cell BK273.out 0).trans rfl; have hcz16_1 : w13.cell? ⟨gb273, 1, none⟩ = some (.int .i64 0) := (blk_cell BK273.out 1).trans rfl; have hcz16_2 : w13.cell? ⟨gb273, 2, none⟩ = some (.slice none 0 0) := (blk_cell BK273.out 2).trans rfl; have hfz16_0 := blk_frozen BK273.out 0; have hfz16_1 := blk_frozen BK273.out 1; have hfz16_2 := blk_frozen BK273.out 2; obtain ⟨Ao17, co17, eo17⟩ := Kd.R_slice HO272.out; subst eo17; have hcz18_0 : w13.cell? ⟨gb266, 0, none⟩ = some (.int .i64 a0_0) := (blk_cell BK266.out 0).trans rfl; have hcz18_1 : w13.cell? ⟨gb266, 1, none⟩ = some (.int .i64 a0_1) := (blk_cell BK266.out 1).trans rfl; have hcz18_2 : w13.cell? ⟨gb266, 2, none⟩ = some (.slice A0_2 l0_2.length c0_2) := (blk_cell BK266.out 2).trans rfl; have hfz18_0 := blk_frozen BK266.out 0; have hfz18_1 := blk_frozen BK266.out 1; have hfz18_2 := blk_frozen BK266.out 2) | (go_at_call 26; (with_reducible refine (impl_look.calls k a0_0 a0_1 _ _ l0_2 a1 a2 t274 t275 _ ?side1 ?side2 A6.out).mono ?_); (case side1 => exact (by exact Kd.C_below HR0_2.out u10_3)); (case side2 => exact HC0_2.out); rintro e w19 ⟨rfl, hb⟩; have n0_ := Aside0.mk (Kd.R_below u10_28 hb); have n1_ := Aside0.mk (blk_below (g := gb266) (o := .cells #[.int .i64 a0_0, .int .i64 a0_1, .slice A0_2 l0_2.length c0_2] 29 (0, 0)) u10_23 hb); have n2_ := Aside0.mk (blk_below (g := gb267) (o := .cells #[.int .i64 0, .int .i64 0, .slice none 0 0] 29 (0, 0)) u10_24 hb); have n3_ := Aside0.mk (blk_below (g := gb273) (o := .cells #[.int .i64 t268, .int .i64 t269, .slice Ao17 t270.length co17] 29 (0, 0)) u10_14 hb); have n4_ := Aside0.mk (below_step u10_3 hb); clear HO272; clear BK266; clear BK267; clear BK273; clear HB; have HO272 := n0_; have BK266 := n1_; have BK267 := n2_; have BK273 := n3_; have HB := n4_; clear n0_ n1_ n2_ n3_ n4_; (try clear hb); (try clear hb2); (try clear hk); (try clear hi))); go_upto_region 3 with (first | ((with_reducible refine gate_dst (N := 4) rfl ?_); (try (refine gate_guard (by rfl) ?_; dsimp only)); refine box_event ?hg (N := 4) ?hd (cs := #[.int .i64 a0_0, .int .i64 a0_1, .slice A0_2 l0_2.length c0_2]) (t := 29) ?hr ?_; (case hd => rfl); (case hg => rfl); (case hr => first | (go_simp; done) | (go_simp; rfl)); intro gb266 hg w8 hbox hb; have n0_ := Aside0.mk (below_step u10_26 hb); have n1_ := Aside0.mk (hbox); have n2_ := Aside0.mk ((by rw [hg]; exact (below_size u10_26) : w.heap.size ≤ gb266)); have n3_ := Aside0.mk ((by rw [hg]; exact (below_size u10_26) : w.heap.size ≤ gb266)); clear HB; have HB := n0_; have BK266 := n1_; have GW266 := n2_; have GE266 := n3_; clear n0_ n1_ n2_ n3_; clear hb hbox hg) | ((with_reducible refine gate_dst (N := 8) rfl ?_); (try (refine gate_guard (by rfl) ?_; dsimp only)); refine box_event ?hg (N := 8) ?hd (cs := #[.int .i64 0, .int .i64 0, .slice none 0 0]) (t := 29) ?hr ?_; (case hd => rfl); (case hg => rfl); (case hr => first | (go_simp; done) | (go_simp; rfl)); intro gb267 hg w9 hbox hb; have n0_ := Aside0.mk (blk_below (g := gb266) (o := .cells #[.int .i64 a0_0, .int .i64 a0_1, .slice A0_2 l0_2.length c0_2] 29 (0, 0)) u10_1 hb); have n1_ := Aside0.mk (below_step u10_18 hb); have n2_ := Aside0.mk (hbox); have n3_ := Aside0.mk ((by rw [hg]; exact (below_size u10_18) : w.heap.size ≤ gb267)); have n4_ := Aside0.mk ((by rw [hg]; exact (below_size u10_18) : w.heap.size ≤ gb267)); have n5_ := Aside0.mk ((by rw [hg]; exact Nat.ne_of_lt (blk_lt (g := gb266) (o := .cells #[.int .i64 a0_0, .int .i64 a0_1, .slice A0_2 l0_2.length c0_2] 29 (0, 0)) u10_1) : gb266 ≠ gb267)); have n6_ := Aside0.mk ((by rw [hg]; exact Nat.ne_of_gt (blk_lt (g := gb266) (o := .cells #[.int .i64 a0_0, .int .i64 a0_1, .slice A0_2 l0_2.length c0_2] 29 (0, 0)) u10_1) : gb267 ≠ gb266)); clear BK266; clear HB; have BK266 := n0_; have HB := n1_; have BK267 := n2_; have GW267 := n3_; have GE267 := n4_; have NB266_267 := n5_; have NB267_266 := n6_; clear n0_ n1_ n2_ n3_ n4_ n5_ n6_; clear hb hbox hg; have hnb10 := NB266_267.out; have hnc10 := NB267_266.out; have hcz11_0 : w9.cell? ⟨gb266, 0, none⟩ = some (.int .i64 a0_0) := (blk_cell BK266.out 0).trans rfl; have hcz11_1 : w9.cell? ⟨gb266, 1, none⟩ = some (.int .i64 a0_1) := (blk_cell BK266.out 1).trans rfl; have hcz11_2 : w9.cell? ⟨gb266, 2, none⟩ = some (.slice A0_2 l0_2.length c0_2) := (blk_cell BK266.out 2).trans rfl; have hfz11_0 := blk_frozen BK266.out 0; have hfz11_1 := blk_frozen BK266.out 1; have hfz11_2 := blk_frozen BK266.out 2) | (go_at_call 29; (with_reducible refine (impl_copySessions.calls a0_0 a0_1 _ _ l0_2 t268 t269 t270 _ ?side1 ?side2 A5.out).mono ?_); (case side1 => exact u10_38); (case side2 => exact HC0_2.out); rintro e w12 ⟨v271, rfl, ho0, hb⟩; have n0_ := Aside0.mk (Kd.R_lower ho0 (below_size u10_6)); have n1_ := Aside0.mk (blk_below (g := gb266) (o := .cells #[.int .i64 a0_0, .int .i64 a0_1, .slice A0_2 l0_2.length c0_2] 29 (0, 0)) u10_1 hb); have n2_ := Aside0.mk (blk_below (g := gb267) (o := .cells #[.int .i64 0, .int .i64 0, .slice none 0 0] 29 (0, 0)) u10_2 hb); have n3_ := Aside0.mk (below_step u10_6 hb); clear BK266; clear BK267; clear HB; have HO272 := n0_; have BK266 := n1_; have BK267 := n2_; have HB := n3_; clear n0_ n1_ n2_ n3_; (try clear hb); (try clear hb2); (try clear hk); (try clear hi); (try clear ho0)) | ((with_reducible refine gate_dst (N := 10) rfl ?_); (try (refine gate_guard (by rfl) ?_; dsimp only)); refine box_event ?hg (N := 10) ?hd (cs := #[.int .i64 0, .int .i64 0, .slice none 0 0]) (t := 29) ?hr ?_; (case hd => rfl); (case hg => rfl); (case hr => first | (go_simp; done) | (go_simp; rfl)); intro gb273 hg w13 hbox hb; have n0_ := Aside0.mk (Kd.R_below u10_36 hb); have n1_ := Aside0.mk (blk_below (g := gb266) (o := .cells #[.int .i64 a0_0, .int .i64 a0_1, .slice A0_2 l0_2.length c0_2] 29 (0, 0)) u10_1 hb); have n2_ := Aside0.mk (blk_below (g := gb267) (o := .cells #[.int .i64 0, .int .i64 0, .slice none 0 0] 29 (0, 0)) u10_2 hb); have n3_ := Aside0.mk (below_step u10_6 hb); have n4_ := Aside0.mk (hbox); have n5_ := Aside0.mk ((by rw [hg]; exact (below_size u10_6) : w.heap.size ≤ gb273)); have n6_ := Aside0.mk ((by rw [hg]; exact (below_size u10_6) : w.heap.size ≤ gb273)); have n7_ := Aside0.mk ((by rw [hg]; exact Nat.ne_of_lt (blk_lt (g := gb266) (o := .cells #[.int .i64 a0_0, .int .i64 a0_1, .slice A0_2 l0_2.length c0_2] 29 (0, 0)) u10_1) : gb266 ≠ gb273)); have n8_ := Aside0.mk ((by rw [hg]; exact Nat.ne_of_gt (blk_lt (g := gb266) (o := .cells #[.int .i64 a0_0, .int .i64 a0_1, .slice A0_2 l0_2.length c0_2] 29 (0, 0)) u10_1) : gb273 ≠ gb266)); have n9_ := Aside0.mk ((by rw [hg]; exact Nat.ne_of_lt (blk_lt (g := gb267) (o := .cells #[.int .i64 0, .int .i64 0, .slice none 0 0] 29 (0, 0)) u10_2) : gb267 ≠ gb273)); have n10_ := Aside0.mk ((by rw [hg]; exact Nat.ne_of_gt (blk_lt (g := gb267) (o := .cells #[.int .i64 0, .int .i64 0, .slice none 0 0] 29 (0, 0)) u10_2) : gb273 ≠ gb267)); clear HO272; clear BK266; clear BK267; clear HB; have HO272 := n0_; have BK266 := n1_; have BK267 := n2_; have HB := n3_; have BK273 := n4_; have GW273 := n5_; have GE273 := n6_; have NB266_273 := n7_; have NB273_266 := n8_; have NB267_273 := n9_; have NB273_267 := n10_; clear n0_ n1_ n2_ n3_ n4_ n5_ n6_ n7_ n8_ n9_ n10_; clear hb hbox hg; have hnb14 := NB273_266.out; have hnc14 := NB266_273.out; have hnb15 := NB273_267.out; have hnc15 := NB267_273.out; have hcz16_0 : w13.cell? ⟨gb273, 0, none⟩ = some (.int .i64 0) := (blk_cell BK273.out 0).trans rfl; have hcz16_1 : w13.cell? ⟨gb273, 1, none⟩ = some (.int .i64 0) := (blk_cell BK273.out 1).trans rfl; have hcz16_2 : w13.cell? ⟨gb273, 2, none⟩ = some (.slice none 0 0) := (blk_cell BK273.out 2).trans rfl; have hfz16_0 := blk_frozen BK273.out 0; have hfz16_1 := blk_frozen BK273.out 1; have hfz16_2 := blk_frozen BK273.out 2; obtain ⟨Ao17, co17, eo17⟩ := Kd.R_slice HO272.out; subst eo17; have hcz18_0 : w13.cell? ⟨gb266, 0, none⟩ = some (.int .i64 a0_0) := (blk_cell BK266.out 0).trans rfl; have hcz18_1 : w13.cell? ⟨gb266, 1, none⟩ = some (.int .i64 a0_1) := (blk_cell BK266.out 1).trans rfl; have hcz18_2 : w13.cell? ⟨gb266, 2, none⟩ = some (.slice A0_2 l0_2.length c0_2) := (blk_cell BK266.out 2).trans rfl; have hfz18_0 := blk_frozen BK266.out 0; have hfz18_1 := blk_frozen BK266.out 1; have hfz18_2 := blk_frozen BK266.out 2) | (go_at_call 26; (with_reducible refine (impl_look.calls k a0_0 a0_1 _ _ l0_2 a1 a2 t274 t275 _ ?side1 ?side2 A6.out).mono ?_); (case side1 => exact (by exact Kd.C_below HR0_2.out u10_3)); (case side2 => exact HC0_2.out); rintro e w19 ⟨rfl, hb⟩; have n0_ := Aside0.mk (Kd.R_below u10_28 hb); have n1_ := Aside0.mk (blk_below (g := gb266) (o := .cells #[.int .i64 a0_0, .int .i64 a0_1, .slice A0_2 l0_2.length c0_2] 29 (0, 0)) u10_23 hb); have n2_ := Aside0.mk (blk_below (g := gb267) (o := .cells #[.int .i64 0, .int .i64 0, .slice none 0 0] 29 (0, 0)) u10_24 hb); have n3_ := Aside0.mk (blk_below (g := gb273) (o := .cells #[.int .i64 t268, .int .i64 t269, .slice Ao17 t270.length co17] 29 (0, 0)) u10_14 hb); have n4_ := Aside0.mk (below_step u10_3 hb); clear HO272; clear BK266; clear BK267; clear BK273; clear HB; have HO272 := n0_; have BK266 := n1_; have BK267 := n2_; have BK273 := n3_; have HB := n4_; clear n0_ n1_ n2_ n3_ n4_; (try clear hb); (try clear hb2); (try clear hk); (try clear hi))))
  (try simp only [Act.put, List.setIfInBounds_toArray, List.set_cons_zero, List.set_cons_succ])
  go_cut [39] (fun v39 wc => ∃ (kq : Nat) (x39_6 : Bool), v39 = .bool x39_6 ∧ Aside0 (impl_keep.j0 kq a1 a2 a3 x39_6 t268 t269 t270 = some (r1, r2, r3, r4)) ∧ Aside0 (kq ≤ k) ∧ Aside0 (Kd.R k45 45 wc w.heap.size (fun _ => True) (.slice Ao17 t270.length co17) t270) ∧ Aside0 (wc.heap[gb266]? = some (.cells #[.int .i64 a0_0, .int .i64 a0_1, (.slice A0_2 l0_2.length c0_2)] 29 (0, 0))) ∧ Aside0 (wc.heap[gb267]? = some (.cells #[.int .i64 0, .int .i64 0, (.slice none 0 0)] 29 (0, 0))) ∧ Aside0 (wc.heap[gb273]? = some (.cells #[.int .i64 t268, .int .i64 t269, (.slice Ao17 t270.length co17)] 29 (0, 0))) ∧ Aside0 (Below w.heap.size w wc))
  case first =>
    have H := HC7.out
    clear HC7
    by_cases c20 : t274 = 0
    rotate_left
    · rw [if_neg c20] at H
      have c20b0 : (t274 == 0) = false := beq_eq_false_iff_ne.mpr c20
      have c20b1 : (t274 != 0) = true := bne_iff_ne.mpr c20
      (first | rw [c20b0] | (simp only [i64_w, i32_w]; rw [c20b0]) | skip)
      have H' := Aside0.mk H
      clear H
      go_wp2
      repeat (go_quiet (fail); try go_wp2)
      go_meet
      case rel => exact ⟨_, (true), u10_37, H', ⟨by first | omega | exact Nat.le_refl _⟩, ⟨u10_36⟩, ⟨u10_1⟩, ⟨u10_2⟩, ⟨u10_5⟩, ⟨u10_3⟩⟩
    rw [if_pos c20] at H
    have c20b0 : (t274 == 0) = true := beq_iff_eq.mpr c20
    have c20b1 : (t274 != 0) = false := bne_eq_false_iff_eq.mpr c20
    clear c20
    (first | rw [c20b0] | (simp only [i64_w, i32_w]; rw [c20b0]) | skip)
    by_cases c21 : (a3.size : Int) > 40
    · rw [if_pos c21] at H
      have c21b0 : decide (40 < (a3.size : Int)) = true := decide_eq_true c21
      have c21b1 : decide (40 < a3.size) = true := decide_eq_true (by omega)
      clear c21
      have H' := Aside0.mk H
      clear H
      go_wp2
      repeat (go_quiet (fail); try go_wp2)
      go_meet
      case rel => exact ⟨_, (true), u10_37, H', ⟨by first | omega | exact Nat.le_refl _⟩, ⟨u10_36⟩, ⟨u10_1⟩, ⟨u10_2⟩, ⟨u10_5⟩, ⟨u10_3⟩⟩
    rw [if_neg c21] at H
    have c21b0 : decide (40 < (a3.size : Int)) = false := decide_eq_false c21
    have c21b1 : decide (40 < a3.size) = false := decide_eq_false (by omega)
    clear c21
    have H' := Aside0.mk H
    clear H
    have hnb22 := NB266_267.out
    have hnc22 := NB267_266.out
    have hnb23 := NB266_273.out
    have hnc23 := NB273_266.out
    have hcz24_0 : w19.cell? ⟨gb266, 0, none⟩ = some (.int .i64 a0_0) := (blk_cell BK266.out 0).trans rfl
    have hcz24_1 : w19.cell? ⟨gb266, 1, none⟩ = some (.int .i64 a0_1) := (blk_cell BK266.out 1).trans rfl
    have hcz24_2 : w19.cell? ⟨gb266, 2, none⟩ = some (.slice A0_2 l0_2.length c0_2) := (blk_cell BK266.out 2).trans rfl
    have hfz24_0 := blk_frozen BK266.out 0
    have hfz24_1 := blk_frozen BK266.out 1
    have hfz24_2 := blk_frozen BK266.out 2
    go_wp2
    repeat (go_quiet (fail); try go_wp2)
    go_meet
    case rel => exact ⟨_, ((a0_1 == 1000000)), u10_37, H', ⟨by first | omega | exact Nat.le_refl _⟩, ⟨u10_36⟩, ⟨u10_1⟩, ⟨u10_2⟩, ⟨u10_5⟩, ⟨u10_3⟩⟩
  clear HC7
  try clear c1
  try clear c2
  try clear p2
  try clear c3
  try clear c10
  try clear c14
  try clear c15
  try clear c20
  try clear c20b0
  try clear c20b1
  try clear c21
  try clear c21b0
  try clear c21b1
  try clear c22
  try clear c23
  try clear hcz11_0
  try clear hcz11_1
  try clear hcz11_2
  try clear hcz16_0
  try clear hcz16_1
  try clear hcz16_2
  try clear hcz18_0
  try clear hcz18_1
  try clear hcz18_2
  try clear hcz24_0
  try clear hcz24_1
  try clear hcz24_2
  try clear hfz11_0
  try clear hfz11_1
  try clear hfz11_2
  try clear hfz16_0
  try clear hfz16_1
  try clear hfz16_2
  try clear hfz18_0
  try clear hfz18_1
  try clear hfz18_2
  try clear hfz24_0
  try clear hfz24_1
  try clear hfz24_2
  obtain ⟨kq, x39_6, rfl, HA, HJ6, HO_274002, BK266, BK267, BK273, HB⟩ := hcut
  cases kq with
  | zero => exact absurd HA.out (by simp [impl_keep.j0])
  | succ kj6 =>
    have H := HA.out
    clear HA
    simp only [impl_keep.j0] at H
    by_cases c25 : x39_6 = true
    · subst c25
      rw [if_pos rfl] at H
      simp only [Option.some.injEq, Prod.mk.injEq] at H
      obtain ⟨rfl, rfl, rfl, rfl⟩ := H
      have hnb26 := NB273_266.out
      have hnc26 := NB266_273.out
      have hnb27 := NB273_267.out
      have hnc27 := NB267_273.out
      have hcz28_0 : wc.cell? ⟨gb273, 0, none⟩ = some (.int .i64 t268) := (blk_cell BK273.out 0).trans rfl
      have hcz28_1 : wc.cell? ⟨gb273, 1, none⟩ = some (.int .i64 t269) := (blk_cell BK273.out 1).trans rfl
      have hcz28_2 : wc.cell? ⟨gb273, 2, none⟩ = some (.slice Ao17 t270.length co17) := (blk_cell BK273.out 2).trans rfl
      have hfz28_0 := blk_frozen BK273.out 0
      have hfz28_1 := blk_frozen BK273.out 1
      have hfz28_2 := blk_frozen BK273.out 2
      have hnb29 := NB267_266.out
      have hnc29 := NB266_267.out
      have hcz30_0 : wc.cell? ⟨gb267, 0, none⟩ = some (.int .i64 0) := (blk_cell BK267.out 0).trans rfl
      have hcz30_1 : wc.cell? ⟨gb267, 1, none⟩ = some (.int .i64 0) := (blk_cell BK267.out 1).trans rfl
      have hcz30_2 : wc.cell? ⟨gb267, 2, none⟩ = some (.slice none 0 0) := (blk_cell BK267.out 2).trans rfl
      have hfz30_0 := blk_frozen BK267.out 0
      have hfz30_1 := blk_frozen BK267.out 1
      have hfz30_2 := blk_frozen BK267.out 2
      go_wp2
      repeat (go_quiet (fail); try go_wp2)
      refine bodyPost_ret (results_ct rfl _ _ gb267 29 #[.int .i64 t268, .int .i64 t269, .slice Ao17 t270.length co17] (0, 0) _ rfl (by (with_reducible repeat (first | refine blk_drewN ?_ _ | refine blk_drew ?_ | refine blk_alloc ?_ _)); refine blk_put (cs := #[.int .i64 t268, .int .i64 t269, .slice none 0 0]) ?_ 2 _ rfl; (with_reducible repeat (first | refine blk_drewN ?_ _ | refine blk_drew ?_ | refine blk_alloc ?_ _)); refine blk_put (cs := #[.int .i64 t268, .int .i64 0, .slice none 0 0]) ?_ 1 _ rfl; (with_reducible repeat (first | refine blk_drewN ?_ _ | refine blk_drew ?_ | refine blk_alloc ?_ _)); refine blk_put (cs := #[.int .i64 0, .int .i64 0, .slice none 0 0]) ?_ 0 _ rfl; (with_reducible repeat (first | refine blk_drewN ?_ _ | refine blk_drew ?_ | refine blk_alloc ?_ _)); exact BK267.out) Try.underlying29 rfl (by kernel_rfl)) rfl ?_
      exact ⟨_, by first | rfl | (simp [errW_none, errW_some] <;> rfl) | (simp [*, errW_none, errW_some] <;> rfl), (by (with_reducible repeat (first | apply Kd.R_alloc | apply Kd.R_drewN | apply Kd.R_drew)); exact Kd.R_mono (Kd.R_far (p := ⟨gb267, 2, none⟩) (Kd.R_far (p := ⟨gb267, 1, none⟩) (Kd.R_far (p := ⟨gb267, 0, none⟩) (Kd.R_types HO_274002.out BK267.out (by decide)) (fun _ hk => hk.2) (.int .i64 t268)) (fun _ hk => hk.2) (.int .i64 t269)) (fun _ hk => hk.2) (.slice Ao17 t270.length co17)) (fun _ hk => trivial)), u10_3⟩
    replace c25 := Bool.eq_false_iff.mpr c25
    subst c25
    rw [if_neg (show ¬ (false = true) by decide)] at H
    replace H := Option.bind_eq_some_iff.mp H
    obtain ⟨t277, A310, H⟩ := H
    have A31 := Aside0.mk A310
    clear A310
    have H9 := Aside0.mk H
    clear H
    have hnb32 := NB273_266.out
    have hnc32 := NB266_273.out
    have hnb33 := NB273_267.out
    have hnc33 := NB267_273.out
    have hcz34_0 : wc.cell? ⟨gb273, 0, none⟩ = some (.int .i64 t268) := (blk_cell BK273.out 0).trans rfl
    have hcz34_1 : wc.cell? ⟨gb273, 1, none⟩ = some (.int .i64 t269) := (blk_cell BK273.out 1).trans rfl
    have hcz34_2 : wc.cell? ⟨gb273, 2, none⟩ = some (.slice Ao17 t270.length co17) := (blk_cell BK273.out 2).trans rfl
    have hfz34_0 := blk_frozen BK273.out 0
    have hfz34_1 := blk_frozen BK273.out 1
    have hfz34_2 := blk_frozen BK273.out 2
    go_upto_if 55 with (first | ((with_reducible refine gate_dst (N := 13) rfl ?_); (try (refine gate_guard (by rfl) ?_; dsimp only)); refine box_event ?hg (N := 13) ?hd (cs := #[.int .i64 0, .int .i64 0, .int .i64 0, .string (⟨#[]⟩ : ByteArray)]) (t := 45) ?hr ?_; (case hd => rfl); (case hg => rfl); (case hr => first | (go_simp; done) | (go_simp; rfl)); intro gb276 hg w35 hbox hb; have n0_ := Aside0.mk (Kd.R_below (Kd.R_elderB u10_35 gb276 (Nat.le_of_eq hg.symm)) hb); have n1_ := Aside0.mk (blk_below (g := gb266) (o := .cells #[.int .i64 a0_0, .int .i64 a0_1, .slice A0_2 l0_2.length c0_2] 29 (0, 0)) u10_9 hb); have n2_ := Aside0.mk (blk_below (g := gb267) (o := .cells #[.int .i64 0, .int .i64 0, .slice none 0 0] 29 (0, 0)) u10_10 hb); have n3_ := Aside0.mk (blk_below (g := gb273) (o := .cells #[.int .i64 t268, .int .i64 (wrap64 (t269 + 1)), .slice Ao17 t270.length co17] 29 (0, 0)) u10_7 hb); have n4_ := Aside0.mk (below_step u10_3 hb); have n5_ := Aside0.mk (hbox); have n6_ := Aside0.mk ((by rw [hg]; exact (below_size u10_3) : w.heap.size ≤ gb276)); have n7_ := Aside0.mk ((by rw [hg]; exact (below_size u10_3) : w.heap.size ≤ gb276)); have n8_ := Aside0.mk ((by rw [hg]; exact Nat.ne_of_lt (blk_lt (g := gb266) (o := .cells #[.int .i64 a0_0, .int .i64 a0_1, .slice A0_2 l0_2.length c0_2] 29 (0, 0)) u10_9) : gb266 ≠ gb276)); have n9_ := Aside0.mk ((by rw [hg]; exact Nat.ne_of_gt (blk_lt (g := gb266) (o := .cells #[.int .i64 a0_0, .int .i64 a0_1, .slice A0_2 l0_2.length c0_2] 29 (0, 0)) u10_9) : gb276 ≠ gb266)); have n10_ := Aside0.mk ((by rw [hg]; exact Nat.ne_of_lt (blk_lt (g := gb267) (o := .cells #[.int .i64 0, .int .i64 0, .slice none 0 0] 29 (0, 0)) u10_10) : gb267 ≠ gb276)); have n11_ := Aside0.mk ((by rw [hg]; exact Nat.ne_of_gt (blk_lt (g := gb267) (o := .cells #[.int .i64 0, .int .i64 0, .slice none 0 0] 29 (0, 0)) u10_10) : gb276 ≠ gb267)); have n12_ := Aside0.mk ((by rw [hg]; exact Nat.ne_of_lt (blk_lt (g := gb273) (o := .cells #[.int .i64 t268, .int .i64 (wrap64 (t269 + 1)), .slice Ao17 t270.length co17] 29 (0, 0)) u10_7) : gb273 ≠ gb276)); have n13_ := Aside0.mk ((by rw [hg]; exact Nat.ne_of_gt (blk_lt (g := gb273) (o := .cells #[.int .i64 t268, .int .i64 (wrap64 (t269 + 1)), .slice Ao17 t270.length co17] 29 (0, 0)) u10_7) : gb276 ≠ gb273)); clear HO_274002; clear BK266; clear BK267; clear BK273; clear HB; have HO_274002 := n0_; have BK266 := n1_; have BK267 := n2_; have BK273 := n3_; have HB := n4_; have BK276 := n5_; have GW276 := n6_; have GE276 := n7_; have NB266_276 := n8_; have NB276_266 := n9_; have NB267_276 := n10_; have NB276_267 := n11_; have NB273_276 := n12_; have NB276_273 := n13_; clear n0_ n1_ n2_ n3_ n4_ n5_ n6_ n7_ n8_ n9_ n10_ n11_ n12_ n13_; clear hb hbox hg; have hnb36 := NB276_266.out; have hnc36 := NB266_276.out; have hnb37 := NB276_267.out; have hnc37 := NB267_276.out; have hnb38 := NB276_273.out; have hnc38 := NB273_276.out; have hcz39_0 : w35.cell? ⟨gb276, 0, none⟩ = some (.int .i64 0) := (blk_cell BK276.out 0).trans rfl; have hcz39_1 : w35.cell? ⟨gb276, 1, none⟩ = some (.int .i64 0) := (blk_cell BK276.out 1).trans rfl; have hcz39_2 : w35.cell? ⟨gb276, 2, none⟩ = some (.int .i64 0) := (blk_cell BK276.out 2).trans rfl; have hcz39_3 : w35.cell? ⟨gb276, 3, none⟩ = some (.string (⟨#[]⟩ : ByteArray)) := (blk_cell BK276.out 3).trans rfl; have hfz39_0 := blk_frozen BK276.out 0; have hfz39_1 := blk_frozen BK276.out 1; have hfz39_2 := blk_frozen BK276.out 2; have hfz39_3 := blk_frozen BK276.out 3; have hcz40_0 : w35.cell? ⟨gb273, 0, none⟩ = some (.int .i64 t268) := (blk_cell BK273.out 0).trans rfl; have hcz40_1 : w35.cell? ⟨gb273, 1, none⟩ = some (.int .i64 (wrap64 (t269 + 1))) := (blk_cell BK273.out 1).trans rfl; have hcz40_2 : w35.cell? ⟨gb273, 2, none⟩ = some (.slice Ao17 t270.length co17) := (blk_cell BK273.out 2).trans rfl; have hfz40_0 := blk_frozen BK273.out 0; have hfz40_1 := blk_frozen BK273.out 1; have hfz40_2 := blk_frozen BK273.out 2) | (go_at_call 30; (with_reducible refine (impl_sessionOf.calls t268 (wrap64 (t269 + 1)) _ _ t270 a1 t277 _ ?side1 ?side2 A31.out).mono ?_); (case side1 => exact u10_40); (case side2 => exact (Kd.R_reads' HO_274002.out).2.1); rintro e w41 ⟨rfl, hb⟩; have n0_ := Aside0.mk (Kd.R_below u10_8 hb); have n1_ := Aside0.mk (blk_below (g := gb266) (o := .cells #[.int .i64 a0_0, .int .i64 a0_1, .slice A0_2 l0_2.length c0_2] 29 (0, 0)) u10_15 hb); have n2_ := Aside0.mk (blk_below (g := gb267) (o := .cells #[.int .i64 0, .int .i64 0, .slice none 0 0] 29 (0, 0)) u10_16 hb); have n3_ := Aside0.mk (blk_below (g := gb273) (o := .cells #[.int .i64 t268, .int .i64 (wrap64 (t269 + 1)), .slice Ao17 t270.length co17] 29 (0, 0)) u10_17 hb); have n4_ := Aside0.mk (blk_below (g := gb276) (o := .cells #[.int .i64 a1, .int .i64 a2, .int .i64 (wrap64 (t269 + 1)), .string a3] 45 (0, 0)) u10_12 hb); have n5_ := Aside0.mk (below_step u10_0 hb); clear HO_274002; clear BK266; clear BK267; clear BK273; clear BK276; clear HB; have HO_274002 := n0_; have BK266 := n1_; have BK267 := n2_; have BK273 := n3_; have BK276 := n4_; have HB := n5_; clear n0_ n1_ n2_ n3_ n4_ n5_; (try clear hb); (try clear hb2); (try clear hk); (try clear hi)))
    repeat (go_quiet (first | ((with_reducible refine gate_dst (N := 13) rfl ?_); (try (refine gate_guard (by rfl) ?_; dsimp only)); refine box_event ?hg (N := 13) ?hd (cs := #[.int .i64 0, .int .i64 0, .int .i64 0, .string (⟨#[]⟩ : ByteArray)]) (t := 45) ?hr ?_; (case hd => rfl); (case hg => rfl); (case hr => first | (go_simp; done) | (go_simp; rfl)); intro gb276 hg w35 hbox hb; have n0_ := Aside0.mk (Kd.R_below (Kd.R_elderB u10_35 gb276 (Nat.le_of_eq hg.symm)) hb); have n1_ := Aside0.mk (blk_below (g := gb266) (o := .cells #[.int .i64 a0_0, .int .i64 a0_1, .slice A0_2 l0_2.length c0_2] 29 (0, 0)) u10_9 hb); have n2_ := Aside0.mk (blk_below (g := gb267) (o := .cells #[.int .i64 0, .int .i64 0, .slice none 0 0] 29 (0, 0)) u10_10 hb); have n3_ := Aside0.mk (blk_below (g := gb273) (o := .cells #[.int .i64 t268, .int .i64 (wrap64 (t269 + 1)), .slice Ao17 t270.length co17] 29 (0, 0)) u10_7 hb); have n4_ := Aside0.mk (below_step u10_3 hb); have n5_ := Aside0.mk (hbox); have n6_ := Aside0.mk ((by rw [hg]; exact (below_size u10_3) : w.heap.size ≤ gb276)); have n7_ := Aside0.mk ((by rw [hg]; exact (below_size u10_3) : w.heap.size ≤ gb276)); have n8_ := Aside0.mk ((by rw [hg]; exact Nat.ne_of_lt (blk_lt (g := gb266) (o := .cells #[.int .i64 a0_0, .int .i64 a0_1, .slice A0_2 l0_2.length c0_2] 29 (0, 0)) u10_9) : gb266 ≠ gb276)); have n9_ := Aside0.mk ((by rw [hg]; exact Nat.ne_of_gt (blk_lt (g := gb266) (o := .cells #[.int .i64 a0_0, .int .i64 a0_1, .slice A0_2 l0_2.length c0_2] 29 (0, 0)) u10_9) : gb276 ≠ gb266)); have n10_ := Aside0.mk ((by rw [hg]; exact Nat.ne_of_lt (blk_lt (g := gb267) (o := .cells #[.int .i64 0, .int .i64 0, .slice none 0 0] 29 (0, 0)) u10_10) : gb267 ≠ gb276)); have n11_ := Aside0.mk ((by rw [hg]; exact Nat.ne_of_gt (blk_lt (g := gb267) (o := .cells #[.int .i64 0, .int .i64 0, .slice none 0 0] 29 (0, 0)) u10_10) : gb276 ≠ gb267)); have n12_ := Aside0.mk ((by rw [hg]; exact Nat.ne_of_lt (blk_lt (g := gb273) (o := .cells #[.int .i64 t268, .int .i64 (wrap64 (t269 + 1)), .slice Ao17 t270.length co17] 29 (0, 0)) u10_7) : gb273 ≠ gb276)); have n13_ := Aside0.mk ((by rw [hg]; exact Nat.ne_of_gt (blk_lt (g := gb273) (o := .cells #[.int .i64 t268, .int .i64 (wrap64 (t269 + 1)), .slice Ao17 t270.length co17] 29 (0, 0)) u10_7) : gb276 ≠ gb273)); clear HO_274002; clear BK266; clear BK267; clear BK273; clear HB; have HO_274002 := n0_; have BK266 := n1_; have BK267 := n2_; have BK273 := n3_; have HB := n4_; have BK276 := n5_; have GW276 := n6_; have GE276 := n7_; have NB266_276 := n8_; have NB276_266 := n9_; have NB267_276 := n10_; have NB276_267 := n11_; have NB273_276 := n12_; have NB276_273 := n13_; clear n0_ n1_ n2_ n3_ n4_ n5_ n6_ n7_ n8_ n9_ n10_ n11_ n12_ n13_; clear hb hbox hg; have hnb36 := NB276_266.out; have hnc36 := NB266_276.out; have hnb37 := NB276_267.out; have hnc37 := NB267_276.out; have hnb38 := NB276_273.out; have hnc38 := NB273_276.out; have hcz39_0 : w35.cell? ⟨gb276, 0, none⟩ = some (.int .i64 0) := (blk_cell BK276.out 0).trans rfl; have hcz39_1 : w35.cell? ⟨gb276, 1, none⟩ = some (.int .i64 0) := (blk_cell BK276.out 1).trans rfl; have hcz39_2 : w35.cell? ⟨gb276, 2, none⟩ = some (.int .i64 0) := (blk_cell BK276.out 2).trans rfl; have hcz39_3 : w35.cell? ⟨gb276, 3, none⟩ = some (.string (⟨#[]⟩ : ByteArray)) := (blk_cell BK276.out 3).trans rfl; have hfz39_0 := blk_frozen BK276.out 0; have hfz39_1 := blk_frozen BK276.out 1; have hfz39_2 := blk_frozen BK276.out 2; have hfz39_3 := blk_frozen BK276.out 3; have hcz40_0 : w35.cell? ⟨gb273, 0, none⟩ = some (.int .i64 t268) := (blk_cell BK273.out 0).trans rfl; have hcz40_1 : w35.cell? ⟨gb273, 1, none⟩ = some (.int .i64 (wrap64 (t269 + 1))) := (blk_cell BK273.out 1).trans rfl; have hcz40_2 : w35.cell? ⟨gb273, 2, none⟩ = some (.slice Ao17 t270.length co17) := (blk_cell BK273.out 2).trans rfl; have hfz40_0 := blk_frozen BK273.out 0; have hfz40_1 := blk_frozen BK273.out 1; have hfz40_2 := blk_frozen BK273.out 2) | (go_at_call 30; (with_reducible refine (impl_sessionOf.calls t268 (wrap64 (t269 + 1)) _ _ t270 a1 t277 _ ?side1 ?side2 A31.out).mono ?_); (case side1 => exact u10_40); (case side2 => exact (Kd.R_reads' HO_274002.out).2.1); rintro e w41 ⟨rfl, hb⟩; have n0_ := Aside0.mk (Kd.R_below u10_8 hb); have n1_ := Aside0.mk (blk_below (g := gb266) (o := .cells #[.int .i64 a0_0, .int .i64 a0_1, .slice A0_2 l0_2.length c0_2] 29 (0, 0)) u10_15 hb); have n2_ := Aside0.mk (blk_below (g := gb267) (o := .cells #[.int .i64 0, .int .i64 0, .slice none 0 0] 29 (0, 0)) u10_16 hb); have n3_ := Aside0.mk (blk_below (g := gb273) (o := .cells #[.int .i64 t268, .int .i64 (wrap64 (t269 + 1)), .slice Ao17 t270.length co17] 29 (0, 0)) u10_17 hb); have n4_ := Aside0.mk (blk_below (g := gb276) (o := .cells #[.int .i64 a1, .int .i64 a2, .int .i64 (wrap64 (t269 + 1)), .string a3] 45 (0, 0)) u10_12 hb); have n5_ := Aside0.mk (below_step u10_0 hb); clear HO_274002; clear BK266; clear BK267; clear BK273; clear BK276; clear HB; have HO_274002 := n0_; have BK266 := n1_; have BK267 := n2_; have BK273 := n3_; have BK276 := n4_; have HB := n5_; clear n0_ n1_ n2_ n3_ n4_ n5_; (try clear hb); (try clear hb2); (try clear hk); (try clear hi))); go_upto_if 55 with (first | ((with_reducible refine gate_dst (N := 13) rfl ?_); (try (refine gate_guard (by rfl) ?_; dsimp only)); refine box_event ?hg (N := 13) ?hd (cs := #[.int .i64 0, .int .i64 0, .int .i64 0, .string (⟨#[]⟩ : ByteArray)]) (t := 45) ?hr ?_; (case hd => rfl); (case hg => rfl); (case hr => first | (go_simp; done) | (go_simp; rfl)); intro gb276 hg w35 hbox hb; have n0_ := Aside0.mk (Kd.R_below (Kd.R_elderB u10_35 gb276 (Nat.le_of_eq hg.symm)) hb); have n1_ := Aside0.mk (blk_below (g := gb266) (o := .cells #[.int .i64 a0_0, .int .i64 a0_1, .slice A0_2 l0_2.length c0_2] 29 (0, 0)) u10_9 hb); have n2_ := Aside0.mk (blk_below (g := gb267) (o := .cells #[.int .i64 0, .int .i64 0, .slice none 0 0] 29 (0, 0)) u10_10 hb); have n3_ := Aside0.mk (blk_below (g := gb273) (o := .cells #[.int .i64 t268, .int .i64 (wrap64 (t269 + 1)), .slice Ao17 t270.length co17] 29 (0, 0)) u10_7 hb); have n4_ := Aside0.mk (below_step u10_3 hb); have n5_ := Aside0.mk (hbox); have n6_ := Aside0.mk ((by rw [hg]; exact (below_size u10_3) : w.heap.size ≤ gb276)); have n7_ := Aside0.mk ((by rw [hg]; exact (below_size u10_3) : w.heap.size ≤ gb276)); have n8_ := Aside0.mk ((by rw [hg]; exact Nat.ne_of_lt (blk_lt (g := gb266) (o := .cells #[.int .i64 a0_0, .int .i64 a0_1, .slice A0_2 l0_2.length c0_2] 29 (0, 0)) u10_9) : gb266 ≠ gb276)); have n9_ := Aside0.mk ((by rw [hg]; exact Nat.ne_of_gt (blk_lt (g := gb266) (o := .cells #[.int .i64 a0_0, .int .i64 a0_1, .slice A0_2 l0_2.length c0_2] 29 (0, 0)) u10_9) : gb276 ≠ gb266)); have n10_ := Aside0.mk ((by rw [hg]; exact Nat.ne_of_lt (blk_lt (g := gb267) (o := .cells #[.int .i64 0, .int .i64 0, .slice none 0 0] 29 (0, 0)) u10_10) : gb267 ≠ gb276)); have n11_ := Aside0.mk ((by rw [hg]; exact Nat.ne_of_gt (blk_lt (g := gb267) (o := .cells #[.int .i64 0, .int .i64 0, .slice none 0 0] 29 (0, 0)) u10_10) : gb276 ≠ gb267)); have n12_ := Aside0.mk ((by rw [hg]; exact Nat.ne_of_lt (blk_lt (g := gb273) (o := .cells #[.int .i64 t268, .int .i64 (wrap64 (t269 + 1)), .slice Ao17 t270.length co17] 29 (0, 0)) u10_7) : gb273 ≠ gb276)); have n13_ := Aside0.mk ((by rw [hg]; exact Nat.ne_of_gt (blk_lt (g := gb273) (o := .cells #[.int .i64 t268, .int .i64 (wrap64 (t269 + 1)), .slice Ao17 t270.length co17] 29 (0, 0)) u10_7) : gb276 ≠ gb273)); clear HO_274002; clear BK266; clear BK267; clear BK273; clear HB; have HO_274002 := n0_; have BK266 := n1_; have BK267 := n2_; have BK273 := n3_; have HB := n4_; have BK276 := n5_; have GW276 := n6_; have GE276 := n7_; have NB266_276 := n8_; have NB276_266 := n9_; have NB267_276 := n10_; have NB276_267 := n11_; have NB273_276 := n12_; have NB276_273 := n13_; clear n0_ n1_ n2_ n3_ n4_ n5_ n6_ n7_ n8_ n9_ n10_ n11_ n12_ n13_; clear hb hbox hg; have hnb36 := NB276_266.out; have hnc36 := NB266_276.out; have hnb37 := NB276_267.out; have hnc37 := NB267_276.out; have hnb38 := NB276_273.out; have hnc38 := NB273_276.out; have hcz39_0 : w35.cell? ⟨gb276, 0, none⟩ = some (.int .i64 0) := (blk_cell BK276.out 0).trans rfl; have hcz39_1 : w35.cell? ⟨gb276, 1, none⟩ = some (.int .i64 0) := (blk_cell BK276.out 1).trans rfl; have hcz39_2 : w35.cell? ⟨gb276, 2, none⟩ = some (.int .i64 0) := (blk_cell BK276.out 2).trans rfl; have hcz39_3 : w35.cell? ⟨gb276, 3, none⟩ = some (.string (⟨#[]⟩ : ByteArray)) := (blk_cell BK276.out 3).trans rfl; have hfz39_0 := blk_frozen BK276.out 0; have hfz39_1 := blk_frozen BK276.out 1; have hfz39_2 := blk_frozen BK276.out 2; have hfz39_3 := blk_frozen BK276.out 3; have hcz40_0 : w35.cell? ⟨gb273, 0, none⟩ = some (.int .i64 t268) := (blk_cell BK273.out 0).trans rfl; have hcz40_1 : w35.cell? ⟨gb273, 1, none⟩ = some (.int .i64 (wrap64 (t269 + 1))) := (blk_cell BK273.out 1).trans rfl; have hcz40_2 : w35.cell? ⟨gb273, 2, none⟩ = some (.slice Ao17 t270.length co17) := (blk_cell BK273.out 2).trans rfl; have hfz40_0 := blk_frozen BK273.out 0; have hfz40_1 := blk_frozen BK273.out 1; have hfz40_2 := blk_frozen BK273.out 2) | (go_at_call 30; (with_reducible refine (impl_sessionOf.calls t268 (wrap64 (t269 + 1)) _ _ t270 a1 t277 _ ?side1 ?side2 A31.out).mono ?_); (case side1 => exact u10_40); (case side2 => exact (Kd.R_reads' HO_274002.out).2.1); rintro e w41 ⟨rfl, hb⟩; have n0_ := Aside0.mk (Kd.R_below u10_8 hb); have n1_ := Aside0.mk (blk_below (g := gb266) (o := .cells #[.int .i64 a0_0, .int .i64 a0_1, .slice A0_2 l0_2.length c0_2] 29 (0, 0)) u10_15 hb); have n2_ := Aside0.mk (blk_below (g := gb267) (o := .cells #[.int .i64 0, .int .i64 0, .slice none 0 0] 29 (0, 0)) u10_16 hb); have n3_ := Aside0.mk (blk_below (g := gb273) (o := .cells #[.int .i64 t268, .int .i64 (wrap64 (t269 + 1)), .slice Ao17 t270.length co17] 29 (0, 0)) u10_17 hb); have n4_ := Aside0.mk (blk_below (g := gb276) (o := .cells #[.int .i64 a1, .int .i64 a2, .int .i64 (wrap64 (t269 + 1)), .string a3] 45 (0, 0)) u10_12 hb); have n5_ := Aside0.mk (below_step u10_0 hb); clear HO_274002; clear BK266; clear BK267; clear BK273; clear BK276; clear HB; have HO_274002 := n0_; have BK266 := n1_; have BK267 := n2_; have BK273 := n3_; have BK276 := n4_; have HB := n5_; clear n0_ n1_ n2_ n3_ n4_ n5_; (try clear hb); (try clear hb2); (try clear hk); (try clear hi))))
    have H := H9.out
    clear H9
    by_cases c42 : t277 ≥ 0
    · rw [if_pos c42] at H
      have c42b0 : decide (0 ≤ t277) = true := decide_eq_true c42
      clear c42
      (first | rw [c42b0] | (simp only [i64_w, i32_w]; rw [c42b0]) | skip)
      by_cases c43 : 0 ≤ t277
      rotate_left
      · rw [if_neg c43] at H
        exact absurd H (by simp)
      rw [if_pos c43] at H
      have c43b0 : decide (0 ≤ t277) = true := decide_eq_true c43
      clear c43
      by_cases c44 : t277 < (t270.length : Int)
      rotate_left
      · rw [if_neg c44] at H
        exact absurd H (by simp)
      rw [if_pos c44] at H
      have c44b0 : decide (t277 < (t270.length : Int)) = true := decide_eq_true c44
      clear c44
      obtain ⟨y278, hy278⟩ : ∃ y_ : List (S45), y_ = (t270.set (t277 : Int).toNat (⟨a1, a2, wrap64 (t269 + 1), a3⟩ : S45)) := ⟨_, rfl⟩
      replace H : (some (t268, wrap64 (t269 + 1), y278, true)) = some (r1, r2, r3, r4) := by first | (rw [hy278]; with_reducible exact H) | (have H2_ := (Option.bind_some _ _).symm.trans H; rw [hy278]; with_reducible exact H2_) | (have H2_ := (Option.bind_some _ _).symm.trans H; with_reducible exact H2_) | with_reducible exact H | (rw [hy278]; exact H) | exact H
      have Ny278 := Aside0.mk hy278
      clear hy278
      simp only [Option.some.injEq, Prod.mk.injEq] at H
      obtain ⟨rfl, rfl, rfl, rfl⟩ := H
      have hnb46 := NB273_266.out
      have hnc46 := NB266_273.out
      have hnb47 := NB273_267.out
      have hnc47 := NB267_273.out
      have hnb48 := NB273_276.out
      have hnc48 := NB276_273.out
      have hcz49_0 : w41.cell? ⟨gb273, 0, none⟩ = some (.int .i64 t268) := (blk_cell BK273.out 0).trans rfl
      have hcz49_1 : w41.cell? ⟨gb273, 1, none⟩ = some (.int .i64 (wrap64 (t269 + 1))) := (blk_cell BK273.out 1).trans rfl
      have hcz49_2 : w41.cell? ⟨gb273, 2, none⟩ = some (.slice Ao17 t270.length co17) := (blk_cell BK273.out 2).trans rfl
      have hfz49_0 := blk_frozen BK273.out 0
      have hfz49_1 := blk_frozen BK273.out 1
      have hfz49_2 := blk_frozen BK273.out 2
      have hnb50 := NB276_266.out
      have hnc50 := NB266_276.out
      have hnb51 := NB276_267.out
      have hnc51 := NB267_276.out
      have hcz52_0 : w41.cell? ⟨gb276, 0, none⟩ = some (.int .i64 a1) := (blk_cell BK276.out 0).trans rfl
      have hcz52_1 : w41.cell? ⟨gb276, 1, none⟩ = some (.int .i64 a2) := (blk_cell BK276.out 1).trans rfl
      have hcz52_2 : w41.cell? ⟨gb276, 2, none⟩ = some (.int .i64 (wrap64 (t269 + 1))) := (blk_cell BK276.out 2).trans rfl
      have hcz52_3 : w41.cell? ⟨gb276, 3, none⟩ = some (.string a3) := (blk_cell BK276.out 3).trans rfl
      have hfz52_0 := blk_frozen BK276.out 0
      have hfz52_1 := blk_frozen BK276.out 1
      have hfz52_2 := blk_frozen BK276.out 2
      have hfz52_3 := blk_frozen BK276.out 3
      have p45 : 0 ≤ (t277 : Int) := of_decide_eq_true u10_25
      have q45 : (t277 : Int) < ((t270.length : Int) : Int) := of_decide_eq_true u10_25
      obtain ⟨go45, co45, eo45, gb45, gl45, cl45, HG45⟩ := Kd.R_form HO_274002.out (by omega)
      (first | cases eo45 | (injection eo45 with ea_ en_ ec_; (first | subst ea_ | (injection ea_ with ea_; subst ea_)); subst ec_; clear en_))
      have GB45 := Aside0.mk gb45
      have GG45 := Aside0.mk HG45
      clear gb45 gl45 HG45
      obtain ⟨ce45, hcl45, hM45, hcc45, hfr45⟩ := Kd.R_elem HO_274002.out z45 (t277 : Int) p45 q45
      obtain rfl := k45_openM hM45
      have hx45_0 : w41.cell? ⟨go45, (t277 : Int).toNat * 4, none⟩ = some (.int .i64 ((rd_T45 t270 t277).f0)) := hcc45 0 _ rfl
      have hx45_1 : w41.cell? ⟨go45, (t277 : Int).toNat * 4 + 1, none⟩ = some (.int .i64 ((rd_T45 t270 t277).f1)) := hcc45 1 _ rfl
      have hx45_2 : w41.cell? ⟨go45, (t277 : Int).toNat * 4 + 2, none⟩ = some (.int .i64 ((rd_T45 t270 t277).f2)) := hcc45 2 _ rfl
      have hx45_3 : w41.cell? ⟨go45, (t277 : Int).toNat * 4 + 3, none⟩ = some (.string ((rd_T45 t270 t277).f3)) := hcc45 3 _ rfl
      have hf45_0 : w41.frozen? ⟨go45, (t277 : Int).toNat * 4, none⟩ = false := hfr45 0
      have hf45_1 : w41.frozen? ⟨go45, (t277 : Int).toNat * 4 + 1, none⟩ = false := hfr45 1
      have hf45_2 : w41.frozen? ⟨go45, (t277 : Int).toNat * 4 + 2, none⟩ = false := hfr45 2
      have hf45_3 : w41.frozen? ⟨go45, (t277 : Int).toNat * 4 + 3, none⟩ = false := hfr45 3
      clear hcl45 hcc45 hfr45 hM45
      replace p45 := eq_true p45
      replace q45 := eq_true q45
      have n_ := Aside0.mk (Kd.R_mono (ok' := (fun k_ => k_ ≠ gb276)) HO_274002.out (fun k_ hk => hk.2))
      clear HO_274002
      have HO_274002 := n_
      clear n_
      have HX53 := Aside0.mk (show Kd.R k45 45 w41 w.heap.size (fun k_ => k_ ≠ gb276) (.slice (some ⟨go45, 0, none⟩) t270.length co17) t270 from u10_13)
      obtain ⟨ce53, hcl53, hM53, hcc53, hfr53⟩ := Kd.R_elem HX53.out z45 (t277 : Int) (of_decide_eq_true u10_25) (by have h_ : (t277 : Int) < ((t270.length : Int) : Int) := of_decide_eq_true u10_25; first | exact h_ | (have e_ := (Kd.R_reads' HO_274002.out).1; omega) | simpa using h_)
      obtain rfl := k45_openM hM53
      have HP53 := Kd.R_seg HX53.out (t277 : Int) (of_decide_eq_true u10_25) (by have h_ : (t277 : Int) < ((t270.length : Int) : Int) := of_decide_eq_true u10_25; first | exact h_ | (have e_ := (Kd.R_reads' HO_274002.out).1; omega) | simpa using h_) (seg := [.int .i64 a1, .int .i64 a2, .int .i64 (wrap64 (t269 + 1)), .string a3]) (j := 0) hcl53 hcc53 (show 4 ≤ 4 from by decide) (x' := (⟨a1, a2, wrap64 (t269 + 1), a3⟩ : S45)) (k45_mkM _ _ _ (⟨a1, a2, wrap64 (t269 + 1), a3⟩ : S45) ) (fun _ hk => hk)
      have hx53_0 := hcc53 0 _ rfl
      (try simp only [show (k45).sz = 4 from rfl, Nat.mul_one, Nat.add_zero] at hx53_0)
      have hf53_0 := hfr53 0
      (try simp only [show (k45).sz = 4 from rfl, Nat.mul_one, Nat.add_zero] at hf53_0)
      have hx53_1 := hcc53 1 _ rfl
      (try simp only [show (k45).sz = 4 from rfl, Nat.mul_one, Nat.add_zero] at hx53_1)
      have hf53_1 := hfr53 1
      (try simp only [show (k45).sz = 4 from rfl, Nat.mul_one, Nat.add_zero] at hf53_1)
      have hx53_2 := hcc53 2 _ rfl
      (try simp only [show (k45).sz = 4 from rfl, Nat.mul_one, Nat.add_zero] at hx53_2)
      have hf53_2 := hfr53 2
      (try simp only [show (k45).sz = 4 from rfl, Nat.mul_one, Nat.add_zero] at hf53_2)
      have hx53_3 := hcc53 3 _ rfl
      (try simp only [show (k45).sz = 4 from rfl, Nat.mul_one, Nat.add_zero] at hx53_3)
      have hf53_3 := hfr53 3
      (try simp only [show (k45).sz = 4 from rfl, Nat.mul_one, Nat.add_zero] at hf53_3)
      clear hcl53 hcc53 hfr53 hM53
      go_wp2_with (first | (first | ((with_reducible refine gate_store (t := 45) (p := 60) rfl ?_); (try (rw [drewN_self w41]; generalize hq_ : World.drewN w41 _ = w41; have n0_ := Aside0.mk (Kd.R_at hq_ HO_274002.out); have n1_ := Aside0.mk (blk_at hq_ BK266.out); have n2_ := Aside0.mk (blk_at hq_ BK267.out); have n3_ := Aside0.mk (blk_at hq_ BK273.out); have n4_ := Aside0.mk (blk_at hq_ BK276.out); have n5_ := Aside0.mk (below_at hq_ HB.out); clear hq_ HO_274002 BK266 BK267 BK273 BK276 HB; have HO_274002 := n0_; have BK266 := n1_; have BK267 := n2_; have BK273 := n3_; have BK276 := n4_; have HB := n5_; clear n0_ n1_ n2_ n3_ n4_ n5_; (try (have n_ := Aside0.mk (Kd.R_mono (ok' := (fun k_ => k_ ≠ gb276)) HO_274002.out (fun k_ hk => hk.2)); clear HO_274002; have HO_274002 := n_; clear n_)); (try (have HX53 := Aside0.mk (show Kd.R k45 45 w41 w.heap.size (fun k_ => k_ ≠ gb276) (.slice (some ⟨go45, 0, none⟩) t270.length co17) t270 from u10_13))); (try (obtain ⟨ce53, hcl53, hM53, hcc53, hfr53⟩ := Kd.R_elem HX53.out z45 (t277 : Int) (of_decide_eq_true u10_25) (by have h_ : (t277 : Int) < ((t270.length : Int) : Int) := of_decide_eq_true u10_25; first | exact h_ | (have e_ := (Kd.R_reads' HO_274002.out).1; omega) | simpa using h_))); (try (obtain rfl := k45_openM hM53)); (try (have HP53 := Kd.R_seg HX53.out (t277 : Int) (of_decide_eq_true u10_25) (by have h_ : (t277 : Int) < ((t270.length : Int) : Int) := of_decide_eq_true u10_25; first | exact h_ | (have e_ := (Kd.R_reads' HO_274002.out).1; omega) | simpa using h_) (seg := [.int .i64 a1, .int .i64 a2, .int .i64 (wrap64 (t269 + 1)), .string a3]) (j := 0) hcl53 hcc53 (show 4 ≤ 4 from by decide) (x' := (⟨a1, a2, wrap64 (t269 + 1), a3⟩ : S45)) (k45_mkM _ _ _ (⟨a1, a2, wrap64 (t269 + 1), a3⟩ : S45) ) (fun _ hk => hk))); (try (have hx53_0 := hcc53 0 _ rfl)); (try (try simp only [show (k45).sz = 4 from rfl, Nat.mul_one, Nat.add_zero] at hx53_0)); (try (have hf53_0 := hfr53 0)); (try (try simp only [show (k45).sz = 4 from rfl, Nat.mul_one, Nat.add_zero] at hf53_0)); (try (have hx53_1 := hcc53 1 _ rfl)); (try (try simp only [show (k45).sz = 4 from rfl, Nat.mul_one, Nat.add_zero] at hx53_1)); (try (have hf53_1 := hfr53 1)); (try (try simp only [show (k45).sz = 4 from rfl, Nat.mul_one, Nat.add_zero] at hf53_1)); (try (have hx53_2 := hcc53 2 _ rfl)); (try (try simp only [show (k45).sz = 4 from rfl, Nat.mul_one, Nat.add_zero] at hx53_2)); (try (have hf53_2 := hfr53 2)); (try (try simp only [show (k45).sz = 4 from rfl, Nat.mul_one, Nat.add_zero] at hf53_2)); (try (have hx53_3 := hcc53 3 _ rfl)); (try (try simp only [show (k45).sz = 4 from rfl, Nat.mul_one, Nat.add_zero] at hx53_3)); (try (have hf53_3 := hfr53 3)); (try (try simp only [show (k45).sz = 4 from rfl, Nat.mul_one, Nat.add_zero] at hf53_3)); (try (clear hcl53 hcc53 hfr53 hM53)))); refine store_event (t := 45) (p := 60) (v := ?vo_w54) (w1 := ((((w41.setCell ⟨go45, (t277 : Int).toNat * 4, none⟩ (.int .i64 a1)).setCell ⟨go45, (t277 : Int).toNat * 4 + 1, none⟩ (.int .i64 a2)).setCell ⟨go45, (t277 : Int).toNat * 4 + 2, none⟩ (.int .i64 (wrap64 (t269 + 1)))).setCell ⟨go45, (t277 : Int).toNat * 4 + 3, none⟩ (.string a3))) ?hg ?ho ?hn ?hr ?_; (case ho => rfl); (case hg => rfl); (case hn => rfl); (case hr => first | (go_simp; done) | (go_simp; rfl)); intro w54 hw; have hg : w41.grownBy w54 (some go45) := (by rw [hw]; exact HP53.2); have hp_ : Kd.R k45 45 w54 w.heap.size (fun k_ => k_ ≠ gb276) (.slice (some ⟨go45, 0, none⟩) t270.length co17) y278 := (by rw [hw, Ny278.out]; exact HP53.1); clear HP53; have n0_ := Aside0.mk (hp_); have n1_ := Aside0.mk (blk_grown (g := gb266) (o := .cells #[.int .i64 a0_0, .int .i64 a0_1, .slice A0_2 l0_2.length c0_2] 29 (0, 0)) u10_1 hg (Kd.R_ne HO_274002.out BK266.out (by decide))); have n2_ := Aside0.mk (blk_grown (g := gb267) (o := .cells #[.int .i64 0, .int .i64 0, .slice none 0 0] 29 (0, 0)) u10_2 hg (Kd.R_ne HO_274002.out BK267.out (by decide))); have n3_ := Aside0.mk (blk_grown (g := gb273) (o := .cells #[.int .i64 t268, .int .i64 (wrap64 (t269 + 1)), .slice (some ⟨go45, 0, none⟩) t270.length co17] 29 (0, 0)) u10_5 hg (Kd.R_ne HO_274002.out BK273.out (by decide))); have n4_ := Aside0.mk (blk_grown (g := gb276) (o := .cells #[.int .i64 a1, .int .i64 a2, .int .i64 (wrap64 (t269 + 1)), .string a3] 45 (0, 0)) u10_4 hg (Kd.R_away HO_274002.out (fun _ hk => hk))); have n5_ := Aside0.mk ((by rw [hw]; exact below_set (below_set (below_set (below_set (HB.out) GB45.out) GB45.out) GB45.out) GB45.out : Below w.heap.size w w54)); clear HO_274002; clear BK266; clear BK267; clear BK273; clear BK276; clear HB; have HO_274002 := n0_; have BK266 := n1_; have BK267 := n2_; have BK273 := n3_; have BK276 := n4_; have HB := n5_; clear n0_ n1_ n2_ n3_ n4_ n5_; clear hg hw hp_; have hcz55_0 : w54.cell? ⟨gb273, 0, none⟩ = some (.int .i64 t268) := (blk_cell BK273.out 0).trans rfl; have hcz55_1 : w54.cell? ⟨gb273, 1, none⟩ = some (.int .i64 (wrap64 (t269 + 1))) := (blk_cell BK273.out 1).trans rfl; have hcz55_2 : w54.cell? ⟨gb273, 2, none⟩ = some (.slice (some ⟨go45, 0, none⟩) t270.length co17) := (blk_cell BK273.out 2).trans rfl; have hfz55_0 := blk_frozen BK273.out 0; have hfz55_1 := blk_frozen BK273.out 1; have hfz55_2 := blk_frozen BK273.out 2; have hnb56 := NB267_266.out; have hnc56 := NB266_267.out; have hcz57_0 : w54.cell? ⟨gb267, 0, none⟩ = some (.int .i64 0) := (blk_cell BK267.out 0).trans rfl; have hcz57_1 : w54.cell? ⟨gb267, 1, none⟩ = some (.int .i64 0) := (blk_cell BK267.out 1).trans rfl; have hcz57_2 : w54.cell? ⟨gb267, 2, none⟩ = some (.slice none 0 0) := (blk_cell BK267.out 2).trans rfl; have hfz57_0 := blk_frozen BK267.out 0; have hfz57_1 := blk_frozen BK267.out 1; have hfz57_2 := blk_frozen BK267.out 2)) | go_quiet (first | ((with_reducible refine gate_store (t := 45) (p := 60) rfl ?_); (try (rw [drewN_self w41]; generalize hq_ : World.drewN w41 _ = w41; have n0_ := Aside0.mk (Kd.R_at hq_ HO_274002.out); have n1_ := Aside0.mk (blk_at hq_ BK266.out); have n2_ := Aside0.mk (blk_at hq_ BK267.out); have n3_ := Aside0.mk (blk_at hq_ BK273.out); have n4_ := Aside0.mk (blk_at hq_ BK276.out); have n5_ := Aside0.mk (below_at hq_ HB.out); clear hq_ HO_274002 BK266 BK267 BK273 BK276 HB; have HO_274002 := n0_; have BK266 := n1_; have BK267 := n2_; have BK273 := n3_; have BK276 := n4_; have HB := n5_; clear n0_ n1_ n2_ n3_ n4_ n5_; (try (have n_ := Aside0.mk (Kd.R_mono (ok' := (fun k_ => k_ ≠ gb276)) HO_274002.out (fun k_ hk => hk.2)); clear HO_274002; have HO_274002 := n_; clear n_)); (try (have HX53 := Aside0.mk (show Kd.R k45 45 w41 w.heap.size (fun k_ => k_ ≠ gb276) (.slice (some ⟨go45, 0, none⟩) t270.length co17) t270 from u10_13))); (try (obtain ⟨ce53, hcl53, hM53, hcc53, hfr53⟩ := Kd.R_elem HX53.out z45 (t277 : Int) (of_decide_eq_true u10_25) (by have h_ : (t277 : Int) < ((t270.length : Int) : Int) := of_decide_eq_true u10_25; first | exact h_ | (have e_ := (Kd.R_reads' HO_274002.out).1; omega) | simpa using h_))); (try (obtain rfl := k45_openM hM53)); (try (have HP53 := Kd.R_seg HX53.out (t277 : Int) (of_decide_eq_true u10_25) (by have h_ : (t277 : Int) < ((t270.length : Int) : Int) := of_decide_eq_true u10_25; first | exact h_ | (have e_ := (Kd.R_reads' HO_274002.out).1; omega) | simpa using h_) (seg := [.int .i64 a1, .int .i64 a2, .int .i64 (wrap64 (t269 + 1)), .string a3]) (j := 0) hcl53 hcc53 (show 4 ≤ 4 from by decide) (x' := (⟨a1, a2, wrap64 (t269 + 1), a3⟩ : S45)) (k45_mkM _ _ _ (⟨a1, a2, wrap64 (t269 + 1), a3⟩ : S45) ) (fun _ hk => hk))); (try (have hx53_0 := hcc53 0 _ rfl)); (try (try simp only [show (k45).sz = 4 from rfl, Nat.mul_one, Nat.add_zero] at hx53_0)); (try (have hf53_0 := hfr53 0)); (try (try simp only [show (k45).sz = 4 from rfl, Nat.mul_one, Nat.add_zero] at hf53_0)); (try (have hx53_1 := hcc53 1 _ rfl)); (try (try simp only [show (k45).sz = 4 from rfl, Nat.mul_one, Nat.add_zero] at hx53_1)); (try (have hf53_1 := hfr53 1)); (try (try simp only [show (k45).sz = 4 from rfl, Nat.mul_one, Nat.add_zero] at hf53_1)); (try (have hx53_2 := hcc53 2 _ rfl)); (try (try simp only [show (k45).sz = 4 from rfl, Nat.mul_one, Nat.add_zero] at hx53_2)); (try (have hf53_2 := hfr53 2)); (try (try simp only [show (k45).sz = 4 from rfl, Nat.mul_one, Nat.add_zero] at hf53_2)); (try (have hx53_3 := hcc53 3 _ rfl)); (try (try simp only [show (k45).sz = 4 from rfl, Nat.mul_one, Nat.add_zero] at hx53_3)); (try (have hf53_3 := hfr53 3)); (try (try simp only [show (k45).sz = 4 from rfl, Nat.mul_one, Nat.add_zero] at hf53_3)); (try (clear hcl53 hcc53 hfr53 hM53)))); refine store_event (t := 45) (p := 60) (v := ?vo_w54) (w1 := ((((w41.setCell ⟨go45, (t277 : Int).toNat * 4, none⟩ (.int .i64 a1)).setCell ⟨go45, (t277 : Int).toNat * 4 + 1, none⟩ (.int .i64 a2)).setCell ⟨go45, (t277 : Int).toNat * 4 + 2, none⟩ (.int .i64 (wrap64 (t269 + 1)))).setCell ⟨go45, (t277 : Int).toNat * 4 + 3, none⟩ (.string a3))) ?hg ?ho ?hn ?hr ?_; (case ho => rfl); (case hg => rfl); (case hn => rfl); (case hr => first | (go_simp; done) | (go_simp; rfl)); intro w54 hw; have hg : w41.grownBy w54 (some go45) := (by rw [hw]; exact HP53.2); have hp_ : Kd.R k45 45 w54 w.heap.size (fun k_ => k_ ≠ gb276) (.slice (some ⟨go45, 0, none⟩) t270.length co17) y278 := (by rw [hw, Ny278.out]; exact HP53.1); clear HP53; have n0_ := Aside0.mk (hp_); have n1_ := Aside0.mk (blk_grown (g := gb266) (o := .cells #[.int .i64 a0_0, .int .i64 a0_1, .slice A0_2 l0_2.length c0_2] 29 (0, 0)) u10_1 hg (Kd.R_ne HO_274002.out BK266.out (by decide))); have n2_ := Aside0.mk (blk_grown (g := gb267) (o := .cells #[.int .i64 0, .int .i64 0, .slice none 0 0] 29 (0, 0)) u10_2 hg (Kd.R_ne HO_274002.out BK267.out (by decide))); have n3_ := Aside0.mk (blk_grown (g := gb273) (o := .cells #[.int .i64 t268, .int .i64 (wrap64 (t269 + 1)), .slice (some ⟨go45, 0, none⟩) t270.length co17] 29 (0, 0)) u10_5 hg (Kd.R_ne HO_274002.out BK273.out (by decide))); have n4_ := Aside0.mk (blk_grown (g := gb276) (o := .cells #[.int .i64 a1, .int .i64 a2, .int .i64 (wrap64 (t269 + 1)), .string a3] 45 (0, 0)) u10_4 hg (Kd.R_away HO_274002.out (fun _ hk => hk))); have n5_ := Aside0.mk ((by rw [hw]; exact below_set (below_set (below_set (below_set (HB.out) GB45.out) GB45.out) GB45.out) GB45.out : Below w.heap.size w w54)); clear HO_274002; clear BK266; clear BK267; clear BK273; clear BK276; clear HB; have HO_274002 := n0_; have BK266 := n1_; have BK267 := n2_; have BK273 := n3_; have BK276 := n4_; have HB := n5_; clear n0_ n1_ n2_ n3_ n4_ n5_; clear hg hw hp_; have hcz55_0 : w54.cell? ⟨gb273, 0, none⟩ = some (.int .i64 t268) := (blk_cell BK273.out 0).trans rfl; have hcz55_1 : w54.cell? ⟨gb273, 1, none⟩ = some (.int .i64 (wrap64 (t269 + 1))) := (blk_cell BK273.out 1).trans rfl; have hcz55_2 : w54.cell? ⟨gb273, 2, none⟩ = some (.slice (some ⟨go45, 0, none⟩) t270.length co17) := (blk_cell BK273.out 2).trans rfl; have hfz55_0 := blk_frozen BK273.out 0; have hfz55_1 := blk_frozen BK273.out 1; have hfz55_2 := blk_frozen BK273.out 2; have hnb56 := NB267_266.out; have hnc56 := NB266_267.out; have hcz57_0 : w54.cell? ⟨gb267, 0, none⟩ = some (.int .i64 0) := (blk_cell BK267.out 0).trans rfl; have hcz57_1 : w54.cell? ⟨gb267, 1, none⟩ = some (.int .i64 0) := (blk_cell BK267.out 1).trans rfl; have hcz57_2 : w54.cell? ⟨gb267, 2, none⟩ = some (.slice none 0 0) := (blk_cell BK267.out 2).trans rfl; have hfz57_0 := blk_frozen BK267.out 0; have hfz57_1 := blk_frozen BK267.out 1; have hfz57_2 := blk_frozen BK267.out 2)))
      refine bodyPost_ret (results_ct rfl _ _ gb267 29 #[.int .i64 t268, .int .i64 (wrap64 (t269 + 1)), .slice (some ⟨go45, 0, none⟩) t270.length co17] (0, 0) _ rfl (by (with_reducible repeat (first | refine blk_drewN ?_ _ | refine blk_drew ?_ | refine blk_alloc ?_ _)); refine blk_put (cs := #[.int .i64 t268, .int .i64 (wrap64 (t269 + 1)), .slice none 0 0]) ?_ 2 _ rfl; (with_reducible repeat (first | refine blk_drewN ?_ _ | refine blk_drew ?_ | refine blk_alloc ?_ _)); refine blk_put (cs := #[.int .i64 t268, .int .i64 0, .slice none 0 0]) ?_ 1 _ rfl; (with_reducible repeat (first | refine blk_drewN ?_ _ | refine blk_drew ?_ | refine blk_alloc ?_ _)); refine blk_put (cs := #[.int .i64 0, .int .i64 0, .slice none 0 0]) ?_ 0 _ rfl; (with_reducible repeat (first | refine blk_drewN ?_ _ | refine blk_drew ?_ | refine blk_alloc ?_ _)); exact BK267.out) Try.underlying29 rfl (by kernel_rfl)) rfl ?_
      exact ⟨_, by first | rfl | (simp [errW_none, errW_some] <;> rfl) | (simp [*, errW_none, errW_some] <;> rfl), (by (with_reducible repeat (first | apply Kd.R_alloc | apply Kd.R_drewN | apply Kd.R_drew)); exact Kd.R_mono (Kd.R_far (p := ⟨gb267, 2, none⟩) (Kd.R_far (p := ⟨gb267, 1, none⟩) (Kd.R_far (p := ⟨gb267, 0, none⟩) (Kd.R_types HO_274002.out BK267.out (by decide)) (fun _ hk => hk.2) (.int .i64 t268)) (fun _ hk => hk.2) (.int .i64 (wrap64 (t269 + 1)))) (fun _ hk => hk.2) (.slice (some ⟨go45, 0, none⟩) t270.length co17)) (fun _ hk => trivial)), u10_0⟩
    rw [if_neg c42] at H
    have c42b0 : decide (0 ≤ t277) = false := decide_eq_false c42
    clear c42
    (first | rw [c42b0] | (simp only [i64_w, i32_w]; rw [c42b0]) | skip)
    have HC58 := Aside0.mk H
    clear H
    have hnb59 := NB273_266.out
    have hnc59 := NB266_273.out
    have hnb60 := NB273_267.out
    have hnc60 := NB267_273.out
    have hnb61 := NB273_276.out
    have hnc61 := NB276_273.out
    have hcz62_0 : w41.cell? ⟨gb273, 0, none⟩ = some (.int .i64 t268) := (blk_cell BK273.out 0).trans rfl
    have hcz62_1 : w41.cell? ⟨gb273, 1, none⟩ = some (.int .i64 (wrap64 (t269 + 1))) := (blk_cell BK273.out 1).trans rfl
    have hcz62_2 : w41.cell? ⟨gb273, 2, none⟩ = some (.slice Ao17 t270.length co17) := (blk_cell BK273.out 2).trans rfl
    have hfz62_0 := blk_frozen BK273.out 0
    have hfz62_1 := blk_frozen BK273.out 1
    have hfz62_2 := blk_frozen BK273.out 2
    go_upto_if 67 with (fail)
    repeat (go_quiet (fail); go_upto_if 67 with (fail))
    go_cut [] (fun wc => ∃ (kq : Nat) (x274002_57 : List (S45)) (u274002 : Value), Aside0 (impl_keep.j2 kq a1 t268 (wrap64 (t269 + 1)) x274002_57 a1 a2 (wrap64 (t269 + 1)) a3 = some (r1, r2, r3, r4)) ∧ Aside0 (kq ≤ kj6) ∧ Aside0 (Kd.R k45 45 wc w.heap.size (fun k_ => k_ ≠ gb276) u274002 x274002_57) ∧ Aside0 (wc.heap[gb266]? = some (.cells #[.int .i64 a0_0, .int .i64 a0_1, (.slice A0_2 l0_2.length c0_2)] 29 (0, 0))) ∧ Aside0 (wc.heap[gb267]? = some (.cells #[.int .i64 0, .int .i64 0, (.slice none 0 0)] 29 (0, 0))) ∧ Aside0 (wc.heap[gb273]? = some (.cells #[.int .i64 t268, .int .i64 (wrap64 (t269 + 1)), u274002] 29 (0, 0))) ∧ Aside0 (wc.heap[gb276]? = some (.cells #[.int .i64 a1, .int .i64 a2, .int .i64 (wrap64 (t269 + 1)), .string a3] 45 (0, 0))) ∧ Aside0 (Below w.heap.size w wc))
    case first =>
      have H := HC58.out
      clear HC58
      by_cases c63 : (t270.length : Int) = t268
      rotate_left
      · rw [if_neg c63] at H
        have c63b0 : ((t270.length : Int) == t268) = false := beq_eq_false_iff_ne.mpr c63
        have c63b1 : ((t270.length : Int) != t268) = true := bne_iff_ne.mpr c63
        (first | rw [c63b0] | (simp only [i64_w, i32_w]; rw [c63b0]) | skip)
        have H' := Aside0.mk H
        clear H
        go_wp2
        repeat (go_quiet (fail); try go_wp2)
        go_meet
        case rel => exact ⟨_, (t270), (.slice Ao17 t270.length co17), H', ⟨(by have := HJ6.out; first | omega | exact Nat.le_refl _)⟩, ⟨u10_41⟩, ⟨u10_1⟩, ⟨u10_2⟩, ⟨u10_5⟩, ⟨u10_4⟩, ⟨u10_0⟩⟩
      rw [if_pos c63] at H
      have c63b0 : ((t270.length : Int) == t268) = true := beq_iff_eq.mpr c63
      have c63b1 : ((t270.length : Int) != t268) = false := bne_eq_false_iff_eq.mpr c63
      clear c63
      (first | rw [c63b0] | (simp only [i64_w, i32_w]; rw [c63b0]) | skip)
      have H' := Aside0.mk H
      clear H
      have hnb64 := NB273_266.out
      have hnc64 := NB266_273.out
      have hnb65 := NB273_267.out
      have hnc65 := NB267_273.out
      have hnb66 := NB273_276.out
      have hnc66 := NB276_273.out
      have hcz67_0 : w41.cell? ⟨gb273, 0, none⟩ = some (.int .i64 t268) := (blk_cell BK273.out 0).trans rfl
      have hcz67_1 : w41.cell? ⟨gb273, 1, none⟩ = some (.int .i64 (wrap64 (t269 + 1))) := (blk_cell BK273.out 1).trans rfl
      have hcz67_2 : w41.cell? ⟨gb273, 2, none⟩ = some (.slice Ao17 t270.length co17) := (blk_cell BK273.out 2).trans rfl
      have hfz67_0 := blk_frozen BK273.out 0
      have hfz67_1 := blk_frozen BK273.out 1
      have hfz67_2 := blk_frozen BK273.out 2
      go_wp2
      repeat (go_quiet (fail); try go_wp2)
      go_loopg [15, 71] kj6 (fun kq v15 v71 w' => ∃ (x15_2 : Int) (x71_2 : Int), v15 = .int .i64 x15_2 ∧ v71 = .int .i64 x71_2 ∧ Aside0 (impl_keep.l0 kq a1 x15_2 t270 (t270.length : Int) x71_2 t268 (wrap64 (t269 + 1)) t270 a1 a2 (wrap64 (t269 + 1)) a3 = some (r1, r2, r3, r4)) ∧ Aside0 (kq ≤ kj6) ∧ Aside0 (Kd.R k45 45 w' w.heap.size (fun k_ => k_ ≠ gb276) (.slice Ao17 t270.length co17) t270) ∧ Aside0 (Kd.R k45 45 w' w.heap.size (fun k_ => k_ ≠ gb276) (.slice Ao17 t270.length co17) t270) ∧ Aside0 (w'.heap[gb266]? = some (.cells #[.int .i64 a0_0, .int .i64 a0_1, (.slice A0_2 l0_2.length c0_2)] 29 (0, 0))) ∧ Aside0 (w'.heap[gb267]? = some (.cells #[.int .i64 0, .int .i64 0, (.slice none 0 0)] 29 (0, 0))) ∧ Aside0 (w'.heap[gb273]? = some (.cells #[.int .i64 t268, .int .i64 (wrap64 (t269 + 1)), (.slice Ao17 t270.length co17)] 29 (0, 0))) ∧ Aside0 (w'.heap[gb276]? = some (.cells #[.int .i64 a1, .int .i64 a2, .int .i64 (wrap64 (t269 + 1)), .string a3] 45 (0, 0))) ∧ Aside0 (Below w.heap.size w w'))
      case atStart => exact ⟨(0), (0), u10_37, u10_37, H', ⟨Nat.le_refl _⟩, ⟨u10_41⟩, ⟨u10_41⟩, ⟨u10_1⟩, ⟨u10_2⟩, ⟨u10_5⟩, ⟨u10_4⟩, ⟨u10_0⟩⟩
      clear H'
      try clear c1
      try clear c2
      try clear p2
      try clear c3
      try clear c4
      try clear p4
      try clear q4
      try clear hx4
      try clear hf4
      try clear c5
      try clear hx5
      try clear hf5
      try clear c6
      try clear p6
      try clear c10
      try clear c14
      try clear c15
      try clear c20
      try clear c20b0
      try clear c20b1
      try clear c21
      try clear c21b0
      try clear c21b1
      try clear c22
      try clear c23
      try clear c25
      try clear c26
      try clear c27
      try clear c29
      try clear c32
      try clear c33
      try clear c34
      try clear c36
      try clear c37
      try clear c38
      try clear c42
      try clear c42b0
      try clear c43
      try clear c43b0
      try clear c44
      try clear c44b0
      try clear c45
      try clear p45
      try clear q45
      try clear hx45
      try clear hf45
      try clear c46
      try clear c47
      try clear c48
      try clear c50
      try clear c51
      try clear c53
      try clear hx53
      try clear hf53
      try clear c56
      try clear c59
      try clear c60
      try clear c61
      try clear c63
      try clear c63b0
      try clear c63b1
      try clear c64
      try clear p64
      try clear c65
      try clear c66
      try clear hcz11_0
      try clear hcz11_1
      try clear hcz11_2
      try clear hcz16_0
      try clear hcz16_1
      try clear hcz16_2
      try clear hcz18_0
      try clear hcz18_1
      try clear hcz18_2
      try clear hcz24_0
      try clear hcz24_1
      try clear hcz24_2
      try clear hcz28_0
      try clear hcz28_1
      try clear hcz28_2
      try clear hcz30_0
      try clear hcz30_1
      try clear hcz30_2
      try clear hcz34_0
      try clear hcz34_1
      try clear hcz34_2
      try clear hcz39_0
      try clear hcz39_1
      try clear hcz39_2
      try clear hcz39_3
      try clear hcz40_0
      try clear hcz40_1
      try clear hcz40_2
      try clear hcz49_0
      try clear hcz49_1
      try clear hcz49_2
      try clear hcz52_0
      try clear hcz52_1
      try clear hcz52_2
      try clear hcz52_3
      try clear hcz55_0
      try clear hcz55_1
      try clear hcz55_2
      try clear hcz57_0
      try clear hcz57_1
      try clear hcz57_2
      try clear hcz62_0
      try clear hcz62_1
      try clear hcz62_2
      try clear hcz67_0
      try clear hcz67_1
      try clear hcz67_2
      try clear hfz11_0
      try clear hfz11_1
      try clear hfz11_2
      try clear hfz16_0
      try clear hfz16_1
      try clear hfz16_2
      try clear hfz18_0
      try clear hfz18_1
      try clear hfz18_2
      try clear hfz24_0
      try clear hfz24_1
      try clear hfz24_2
      try clear hfz28_0
      try clear hfz28_1
      try clear hfz28_2
      try clear hfz30_0
      try clear hfz30_1
      try clear hfz30_2
      try clear hfz34_0
      try clear hfz34_1
      try clear hfz34_2
      try clear hfz39_0
      try clear hfz39_1
      try clear hfz39_2
      try clear hfz39_3
      try clear hfz40_0
      try clear hfz40_1
      try clear hfz40_2
      try clear hfz49_0
      try clear hfz49_1
      try clear hfz49_2
      try clear hfz52_0
      try clear hfz52_1
      try clear hfz52_2
      try clear hfz52_3
      try clear hfz55_0
      try clear hfz55_1
      try clear hfz55_2
      try clear hfz57_0
      try clear hfz57_1
      try clear hfz57_2
      try clear hfz62_0
      try clear hfz62_1
      try clear hfz62_2
      try clear hfz67_0
      try clear hfz67_1
      try clear hfz67_2
      try clear hx45_0
      try clear hx45_1
      try clear hx45_2
      try clear hx45_3
      try clear hx53_0
      try clear hx53_1
      try clear hx53_2
      try clear hx53_3
      try clear p2
      try clear p45
      try clear q45
      obtain ⟨x15_2, x71_2, rfl, rfl, HA, HK2, HO_69, HO_274002, BK266, BK267, BK273, BK276, HB⟩ := hrel
      cases gk with
      | zero => exact absurd HA.out (by simp [impl_keep.l0])
      | succ k2 =>
        have H := HA.out
        clear HA
        simp only [impl_keep.l0] at H
        by_cases c68 : x71_2 < (t270.length : Int)
        rotate_left
        · rw [if_neg c68] at H
          have c68b0 : decide (x71_2 < (t270.length : Int)) = false := decide_eq_false c68
          clear c68
          replace H := Option.bind_eq_some_iff.mp H
          obtain ⟨t282, A840, H⟩ := H
          replace H : (impl_keep.j2 k2 a1 t268 (wrap64 (t269 + 1)) t282 a1 a2 (wrap64 (t269 + 1)) a3) = some (r1, r2, r3, r4) := H
          have A84 := Aside0.mk A840
          clear A840
          have H' := Aside0.mk H
          clear H
          have hnb85 := NB273_266.out
          have hnc85 := NB266_273.out
          have hnb86 := NB273_267.out
          have hnc86 := NB267_273.out
          have hnb87 := NB273_276.out
          have hnc87 := NB276_273.out
          have hcz88_0 : wr.cell? ⟨gb273, 0, none⟩ = some (.int .i64 t268) := (blk_cell BK273.out 0).trans rfl
          have hcz88_1 : wr.cell? ⟨gb273, 1, none⟩ = some (.int .i64 (wrap64 (t269 + 1))) := (blk_cell BK273.out 1).trans rfl
          have hcz88_2 : wr.cell? ⟨gb273, 2, none⟩ = some (.slice Ao17 t270.length co17) := (blk_cell BK273.out 2).trans rfl
          have hfz88_0 := blk_frozen BK273.out 0
          have hfz88_1 := blk_frozen BK273.out 1
          have hfz88_2 := blk_frozen BK273.out 2
          go_wp2_with (first | (first | (go_at_call 31; (with_reducible refine (impl_Session_31.calls (fun k_ => some k_ = (.slice Ao17 t270.length co17 : Value).ownBlock) (.slice Ao17 t270.length co17) t270 x15_2 (wrap64 (x15_2 + 1)) t282 w _ ?side1 ?side2 A84.out).mono ?_); (case side1 => exact u10_0); (case side2 => exact Kd.R_tight rfl HO_274002.out); rintro e w89 ⟨v283, rfl, ho0, hb, hkp⟩; have n0_ := Aside0.mk (blk_kept u10_1 hkp (fun hs_ => (fun e_ => (Kd.R_ne HO_274002.out BK266.out (by decide)) e_) hs_)); have n1_ := Aside0.mk (blk_kept u10_2 hkp (fun hs_ => (fun e_ => (Kd.R_ne HO_274002.out BK267.out (by decide)) e_) hs_)); have n2_ := Aside0.mk (blk_kept u10_5 hkp (fun hs_ => (fun e_ => (Kd.R_ne HO_274002.out BK273.out (by decide)) e_) hs_)); have n3_ := Aside0.mk (blk_kept u10_4 hkp (fun hs_ => (fun e_ => (Kd.R_away HO_274002.out (fun _ hk => hk)) e_) hs_)); have n4_ := Aside0.mk (Kd.R_mono (ok' := fun k_ => k_ ≠ gb276) ho0 (fun k_ hk_ => Or.elim hk_ (fun hs_ => fun e_ => (Kd.R_away HO_274002.out (fun _ hk => hk)) (by rw [← e_]; exact hs_)) (fun hn_ => (Kd.freshB (g := gb276) (o := .cells #[.int .i64 a1, .int .i64 a2, .int .i64 (wrap64 (t269 + 1)), .string a3] 45 (0, 0)) u10_4 k_ hn_)))); have n5_ := Aside0.mk (hb); clear BK266; clear BK267; clear BK273; clear BK276; clear HB; clear HO_274002; clear HO_69; have BK266 := n0_; have BK267 := n1_; have BK273 := n2_; have BK276 := n3_; have HO284 := n4_; have HB := n5_; clear n0_ n1_ n2_ n3_ n4_ n5_; (try clear hb); (try clear hkp); (try clear ho0); obtain ⟨Ao90, co90, eo90⟩ := Kd.R_slice HO284.out; subst eo90; have hcz91_0 : w89.cell? ⟨gb273, 0, none⟩ = some (.int .i64 t268) := (blk_cell BK273.out 0).trans rfl; have hcz91_1 : w89.cell? ⟨gb273, 1, none⟩ = some (.int .i64 (wrap64 (t269 + 1))) := (blk_cell BK273.out 1).trans rfl; have hcz91_2 : w89.cell? ⟨gb273, 2, none⟩ = some (.slice Ao17 t270.length co17) := (blk_cell BK273.out 2).trans rfl; have hfz91_0 := blk_frozen BK273.out 0; have hfz91_1 := blk_frozen BK273.out 1; have hfz91_2 := blk_frozen BK273.out 2)) | go_quiet (first | (go_at_call 31; (with_reducible refine (impl_Session_31.calls (fun k_ => some k_ = (.slice Ao17 t270.length co17 : Value).ownBlock) (.slice Ao17 t270.length co17) t270 x15_2 (wrap64 (x15_2 + 1)) t282 w _ ?side1 ?side2 A84.out).mono ?_); (case side1 => exact u10_0); (case side2 => exact Kd.R_tight rfl HO_274002.out); rintro e w89 ⟨v283, rfl, ho0, hb, hkp⟩; have n0_ := Aside0.mk (blk_kept u10_1 hkp (fun hs_ => (fun e_ => (Kd.R_ne HO_274002.out BK266.out (by decide)) e_) hs_)); have n1_ := Aside0.mk (blk_kept u10_2 hkp (fun hs_ => (fun e_ => (Kd.R_ne HO_274002.out BK267.out (by decide)) e_) hs_)); have n2_ := Aside0.mk (blk_kept u10_5 hkp (fun hs_ => (fun e_ => (Kd.R_ne HO_274002.out BK273.out (by decide)) e_) hs_)); have n3_ := Aside0.mk (blk_kept u10_4 hkp (fun hs_ => (fun e_ => (Kd.R_away HO_274002.out (fun _ hk => hk)) e_) hs_)); have n4_ := Aside0.mk (Kd.R_mono (ok' := fun k_ => k_ ≠ gb276) ho0 (fun k_ hk_ => Or.elim hk_ (fun hs_ => fun e_ => (Kd.R_away HO_274002.out (fun _ hk => hk)) (by rw [← e_]; exact hs_)) (fun hn_ => (Kd.freshB (g := gb276) (o := .cells #[.int .i64 a1, .int .i64 a2, .int .i64 (wrap64 (t269 + 1)), .string a3] 45 (0, 0)) u10_4 k_ hn_)))); have n5_ := Aside0.mk (hb); clear BK266; clear BK267; clear BK273; clear BK276; clear HB; clear HO_274002; clear HO_69; have BK266 := n0_; have BK267 := n1_; have BK273 := n2_; have BK276 := n3_; have HO284 := n4_; have HB := n5_; clear n0_ n1_ n2_ n3_ n4_ n5_; (try clear hb); (try clear hkp); (try clear ho0); obtain ⟨Ao90, co90, eo90⟩ := Kd.R_slice HO284.out; subst eo90; have hcz91_0 : w89.cell? ⟨gb273, 0, none⟩ = some (.int .i64 t268) := (blk_cell BK273.out 0).trans rfl; have hcz91_1 : w89.cell? ⟨gb273, 1, none⟩ = some (.int .i64 (wrap64 (t269 + 1))) := (blk_cell BK273.out 1).trans rfl; have hcz91_2 : w89.cell? ⟨gb273, 2, none⟩ = some (.slice Ao17 t270.length co17) := (blk_cell BK273.out 2).trans rfl; have hfz91_0 := blk_frozen BK273.out 0; have hfz91_1 := blk_frozen BK273.out 1; have hfz91_2 := blk_frozen BK273.out 2)))
          go_meet
          case rel => exact ⟨_, (t282), (.slice Ao90 t282.length co90), H', ⟨(by have := HJ6.out; have := HK2.out; first | omega | exact Nat.le_refl _)⟩, ⟨(by (with_reducible repeat (first | apply Kd.R_alloc | apply Kd.R_drewN | apply Kd.R_drew)); exact Kd.R_mono (Kd.R_far (p := ⟨gb273, 2, none⟩) (Kd.R_types HO284.out BK273.out (by decide)) (fun _ hk => hk.2) (.slice Ao90 t282.length co90)) (fun _ hk => hk.1))⟩, ⟨u10_9⟩, ⟨u10_10⟩, ⟨(by (with_reducible repeat (first | refine blk_drewN ?_ _ | refine blk_drew ?_ | refine blk_alloc ?_ _)); refine blk_put (cs := #[.int .i64 t268, .int .i64 (wrap64 (t269 + 1)), .slice Ao17 t270.length co17]) ?_ 2 _ rfl; (with_reducible repeat (first | refine blk_drewN ?_ _ | refine blk_drew ?_ | refine blk_alloc ?_ _)); exact BK273.out)⟩, ⟨(by (with_reducible repeat (first | refine blk_drewN ?_ _ | refine blk_drew ?_ | refine blk_alloc ?_ _)); refine blk_far ?_ NB276_273.out _; (with_reducible repeat (first | refine blk_drewN ?_ _ | refine blk_drew ?_ | refine blk_alloc ?_ _)); exact BK276.out)⟩, ⟨u10_0⟩⟩
        rw [if_pos c68] at H
        have c68b0 : decide (x71_2 < (t270.length : Int)) = true := decide_eq_true c68
        clear c68
        by_cases c69 : 0 ≤ x71_2
        rotate_left
        · rw [if_neg c69] at H
          exact absurd H (by simp)
        rw [if_pos c69] at H
        have c69b0 : decide (0 ≤ x71_2) = true := decide_eq_true c69
        clear c69
        by_cases c70 : x71_2 < (t270.length : Int)
        rotate_left
        · rw [if_neg c70] at H
          exact absurd H (by simp)
        rw [if_pos c70] at H
        have c70b0 : decide (x71_2 < (t270.length : Int)) = true := decide_eq_true c70
        clear c70
        by_cases c71 : 0 ≤ x15_2
        rotate_left
        · rw [if_neg c71] at H
          exact absurd H (by simp)
        rw [if_pos c71] at H
        have c71b0 : decide (0 ≤ x15_2) = true := decide_eq_true c71
        clear c71
        by_cases c72 : x15_2 < (t270.length : Int)
        rotate_left
        · rw [if_neg c72] at H
          exact absurd H (by simp)
        rw [if_pos c72] at H
        have c72b0 : decide (x15_2 < (t270.length : Int)) = true := decide_eq_true c72
        clear c72
        have H9 := Aside0.mk H
        clear H
        have p279 : 0 ≤ (x71_2 : Int) := of_decide_eq_true u10_25
        have q279 : x71_2 < (t270.length : Int) := of_decide_eq_true u10_25
        obtain ⟨ad279, e279, hx279_0, hx279_1, hx279_2, hx279_3⟩ := at_T45 (Kd.R_reads' HO_69.out).2.2 x71_2 p279 q279
        cases e279
        replace p279 := eq_true p279
        replace q279 := eq_true q279
        go_upto_if 84 with (first | ((with_reducible refine gate_dst (N := 17) rfl ?_); (try (refine gate_guard (by rfl) ?_; dsimp only)); refine box_event ?hg (N := 17) ?hd (cs := #[.int .i64 0, .int .i64 0, .int .i64 0, .string (⟨#[]⟩ : ByteArray)]) (t := 45) ?hr ?_; (case hd => rfl); (case hg => rfl); (case hr => first | (go_simp; done) | (go_simp; rfl)); intro gb280 hg w73 hbox hb; have n0_ := Aside0.mk (Kd.R_below (Kd.R_elderB u10_42 gb280 (Nat.le_of_eq hg.symm)) hb); have n1_ := Aside0.mk (Kd.R_below (Kd.R_elderB u10_13 gb280 (Nat.le_of_eq hg.symm)) hb); have n2_ := Aside0.mk (blk_below (g := gb266) (o := .cells #[.int .i64 a0_0, .int .i64 a0_1, .slice A0_2 l0_2.length c0_2] 29 (0, 0)) u10_1 hb); have n3_ := Aside0.mk (blk_below (g := gb267) (o := .cells #[.int .i64 0, .int .i64 0, .slice none 0 0] 29 (0, 0)) u10_2 hb); have n4_ := Aside0.mk (blk_below (g := gb273) (o := .cells #[.int .i64 t268, .int .i64 (wrap64 (t269 + 1)), .slice (some ad279) t270.length co17] 29 (0, 0)) u10_5 hb); have n5_ := Aside0.mk (blk_below (g := gb276) (o := .cells #[.int .i64 a1, .int .i64 a2, .int .i64 (wrap64 (t269 + 1)), .string a3] 45 (0, 0)) u10_4 hb); have n6_ := Aside0.mk (below_step u10_0 hb); have n7_ := Aside0.mk (hbox); have n8_ := Aside0.mk ((by rw [hg]; exact (below_size u10_0) : w.heap.size ≤ gb280)); have n9_ := Aside0.mk ((by rw [hg]; exact (below_size u10_0) : w.heap.size ≤ gb280)); have n10_ := Aside0.mk ((by rw [hg]; exact Nat.ne_of_lt (blk_lt (g := gb266) (o := .cells #[.int .i64 a0_0, .int .i64 a0_1, .slice A0_2 l0_2.length c0_2] 29 (0, 0)) u10_1) : gb266 ≠ gb280)); have n11_ := Aside0.mk ((by rw [hg]; exact Nat.ne_of_gt (blk_lt (g := gb266) (o := .cells #[.int .i64 a0_0, .int .i64 a0_1, .slice A0_2 l0_2.length c0_2] 29 (0, 0)) u10_1) : gb280 ≠ gb266)); have n12_ := Aside0.mk ((by rw [hg]; exact Nat.ne_of_lt (blk_lt (g := gb267) (o := .cells #[.int .i64 0, .int .i64 0, .slice none 0 0] 29 (0, 0)) u10_2) : gb267 ≠ gb280)); have n13_ := Aside0.mk ((by rw [hg]; exact Nat.ne_of_gt (blk_lt (g := gb267) (o := .cells #[.int .i64 0, .int .i64 0, .slice none 0 0] 29 (0, 0)) u10_2) : gb280 ≠ gb267)); have n14_ := Aside0.mk ((by rw [hg]; exact Nat.ne_of_lt (blk_lt (g := gb273) (o := .cells #[.int .i64 t268, .int .i64 (wrap64 (t269 + 1)), .slice (some ad279) t270.length co17] 29 (0, 0)) u10_5) : gb273 ≠ gb280)); have n15_ := Aside0.mk ((by rw [hg]; exact Nat.ne_of_gt (blk_lt (g := gb273) (o := .cells #[.int .i64 t268, .int .i64 (wrap64 (t269 + 1)), .slice (some ad279) t270.length co17] 29 (0, 0)) u10_5) : gb280 ≠ gb273)); have n16_ := Aside0.mk ((by rw [hg]; exact Nat.ne_of_lt (blk_lt (g := gb276) (o := .cells #[.int .i64 a1, .int .i64 a2, .int .i64 (wrap64 (t269 + 1)), .string a3] 45 (0, 0)) u10_4) : gb276 ≠ gb280)); have n17_ := Aside0.mk ((by rw [hg]; exact Nat.ne_of_gt (blk_lt (g := gb276) (o := .cells #[.int .i64 a1, .int .i64 a2, .int .i64 (wrap64 (t269 + 1)), .string a3] 45 (0, 0)) u10_4) : gb280 ≠ gb276)); clear HO_69; clear HO_274002; clear BK266; clear BK267; clear BK273; clear BK276; clear HB; have HO_69 := n0_; have HO_274002 := n1_; have BK266 := n2_; have BK267 := n3_; have BK273 := n4_; have BK276 := n5_; have HB := n6_; have BK280 := n7_; have GW280 := n8_; have GE280 := n9_; have NB266_280 := n10_; have NB280_266 := n11_; have NB267_280 := n12_; have NB280_267 := n13_; have NB273_280 := n14_; have NB280_273 := n15_; have NB276_280 := n16_; have NB280_276 := n17_; clear n0_ n1_ n2_ n3_ n4_ n5_ n6_ n7_ n8_ n9_ n10_ n11_ n12_ n13_ n14_ n15_ n16_ n17_; clear hb hbox hg; have hnb74 := NB280_266.out; have hnc74 := NB266_280.out; have hnb75 := NB280_267.out; have hnc75 := NB267_280.out; have hnb76 := NB280_273.out; have hnc76 := NB273_280.out; have hnb77 := NB280_276.out; have hnc77 := NB276_280.out; have hcz78_0 : w73.cell? ⟨gb280, 0, none⟩ = some (.int .i64 0) := (blk_cell BK280.out 0).trans rfl; have hcz78_1 : w73.cell? ⟨gb280, 1, none⟩ = some (.int .i64 0) := (blk_cell BK280.out 1).trans rfl; have hcz78_2 : w73.cell? ⟨gb280, 2, none⟩ = some (.int .i64 0) := (blk_cell BK280.out 2).trans rfl; have hcz78_3 : w73.cell? ⟨gb280, 3, none⟩ = some (.string (⟨#[]⟩ : ByteArray)) := (blk_cell BK280.out 3).trans rfl; have hfz78_0 := blk_frozen BK280.out 0; have hfz78_1 := blk_frozen BK280.out 1; have hfz78_2 := blk_frozen BK280.out 2; have hfz78_3 := blk_frozen BK280.out 3; have hnb79 := NB273_266.out; have hnc79 := NB266_273.out; have hnb80 := NB273_267.out; have hnc80 := NB267_273.out; have hnb81 := NB273_276.out; have hnc81 := NB276_273.out; have hcz82_0 : w73.cell? ⟨gb273, 0, none⟩ = some (.int .i64 t268) := (blk_cell BK273.out 0).trans rfl; have hcz82_1 : w73.cell? ⟨gb273, 1, none⟩ = some (.int .i64 (wrap64 (t269 + 1))) := (blk_cell BK273.out 1).trans rfl; have hcz82_2 : w73.cell? ⟨gb273, 2, none⟩ = some (.slice (some ad279) t270.length co17) := (blk_cell BK273.out 2).trans rfl; have hfz82_0 := blk_frozen BK273.out 0; have hfz82_1 := blk_frozen BK273.out 1; have hfz82_2 := blk_frozen BK273.out 2; have p281 : 0 ≤ (x15_2 : Int) := of_decide_eq_true u10_25; have q281 : x15_2 < (t270.length : Int) := of_decide_eq_true u10_25; obtain ⟨ad281, e281, hx281_0, hx281_1, hx281_2, hx281_3⟩ := at_T45 (Kd.R_reads' HO_274002.out).2.2 x15_2 p281 q281; obtain rfl : ad279 = ad281 := (by injection e281); have hn281_0 : ad279.block ≠ gb280 := u10_11; have hn281_1 : ad279.block ≠ gb280 := u10_11; have hn281_2 : ad279.block ≠ gb280 := u10_11; have hn281_3 : ad279.block ≠ gb280 := u10_11; replace hx281_0 := (cell_far (p := ⟨gb280, 0, none⟩) u10_19 (.int .i64 ((rd_T45 t270 x71_2).f0))).trans hx281_0; replace hx281_1 := (cell_far (p := ⟨gb280, 0, none⟩) u10_19 (.int .i64 ((rd_T45 t270 x71_2).f0))).trans hx281_1; replace hx281_2 := (cell_far (p := ⟨gb280, 0, none⟩) u10_19 (.int .i64 ((rd_T45 t270 x71_2).f0))).trans hx281_2; replace hx281_3 := (cell_far (p := ⟨gb280, 0, none⟩) u10_19 (.int .i64 ((rd_T45 t270 x71_2).f0))).trans hx281_3; replace hx281_0 := (cell_far (p := ⟨gb280, 1, none⟩) u10_20 (.int .i64 ((rd_T45 t270 x71_2).f1))).trans hx281_0; replace hx281_1 := (cell_far (p := ⟨gb280, 1, none⟩) u10_20 (.int .i64 ((rd_T45 t270 x71_2).f1))).trans hx281_1; replace hx281_2 := (cell_far (p := ⟨gb280, 1, none⟩) u10_20 (.int .i64 ((rd_T45 t270 x71_2).f1))).trans hx281_2; replace hx281_3 := (cell_far (p := ⟨gb280, 1, none⟩) u10_20 (.int .i64 ((rd_T45 t270 x71_2).f1))).trans hx281_3; replace hx281_0 := (cell_far (p := ⟨gb280, 2, none⟩) u10_21 (.int .i64 ((rd_T45 t270 x71_2).f2))).trans hx281_0; replace hx281_1 := (cell_far (p := ⟨gb280, 2, none⟩) u10_21 (.int .i64 ((rd_T45 t270 x71_2).f2))).trans hx281_1; replace hx281_2 := (cell_far (p := ⟨gb280, 2, none⟩) u10_21 (.int .i64 ((rd_T45 t270 x71_2).f2))).trans hx281_2; replace hx281_3 := (cell_far (p := ⟨gb280, 2, none⟩) u10_21 (.int .i64 ((rd_T45 t270 x71_2).f2))).trans hx281_3; replace hx281_0 := (cell_far (p := ⟨gb280, 3, none⟩) u10_22 (.string ((rd_T45 t270 x71_2).f3))).trans hx281_0; replace hx281_1 := (cell_far (p := ⟨gb280, 3, none⟩) u10_22 (.string ((rd_T45 t270 x71_2).f3))).trans hx281_1; replace hx281_2 := (cell_far (p := ⟨gb280, 3, none⟩) u10_22 (.string ((rd_T45 t270 x71_2).f3))).trans hx281_2; replace hx281_3 := (cell_far (p := ⟨gb280, 3, none⟩) u10_22 (.string ((rd_T45 t270 x71_2).f3))).trans hx281_3; (try have hch_ := fun (n_ : Nat) => (show ((((((w73.drewN n_).setCell ⟨gb280, 0, none⟩ (.int .i64 ((rd_T45 t270 x71_2).f0))).setCell ⟨gb280, 1, none⟩ (.int .i64 ((rd_T45 t270 x71_2).f1))).setCell ⟨gb280, 2, none⟩ (.int .i64 ((rd_T45 t270 x71_2).f2))).setCell ⟨gb280, 3, none⟩ (.string ((rd_T45 t270 x71_2).f3)))) = World.drewN (((((w73.setCell ⟨gb280, 0, none⟩ (.int .i64 ((rd_T45 t270 x71_2).f0))).setCell ⟨gb280, 1, none⟩ (.int .i64 ((rd_T45 t270 x71_2).f1))).setCell ⟨gb280, 2, none⟩ (.int .i64 ((rd_T45 t270 x71_2).f2))).setCell ⟨gb280, 3, none⟩ (.string ((rd_T45 t270 x71_2).f3)))) n_ from by simp only [Go.Proofs.Ytjdpifafijcpbaa.Slc.setCell_drewN])); (try have hy281_0 := fun (n_ : Nat) => Go.Proofs.Ytjdpifafijcpbaa.Slc.cell_of (hch_ n_) hx281_0); (try have hy281_1 := fun (n_ : Nat) => Go.Proofs.Ytjdpifafijcpbaa.Slc.cell_of (hch_ n_) hx281_1); (try have hy281_2 := fun (n_ : Nat) => Go.Proofs.Ytjdpifafijcpbaa.Slc.cell_of (hch_ n_) hx281_2); (try have hy281_3 := fun (n_ : Nat) => Go.Proofs.Ytjdpifafijcpbaa.Slc.cell_of (hch_ n_) hx281_3); clear hn281_0; clear hn281_1; clear hn281_2; clear hn281_3; replace p281 := eq_true p281; replace q281 := eq_true q281))
        repeat (go_quiet (first | ((with_reducible refine gate_dst (N := 17) rfl ?_); (try (refine gate_guard (by rfl) ?_; dsimp only)); refine box_event ?hg (N := 17) ?hd (cs := #[.int .i64 0, .int .i64 0, .int .i64 0, .string (⟨#[]⟩ : ByteArray)]) (t := 45) ?hr ?_; (case hd => rfl); (case hg => rfl); (case hr => first | (go_simp; done) | (go_simp; rfl)); intro gb280 hg w73 hbox hb; have n0_ := Aside0.mk (Kd.R_below (Kd.R_elderB u10_42 gb280 (Nat.le_of_eq hg.symm)) hb); have n1_ := Aside0.mk (Kd.R_below (Kd.R_elderB u10_13 gb280 (Nat.le_of_eq hg.symm)) hb); have n2_ := Aside0.mk (blk_below (g := gb266) (o := .cells #[.int .i64 a0_0, .int .i64 a0_1, .slice A0_2 l0_2.length c0_2] 29 (0, 0)) u10_1 hb); have n3_ := Aside0.mk (blk_below (g := gb267) (o := .cells #[.int .i64 0, .int .i64 0, .slice none 0 0] 29 (0, 0)) u10_2 hb); have n4_ := Aside0.mk (blk_below (g := gb273) (o := .cells #[.int .i64 t268, .int .i64 (wrap64 (t269 + 1)), .slice (some ad279) t270.length co17] 29 (0, 0)) u10_5 hb); have n5_ := Aside0.mk (blk_below (g := gb276) (o := .cells #[.int .i64 a1, .int .i64 a2, .int .i64 (wrap64 (t269 + 1)), .string a3] 45 (0, 0)) u10_4 hb); have n6_ := Aside0.mk (below_step u10_0 hb); have n7_ := Aside0.mk (hbox); have n8_ := Aside0.mk ((by rw [hg]; exact (below_size u10_0) : w.heap.size ≤ gb280)); have n9_ := Aside0.mk ((by rw [hg]; exact (below_size u10_0) : w.heap.size ≤ gb280)); have n10_ := Aside0.mk ((by rw [hg]; exact Nat.ne_of_lt (blk_lt (g := gb266) (o := .cells #[.int .i64 a0_0, .int .i64 a0_1, .slice A0_2 l0_2.length c0_2] 29 (0, 0)) u10_1) : gb266 ≠ gb280)); have n11_ := Aside0.mk ((by rw [hg]; exact Nat.ne_of_gt (blk_lt (g := gb266) (o := .cells #[.int .i64 a0_0, .int .i64 a0_1, .slice A0_2 l0_2.length c0_2] 29 (0, 0)) u10_1) : gb280 ≠ gb266)); have n12_ := Aside0.mk ((by rw [hg]; exact Nat.ne_of_lt (blk_lt (g := gb267) (o := .cells #[.int .i64 0, .int .i64 0, .slice none 0 0] 29 (0, 0)) u10_2) : gb267 ≠ gb280)); have n13_ := Aside0.mk ((by rw [hg]; exact Nat.ne_of_gt (blk_lt (g := gb267) (o := .cells #[.int .i64 0, .int .i64 0, .slice none 0 0] 29 (0, 0)) u10_2) : gb280 ≠ gb267)); have n14_ := Aside0.mk ((by rw [hg]; exact Nat.ne_of_lt (blk_lt (g := gb273) (o := .cells #[.int .i64 t268, .int .i64 (wrap64 (t269 + 1)), .slice (some ad279) t270.length co17] 29 (0, 0)) u10_5) : gb273 ≠ gb280)); have n15_ := Aside0.mk ((by rw [hg]; exact Nat.ne_of_gt (blk_lt (g := gb273) (o := .cells #[.int .i64 t268, .int .i64 (wrap64 (t269 + 1)), .slice (some ad279) t270.length co17] 29 (0, 0)) u10_5) : gb280 ≠ gb273)); have n16_ := Aside0.mk ((by rw [hg]; exact Nat.ne_of_lt (blk_lt (g := gb276) (o := .cells #[.int .i64 a1, .int .i64 a2, .int .i64 (wrap64 (t269 + 1)), .string a3] 45 (0, 0)) u10_4) : gb276 ≠ gb280)); have n17_ := Aside0.mk ((by rw [hg]; exact Nat.ne_of_gt (blk_lt (g := gb276) (o := .cells #[.int .i64 a1, .int .i64 a2, .int .i64 (wrap64 (t269 + 1)), .string a3] 45 (0, 0)) u10_4) : gb280 ≠ gb276)); clear HO_69; clear HO_274002; clear BK266; clear BK267; clear BK273; clear BK276; clear HB; have HO_69 := n0_; have HO_274002 := n1_; have BK266 := n2_; have BK267 := n3_; have BK273 := n4_; have BK276 := n5_; have HB := n6_; have BK280 := n7_; have GW280 := n8_; have GE280 := n9_; have NB266_280 := n10_; have NB280_266 := n11_; have NB267_280 := n12_; have NB280_267 := n13_; have NB273_280 := n14_; have NB280_273 := n15_; have NB276_280 := n16_; have NB280_276 := n17_; clear n0_ n1_ n2_ n3_ n4_ n5_ n6_ n7_ n8_ n9_ n10_ n11_ n12_ n13_ n14_ n15_ n16_ n17_; clear hb hbox hg; have hnb74 := NB280_266.out; have hnc74 := NB266_280.out; have hnb75 := NB280_267.out; have hnc75 := NB267_280.out; have hnb76 := NB280_273.out; have hnc76 := NB273_280.out; have hnb77 := NB280_276.out; have hnc77 := NB276_280.out; have hcz78_0 : w73.cell? ⟨gb280, 0, none⟩ = some (.int .i64 0) := (blk_cell BK280.out 0).trans rfl; have hcz78_1 : w73.cell? ⟨gb280, 1, none⟩ = some (.int .i64 0) := (blk_cell BK280.out 1).trans rfl; have hcz78_2 : w73.cell? ⟨gb280, 2, none⟩ = some (.int .i64 0) := (blk_cell BK280.out 2).trans rfl; have hcz78_3 : w73.cell? ⟨gb280, 3, none⟩ = some (.string (⟨#[]⟩ : ByteArray)) := (blk_cell BK280.out 3).trans rfl; have hfz78_0 := blk_frozen BK280.out 0; have hfz78_1 := blk_frozen BK280.out 1; have hfz78_2 := blk_frozen BK280.out 2; have hfz78_3 := blk_frozen BK280.out 3; have hnb79 := NB273_266.out; have hnc79 := NB266_273.out; have hnb80 := NB273_267.out; have hnc80 := NB267_273.out; have hnb81 := NB273_276.out; have hnc81 := NB276_273.out; have hcz82_0 : w73.cell? ⟨gb273, 0, none⟩ = some (.int .i64 t268) := (blk_cell BK273.out 0).trans rfl; have hcz82_1 : w73.cell? ⟨gb273, 1, none⟩ = some (.int .i64 (wrap64 (t269 + 1))) := (blk_cell BK273.out 1).trans rfl; have hcz82_2 : w73.cell? ⟨gb273, 2, none⟩ = some (.slice (some ad279) t270.length co17) := (blk_cell BK273.out 2).trans rfl; have hfz82_0 := blk_frozen BK273.out 0; have hfz82_1 := blk_frozen BK273.out 1; have hfz82_2 := blk_frozen BK273.out 2; have p281 : 0 ≤ (x15_2 : Int) := of_decide_eq_true u10_25; have q281 : x15_2 < (t270.length : Int) := of_decide_eq_true u10_25; obtain ⟨ad281, e281, hx281_0, hx281_1, hx281_2, hx281_3⟩ := at_T45 (Kd.R_reads' HO_274002.out).2.2 x15_2 p281 q281; obtain rfl : ad279 = ad281 := (by injection e281); have hn281_0 : ad279.block ≠ gb280 := u10_11; have hn281_1 : ad279.block ≠ gb280 := u10_11; have hn281_2 : ad279.block ≠ gb280 := u10_11; have hn281_3 : ad279.block ≠ gb280 := u10_11; replace hx281_0 := (cell_far (p := ⟨gb280, 0, none⟩) u10_19 (.int .i64 ((rd_T45 t270 x71_2).f0))).trans hx281_0; replace hx281_1 := (cell_far (p := ⟨gb280, 0, none⟩) u10_19 (.int .i64 ((rd_T45 t270 x71_2).f0))).trans hx281_1; replace hx281_2 := (cell_far (p := ⟨gb280, 0, none⟩) u10_19 (.int .i64 ((rd_T45 t270 x71_2).f0))).trans hx281_2; replace hx281_3 := (cell_far (p := ⟨gb280, 0, none⟩) u10_19 (.int .i64 ((rd_T45 t270 x71_2).f0))).trans hx281_3; replace hx281_0 := (cell_far (p := ⟨gb280, 1, none⟩) u10_20 (.int .i64 ((rd_T45 t270 x71_2).f1))).trans hx281_0; replace hx281_1 := (cell_far (p := ⟨gb280, 1, none⟩) u10_20 (.int .i64 ((rd_T45 t270 x71_2).f1))).trans hx281_1; replace hx281_2 := (cell_far (p := ⟨gb280, 1, none⟩) u10_20 (.int .i64 ((rd_T45 t270 x71_2).f1))).trans hx281_2; replace hx281_3 := (cell_far (p := ⟨gb280, 1, none⟩) u10_20 (.int .i64 ((rd_T45 t270 x71_2).f1))).trans hx281_3; replace hx281_0 := (cell_far (p := ⟨gb280, 2, none⟩) u10_21 (.int .i64 ((rd_T45 t270 x71_2).f2))).trans hx281_0; replace hx281_1 := (cell_far (p := ⟨gb280, 2, none⟩) u10_21 (.int .i64 ((rd_T45 t270 x71_2).f2))).trans hx281_1; replace hx281_2 := (cell_far (p := ⟨gb280, 2, none⟩) u10_21 (.int .i64 ((rd_T45 t270 x71_2).f2))).trans hx281_2; replace hx281_3 := (cell_far (p := ⟨gb280, 2, none⟩) u10_21 (.int .i64 ((rd_T45 t270 x71_2).f2))).trans hx281_3; replace hx281_0 := (cell_far (p := ⟨gb280, 3, none⟩) u10_22 (.string ((rd_T45 t270 x71_2).f3))).trans hx281_0; replace hx281_1 := (cell_far (p := ⟨gb280, 3, none⟩) u10_22 (.string ((rd_T45 t270 x71_2).f3))).trans hx281_1; replace hx281_2 := (cell_far (p := ⟨gb280, 3, none⟩) u10_22 (.string ((rd_T45 t270 x71_2).f3))).trans hx281_2; replace hx281_3 := (cell_far (p := ⟨gb280, 3, none⟩) u10_22 (.string ((rd_T45 t270 x71_2).f3))).trans hx281_3; (try have hch_ := fun (n_ : Nat) => (show ((((((w73.drewN n_).setCell ⟨gb280, 0, none⟩ (.int .i64 ((rd_T45 t270 x71_2).f0))).setCell ⟨gb280, 1, none⟩ (.int .i64 ((rd_T45 t270 x71_2).f1))).setCell ⟨gb280, 2, none⟩ (.int .i64 ((rd_T45 t270 x71_2).f2))).setCell ⟨gb280, 3, none⟩ (.string ((rd_T45 t270 x71_2).f3)))) = World.drewN (((((w73.setCell ⟨gb280, 0, none⟩ (.int .i64 ((rd_T45 t270 x71_2).f0))).setCell ⟨gb280, 1, none⟩ (.int .i64 ((rd_T45 t270 x71_2).f1))).setCell ⟨gb280, 2, none⟩ (.int .i64 ((rd_T45 t270 x71_2).f2))).setCell ⟨gb280, 3, none⟩ (.string ((rd_T45 t270 x71_2).f3)))) n_ from by simp only [Go.Proofs.Ytjdpifafijcpbaa.Slc.setCell_drewN])); (try have hy281_0 := fun (n_ : Nat) => Go.Proofs.Ytjdpifafijcpbaa.Slc.cell_of (hch_ n_) hx281_0); (try have hy281_1 := fun (n_ : Nat) => Go.Proofs.Ytjdpifafijcpbaa.Slc.cell_of (hch_ n_) hx281_1); (try have hy281_2 := fun (n_ : Nat) => Go.Proofs.Ytjdpifafijcpbaa.Slc.cell_of (hch_ n_) hx281_2); (try have hy281_3 := fun (n_ : Nat) => Go.Proofs.Ytjdpifafijcpbaa.Slc.cell_of (hch_ n_) hx281_3); clear hn281_0; clear hn281_1; clear hn281_2; clear hn281_3; replace p281 := eq_true p281; replace q281 := eq_true q281)); go_upto_if 84 with (first | ((with_reducible refine gate_dst (N := 17) rfl ?_); (try (refine gate_guard (by rfl) ?_; dsimp only)); refine box_event ?hg (N := 17) ?hd (cs := #[.int .i64 0, .int .i64 0, .int .i64 0, .string (⟨#[]⟩ : ByteArray)]) (t := 45) ?hr ?_; (case hd => rfl); (case hg => rfl); (case hr => first | (go_simp; done) | (go_simp; rfl)); intro gb280 hg w73 hbox hb; have n0_ := Aside0.mk (Kd.R_below (Kd.R_elderB u10_42 gb280 (Nat.le_of_eq hg.symm)) hb); have n1_ := Aside0.mk (Kd.R_below (Kd.R_elderB u10_13 gb280 (Nat.le_of_eq hg.symm)) hb); have n2_ := Aside0.mk (blk_below (g := gb266) (o := .cells #[.int .i64 a0_0, .int .i64 a0_1, .slice A0_2 l0_2.length c0_2] 29 (0, 0)) u10_1 hb); have n3_ := Aside0.mk (blk_below (g := gb267) (o := .cells #[.int .i64 0, .int .i64 0, .slice none 0 0] 29 (0, 0)) u10_2 hb); have n4_ := Aside0.mk (blk_below (g := gb273) (o := .cells #[.int .i64 t268, .int .i64 (wrap64 (t269 + 1)), .slice (some ad279) t270.length co17] 29 (0, 0)) u10_5 hb); have n5_ := Aside0.mk (blk_below (g := gb276) (o := .cells #[.int .i64 a1, .int .i64 a2, .int .i64 (wrap64 (t269 + 1)), .string a3] 45 (0, 0)) u10_4 hb); have n6_ := Aside0.mk (below_step u10_0 hb); have n7_ := Aside0.mk (hbox); have n8_ := Aside0.mk ((by rw [hg]; exact (below_size u10_0) : w.heap.size ≤ gb280)); have n9_ := Aside0.mk ((by rw [hg]; exact (below_size u10_0) : w.heap.size ≤ gb280)); have n10_ := Aside0.mk ((by rw [hg]; exact Nat.ne_of_lt (blk_lt (g := gb266) (o := .cells #[.int .i64 a0_0, .int .i64 a0_1, .slice A0_2 l0_2.length c0_2] 29 (0, 0)) u10_1) : gb266 ≠ gb280)); have n11_ := Aside0.mk ((by rw [hg]; exact Nat.ne_of_gt (blk_lt (g := gb266) (o := .cells #[.int .i64 a0_0, .int .i64 a0_1, .slice A0_2 l0_2.length c0_2] 29 (0, 0)) u10_1) : gb280 ≠ gb266)); have n12_ := Aside0.mk ((by rw [hg]; exact Nat.ne_of_lt (blk_lt (g := gb267) (o := .cells #[.int .i64 0, .int .i64 0, .slice none 0 0] 29 (0, 0)) u10_2) : gb267 ≠ gb280)); have n13_ := Aside0.mk ((by rw [hg]; exact Nat.ne_of_gt (blk_lt (g := gb267) (o := .cells #[.int .i64 0, .int .i64 0, .slice none 0 0] 29 (0, 0)) u10_2) : gb280 ≠ gb267)); have n14_ := Aside0.mk ((by rw [hg]; exact Nat.ne_of_lt (blk_lt (g := gb273) (o := .cells #[.int .i64 t268, .int .i64 (wrap64 (t269 + 1)), .slice (some ad279) t270.length co17] 29 (0, 0)) u10_5) : gb273 ≠ gb280)); have n15_ := Aside0.mk ((by rw [hg]; exact Nat.ne_of_gt (blk_lt (g := gb273) (o := .cells #[.int .i64 t268, .int .i64 (wrap64 (t269 + 1)), .slice (some ad279) t270.length co17] 29 (0, 0)) u10_5) : gb280 ≠ gb273)); have n16_ := Aside0.mk ((by rw [hg]; exact Nat.ne_of_lt (blk_lt (g := gb276) (o := .cells #[.int .i64 a1, .int .i64 a2, .int .i64 (wrap64 (t269 + 1)), .string a3] 45 (0, 0)) u10_4) : gb276 ≠ gb280)); have n17_ := Aside0.mk ((by rw [hg]; exact Nat.ne_of_gt (blk_lt (g := gb276) (o := .cells #[.int .i64 a1, .int .i64 a2, .int .i64 (wrap64 (t269 + 1)), .string a3] 45 (0, 0)) u10_4) : gb280 ≠ gb276)); clear HO_69; clear HO_274002; clear BK266; clear BK267; clear BK273; clear BK276; clear HB; have HO_69 := n0_; have HO_274002 := n1_; have BK266 := n2_; have BK267 := n3_; have BK273 := n4_; have BK276 := n5_; have HB := n6_; have BK280 := n7_; have GW280 := n8_; have GE280 := n9_; have NB266_280 := n10_; have NB280_266 := n11_; have NB267_280 := n12_; have NB280_267 := n13_; have NB273_280 := n14_; have NB280_273 := n15_; have NB276_280 := n16_; have NB280_276 := n17_; clear n0_ n1_ n2_ n3_ n4_ n5_ n6_ n7_ n8_ n9_ n10_ n11_ n12_ n13_ n14_ n15_ n16_ n17_; clear hb hbox hg; have hnb74 := NB280_266.out; have hnc74 := NB266_280.out; have hnb75 := NB280_267.out; have hnc75 := NB267_280.out; have hnb76 := NB280_273.out; have hnc76 := NB273_280.out; have hnb77 := NB280_276.out; have hnc77 := NB276_280.out; have hcz78_0 : w73.cell? ⟨gb280, 0, none⟩ = some (.int .i64 0) := (blk_cell BK280.out 0).trans rfl; have hcz78_1 : w73.cell? ⟨gb280, 1, none⟩ = some (.int .i64 0) := (blk_cell BK280.out 1).trans rfl; have hcz78_2 : w73.cell? ⟨gb280, 2, none⟩ = some (.int .i64 0) := (blk_cell BK280.out 2).trans rfl; have hcz78_3 : w73.cell? ⟨gb280, 3, none⟩ = some (.string (⟨#[]⟩ : ByteArray)) := (blk_cell BK280.out 3).trans rfl; have hfz78_0 := blk_frozen BK280.out 0; have hfz78_1 := blk_frozen BK280.out 1; have hfz78_2 := blk_frozen BK280.out 2; have hfz78_3 := blk_frozen BK280.out 3; have hnb79 := NB273_266.out; have hnc79 := NB266_273.out; have hnb80 := NB273_267.out; have hnc80 := NB267_273.out; have hnb81 := NB273_276.out; have hnc81 := NB276_273.out; have hcz82_0 : w73.cell? ⟨gb273, 0, none⟩ = some (.int .i64 t268) := (blk_cell BK273.out 0).trans rfl; have hcz82_1 : w73.cell? ⟨gb273, 1, none⟩ = some (.int .i64 (wrap64 (t269 + 1))) := (blk_cell BK273.out 1).trans rfl; have hcz82_2 : w73.cell? ⟨gb273, 2, none⟩ = some (.slice (some ad279) t270.length co17) := (blk_cell BK273.out 2).trans rfl; have hfz82_0 := blk_frozen BK273.out 0; have hfz82_1 := blk_frozen BK273.out 1; have hfz82_2 := blk_frozen BK273.out 2; have p281 : 0 ≤ (x15_2 : Int) := of_decide_eq_true u10_25; have q281 : x15_2 < (t270.length : Int) := of_decide_eq_true u10_25; obtain ⟨ad281, e281, hx281_0, hx281_1, hx281_2, hx281_3⟩ := at_T45 (Kd.R_reads' HO_274002.out).2.2 x15_2 p281 q281; obtain rfl : ad279 = ad281 := (by injection e281); have hn281_0 : ad279.block ≠ gb280 := u10_11; have hn281_1 : ad279.block ≠ gb280 := u10_11; have hn281_2 : ad279.block ≠ gb280 := u10_11; have hn281_3 : ad279.block ≠ gb280 := u10_11; replace hx281_0 := (cell_far (p := ⟨gb280, 0, none⟩) u10_19 (.int .i64 ((rd_T45 t270 x71_2).f0))).trans hx281_0; replace hx281_1 := (cell_far (p := ⟨gb280, 0, none⟩) u10_19 (.int .i64 ((rd_T45 t270 x71_2).f0))).trans hx281_1; replace hx281_2 := (cell_far (p := ⟨gb280, 0, none⟩) u10_19 (.int .i64 ((rd_T45 t270 x71_2).f0))).trans hx281_2; replace hx281_3 := (cell_far (p := ⟨gb280, 0, none⟩) u10_19 (.int .i64 ((rd_T45 t270 x71_2).f0))).trans hx281_3; replace hx281_0 := (cell_far (p := ⟨gb280, 1, none⟩) u10_20 (.int .i64 ((rd_T45 t270 x71_2).f1))).trans hx281_0; replace hx281_1 := (cell_far (p := ⟨gb280, 1, none⟩) u10_20 (.int .i64 ((rd_T45 t270 x71_2).f1))).trans hx281_1; replace hx281_2 := (cell_far (p := ⟨gb280, 1, none⟩) u10_20 (.int .i64 ((rd_T45 t270 x71_2).f1))).trans hx281_2; replace hx281_3 := (cell_far (p := ⟨gb280, 1, none⟩) u10_20 (.int .i64 ((rd_T45 t270 x71_2).f1))).trans hx281_3; replace hx281_0 := (cell_far (p := ⟨gb280, 2, none⟩) u10_21 (.int .i64 ((rd_T45 t270 x71_2).f2))).trans hx281_0; replace hx281_1 := (cell_far (p := ⟨gb280, 2, none⟩) u10_21 (.int .i64 ((rd_T45 t270 x71_2).f2))).trans hx281_1; replace hx281_2 := (cell_far (p := ⟨gb280, 2, none⟩) u10_21 (.int .i64 ((rd_T45 t270 x71_2).f2))).trans hx281_2; replace hx281_3 := (cell_far (p := ⟨gb280, 2, none⟩) u10_21 (.int .i64 ((rd_T45 t270 x71_2).f2))).trans hx281_3; replace hx281_0 := (cell_far (p := ⟨gb280, 3, none⟩) u10_22 (.string ((rd_T45 t270 x71_2).f3))).trans hx281_0; replace hx281_1 := (cell_far (p := ⟨gb280, 3, none⟩) u10_22 (.string ((rd_T45 t270 x71_2).f3))).trans hx281_1; replace hx281_2 := (cell_far (p := ⟨gb280, 3, none⟩) u10_22 (.string ((rd_T45 t270 x71_2).f3))).trans hx281_2; replace hx281_3 := (cell_far (p := ⟨gb280, 3, none⟩) u10_22 (.string ((rd_T45 t270 x71_2).f3))).trans hx281_3; (try have hch_ := fun (n_ : Nat) => (show ((((((w73.drewN n_).setCell ⟨gb280, 0, none⟩ (.int .i64 ((rd_T45 t270 x71_2).f0))).setCell ⟨gb280, 1, none⟩ (.int .i64 ((rd_T45 t270 x71_2).f1))).setCell ⟨gb280, 2, none⟩ (.int .i64 ((rd_T45 t270 x71_2).f2))).setCell ⟨gb280, 3, none⟩ (.string ((rd_T45 t270 x71_2).f3)))) = World.drewN (((((w73.setCell ⟨gb280, 0, none⟩ (.int .i64 ((rd_T45 t270 x71_2).f0))).setCell ⟨gb280, 1, none⟩ (.int .i64 ((rd_T45 t270 x71_2).f1))).setCell ⟨gb280, 2, none⟩ (.int .i64 ((rd_T45 t270 x71_2).f2))).setCell ⟨gb280, 3, none⟩ (.string ((rd_T45 t270 x71_2).f3)))) n_ from by simp only [Go.Proofs.Ytjdpifafijcpbaa.Slc.setCell_drewN])); (try have hy281_0 := fun (n_ : Nat) => Go.Proofs.Ytjdpifafijcpbaa.Slc.cell_of (hch_ n_) hx281_0); (try have hy281_1 := fun (n_ : Nat) => Go.Proofs.Ytjdpifafijcpbaa.Slc.cell_of (hch_ n_) hx281_1); (try have hy281_2 := fun (n_ : Nat) => Go.Proofs.Ytjdpifafijcpbaa.Slc.cell_of (hch_ n_) hx281_2); (try have hy281_3 := fun (n_ : Nat) => Go.Proofs.Ytjdpifafijcpbaa.Slc.cell_of (hch_ n_) hx281_3); clear hn281_0; clear hn281_1; clear hn281_2; clear hn281_3; replace p281 := eq_true p281; replace q281 := eq_true q281)))
        have H := H9.out
        clear H9
        by_cases c83 : ((rd_T45 t270 x71_2).f2) < ((rd_T45 t270 x15_2).f2)
        · rw [if_pos c83] at H
          have c83b0 : decide (((rd_T45 t270 x71_2).f2) < ((rd_T45 t270 x15_2).f2)) = true := decide_eq_true c83
          clear c83
          (first | rw [c83b0] | (simp only [i64_w, i32_w]; rw [c83b0]) | skip)
          have H' := Aside0.mk H
          clear H
          go_wp2
          repeat (go_quiet (fail); try go_wp2)
          go_roundg k2
          case measure => have := HJ6.out; have := HK2.out; omega
          case rel => exact ⟨(x71_2), (wrap64 (x71_2 + 1)), u10_37, u10_37, H', ⟨(by have := HJ6.out; have := HK2.out; omega)⟩, ⟨u10_34⟩, ⟨u10_33⟩, ⟨u10_29⟩, ⟨u10_30⟩, ⟨u10_31⟩, ⟨u10_32⟩, ⟨u10_39⟩⟩
        rw [if_neg c83] at H
        have c83b0 : decide (((rd_T45 t270 x71_2).f2) < ((rd_T45 t270 x15_2).f2)) = false := decide_eq_false c83
        clear c83
        (first | rw [c83b0] | (simp only [i64_w, i32_w]; rw [c83b0]) | skip)
        have H' := Aside0.mk H
        clear H
        go_wp2
        repeat (go_quiet (fail); try go_wp2)
        go_roundg k2
        case measure => have := HJ6.out; have := HK2.out; omega
        case rel => exact ⟨(x15_2), (wrap64 (x71_2 + 1)), u10_37, u10_37, H', ⟨(by have := HJ6.out; have := HK2.out; omega)⟩, ⟨u10_34⟩, ⟨u10_33⟩, ⟨u10_29⟩, ⟨u10_30⟩, ⟨u10_31⟩, ⟨u10_32⟩, ⟨u10_39⟩⟩
    clear HC58
    try clear c1
    try clear c2
    try clear p2
    try clear q2
    try clear hx2
    try clear c3
    try clear c4
    try clear p4
    try clear q4
    try clear hx4
    try clear hf4
    try clear c5
    try clear hx5
    try clear hf5
    try clear c6
    try clear p6
    try clear c7
    try clear c8
    try clear c10
    try clear c14
    try clear c15
    try clear c20
    try clear c20b0
    try clear c20b1
    try clear c21
    try clear c21b0
    try clear c21b1
    try clear c22
    try clear c23
    try clear c25
    try clear c26
    try clear c27
    try clear p27
    try clear q27
    try clear hx27
    try clear p28
    try clear q28
    try clear hx28
    try clear c29
    try clear c32
    try clear c33
    try clear c34
    try clear c36
    try clear c37
    try clear c38
    try clear c42
    try clear c42b0
    try clear c43
    try clear c43b0
    try clear c44
    try clear c44b0
    try clear c45
    try clear p45
    try clear q45
    try clear hx45
    try clear hf45
    try clear c46
    try clear c47
    try clear c48
    try clear c50
    try clear c51
    try clear c53
    try clear hx53
    try clear hf53
    try clear c56
    try clear c59
    try clear c60
    try clear c61
    try clear c63
    try clear c63b0
    try clear c63b1
    try clear c64
    try clear p64
    try clear c65
    try clear c66
    try clear c68
    try clear c68b0
    try clear c69
    try clear c69b0
    try clear c70
    try clear c70b0
    try clear c71
    try clear c71b0
    try clear c72
    try clear c72b0
    try clear c74
    try clear c75
    try clear c76
    try clear c77
    try clear c79
    try clear c80
    try clear c81
    try clear c83
    try clear c83b0
    try clear c85
    try clear c86
    try clear c87
    try clear hcz11_0
    try clear hcz11_1
    try clear hcz11_2
    try clear hcz16_0
    try clear hcz16_1
    try clear hcz16_2
    try clear hcz18_0
    try clear hcz18_1
    try clear hcz18_2
    try clear hcz24_0
    try clear hcz24_1
    try clear hcz24_2
    try clear hcz28_0
    try clear hcz28_1
    try clear hcz28_2
    try clear hcz30_0
    try clear hcz30_1
    try clear hcz30_2
    try clear hcz34_0
    try clear hcz34_1
    try clear hcz34_2
    try clear hcz39_0
    try clear hcz39_1
    try clear hcz39_2
    try clear hcz39_3
    try clear hcz40_0
    try clear hcz40_1
    try clear hcz40_2
    try clear hcz49_0
    try clear hcz49_1
    try clear hcz49_2
    try clear hcz52_0
    try clear hcz52_1
    try clear hcz52_2
    try clear hcz52_3
    try clear hcz55_0
    try clear hcz55_1
    try clear hcz55_2
    try clear hcz57_0
    try clear hcz57_1
    try clear hcz57_2
    try clear hcz62_0
    try clear hcz62_1
    try clear hcz62_2
    try clear hcz67_0
    try clear hcz67_1
    try clear hcz67_2
    try clear hcz78_0
    try clear hcz78_1
    try clear hcz78_2
    try clear hcz78_3
    try clear hcz82_0
    try clear hcz82_1
    try clear hcz82_2
    try clear hcz88_0
    try clear hcz88_1
    try clear hcz88_2
    try clear hcz91_0
    try clear hcz91_1
    try clear hcz91_2
    try clear hfz11_0
    try clear hfz11_1
    try clear hfz11_2
    try clear hfz16_0
    try clear hfz16_1
    try clear hfz16_2
    try clear hfz18_0
    try clear hfz18_1
    try clear hfz18_2
    try clear hfz24_0
    try clear hfz24_1
    try clear hfz24_2
    try clear hfz28_0
    try clear hfz28_1
    try clear hfz28_2
    try clear hfz30_0
    try clear hfz30_1
    try clear hfz30_2
    try clear hfz34_0
    try clear hfz34_1
    try clear hfz34_2
    try clear hfz39_0
    try clear hfz39_1
    try clear hfz39_2
    try clear hfz39_3
    try clear hfz40_0
    try clear hfz40_1
    try clear hfz40_2
    try clear hfz49_0
    try clear hfz49_1
    try clear hfz49_2
    try clear hfz52_0
    try clear hfz52_1
    try clear hfz52_2
    try clear hfz52_3
    try clear hfz55_0
    try clear hfz55_1
    try clear hfz55_2
    try clear hfz57_0
    try clear hfz57_1
    try clear hfz57_2
    try clear hfz62_0
    try clear hfz62_1
    try clear hfz62_2
    try clear hfz67_0
    try clear hfz67_1
    try clear hfz67_2
    try clear hfz78_0
    try clear hfz78_1
    try clear hfz78_2
    try clear hfz78_3
    try clear hfz82_0
    try clear hfz82_1
    try clear hfz82_2
    try clear hfz88_0
    try clear hfz88_1
    try clear hfz88_2
    try clear hfz91_0
    try clear hfz91_1
    try clear hfz91_2
    try clear hx279_0
    try clear hx279_1
    try clear hx279_2
    try clear hx279_3
    try clear hx281_0
    try clear hx281_1
    try clear hx281_2
    try clear hx281_3
    try clear hx45_0
    try clear hx45_1
    try clear hx45_2
    try clear hx45_3
    try clear hx53_0
    try clear hx53_1
    try clear hx53_2
    try clear hx53_3
    try clear p2
    try clear p279
    try clear p281
    try clear p4
    try clear p45
    try clear p6
    try clear p64
    try clear q279
    try clear q281
    try clear q4
    try clear q45
    obtain ⟨kq, x274002_57, u274002, HA, HJ57, HO_274002, BK266, BK267, BK273, BK276, HB⟩ := hcut
    cases kq with
    | zero => exact absurd HA.out (by simp [impl_keep.j2])
    | succ kj57 =>
      have H := HA.out
      clear HA
      simp only [impl_keep.j2] at H
      have H' := Aside0.mk H
      clear H
      go_wp2
      repeat (go_quiet (fail); try go_wp2)
      go_loopg [18] kj57 (fun kq v18 w' => ∃ (x18_3 : Int), v18 = .int .i64 x18_3 ∧ Aside0 (impl_keep.l1 kq a1 x18_3 t268 (wrap64 (t269 + 1)) x274002_57 a1 a2 (wrap64 (t269 + 1)) a3 = some (r1, r2, r3, r4)) ∧ Aside0 (kq ≤ kj57) ∧ Aside0 (Kd.R k45 45 w' w.heap.size (fun k_ => k_ ≠ gb276) u274002 x274002_57) ∧ Aside0 (w'.heap[gb266]? = some (.cells #[.int .i64 a0_0, .int .i64 a0_1, (.slice A0_2 l0_2.length c0_2)] 29 (0, 0))) ∧ Aside0 (w'.heap[gb267]? = some (.cells #[.int .i64 0, .int .i64 0, (.slice none 0 0)] 29 (0, 0))) ∧ Aside0 (w'.heap[gb273]? = some (.cells #[.int .i64 t268, .int .i64 (wrap64 (t269 + 1)), u274002] 29 (0, 0))) ∧ Aside0 (w'.heap[gb276]? = some (.cells #[.int .i64 a1, .int .i64 a2, .int .i64 (wrap64 (t269 + 1)), .string a3] 45 (0, 0))) ∧ Aside0 (Below w.heap.size w w'))
      case atStart => exact ⟨(0), u10_37, H', ⟨Nat.le_refl _⟩, ⟨u10_13⟩, ⟨u10_1⟩, ⟨u10_2⟩, ⟨u10_5⟩, ⟨u10_4⟩, ⟨u10_0⟩⟩
      clear H'
      try clear c1
      try clear c2
      try clear p2
      try clear q2
      try clear hx2
      try clear c3
      try clear c4
      try clear p4
      try clear q4
      try clear hx4
      try clear hf4
      try clear c5
      try clear hx5
      try clear hf5
      try clear c6
      try clear p6
      try clear c7
      try clear c8
      try clear c10
      try clear c14
      try clear c15
      try clear c20
      try clear c20b0
      try clear c20b1
      try clear c21
      try clear c21b0
      try clear c21b1
      try clear c22
      try clear c23
      try clear c25
      try clear c26
      try clear c27
      try clear p27
      try clear q27
      try clear hx27
      try clear p28
      try clear q28
      try clear hx28
      try clear c29
      try clear c32
      try clear c33
      try clear c34
      try clear c36
      try clear c37
      try clear c38
      try clear c42
      try clear c42b0
      try clear c43
      try clear c43b0
      try clear c44
      try clear c44b0
      try clear c45
      try clear p45
      try clear q45
      try clear hx45
      try clear hf45
      try clear c46
      try clear c47
      try clear c48
      try clear c50
      try clear c51
      try clear c53
      try clear hx53
      try clear hf53
      try clear c56
      try clear c59
      try clear c60
      try clear c61
      try clear c63
      try clear c63b0
      try clear c63b1
      try clear c64
      try clear p64
      try clear c65
      try clear c66
      try clear c68
      try clear c68b0
      try clear c69
      try clear c69b0
      try clear c70
      try clear c70b0
      try clear c71
      try clear c71b0
      try clear c72
      try clear c72b0
      try clear c74
      try clear c75
      try clear c76
      try clear c77
      try clear c79
      try clear c80
      try clear c81
      try clear c83
      try clear c83b0
      try clear c85
      try clear c86
      try clear c87
      try clear hcz11_0
      try clear hcz11_1
      try clear hcz11_2
      try clear hcz16_0
      try clear hcz16_1
      try clear hcz16_2
      try clear hcz18_0
      try clear hcz18_1
      try clear hcz18_2
      try clear hcz24_0
      try clear hcz24_1
      try clear hcz24_2
      try clear hcz28_0
      try clear hcz28_1
      try clear hcz28_2
      try clear hcz30_0
      try clear hcz30_1
      try clear hcz30_2
      try clear hcz34_0
      try clear hcz34_1
      try clear hcz34_2
      try clear hcz39_0
      try clear hcz39_1
      try clear hcz39_2
      try clear hcz39_3
      try clear hcz40_0
      try clear hcz40_1
      try clear hcz40_2
      try clear hcz49_0
      try clear hcz49_1
      try clear hcz49_2
      try clear hcz52_0
      try clear hcz52_1
      try clear hcz52_2
      try clear hcz52_3
      try clear hcz55_0
      try clear hcz55_1
      try clear hcz55_2
      try clear hcz57_0
      try clear hcz57_1
      try clear hcz57_2
      try clear hcz62_0
      try clear hcz62_1
      try clear hcz62_2
      try clear hcz67_0
      try clear hcz67_1
      try clear hcz67_2
      try clear hcz78_0
      try clear hcz78_1
      try clear hcz78_2
      try clear hcz78_3
      try clear hcz82_0
      try clear hcz82_1
      try clear hcz82_2
      try clear hcz88_0
      try clear hcz88_1
      try clear hcz88_2
      try clear hcz91_0
      try clear hcz91_1
      try clear hcz91_2
      try clear hfz11_0
      try clear hfz11_1
      try clear hfz11_2
      try clear hfz16_0
      try clear hfz16_1
      try clear hfz16_2
      try clear hfz18_0
      try clear hfz18_1
      try clear hfz18_2
      try clear hfz24_0
      try clear hfz24_1
      try clear hfz24_2
      try clear hfz28_0
      try clear hfz28_1
      try clear hfz28_2
      try clear hfz30_0
      try clear hfz30_1
      try clear hfz30_2
      try clear hfz34_0
      try clear hfz34_1
      try clear hfz34_2
      try clear hfz39_0
      try clear hfz39_1
      try clear hfz39_2
      try clear hfz39_3
      try clear hfz40_0
      try clear hfz40_1
      try clear hfz40_2
      try clear hfz49_0
      try clear hfz49_1
      try clear hfz49_2
      try clear hfz52_0
      try clear hfz52_1
      try clear hfz52_2
      try clear hfz52_3
      try clear hfz55_0
      try clear hfz55_1
      try clear hfz55_2
      try clear hfz57_0
      try clear hfz57_1
      try clear hfz57_2
      try clear hfz62_0
      try clear hfz62_1
      try clear hfz62_2
      try clear hfz67_0
      try clear hfz67_1
      try clear hfz67_2
      try clear hfz78_0
      try clear hfz78_1
      try clear hfz78_2
      try clear hfz78_3
      try clear hfz82_0
      try clear hfz82_1
      try clear hfz82_2
      try clear hfz88_0
      try clear hfz88_1
      try clear hfz88_2
      try clear hfz91_0
      try clear hfz91_1
      try clear hfz91_2
      try clear hx279_0
      try clear hx279_1
      try clear hx279_2
      try clear hx279_3
      try clear hx281_0
      try clear hx281_1
      try clear hx281_2
      try clear hx281_3
      try clear hx45_0
      try clear hx45_1
      try clear hx45_2
      try clear hx45_3
      try clear hx53_0
      try clear hx53_1
      try clear hx53_2
      try clear hx53_3
      try clear p2
      try clear p27
      try clear p279
      try clear p28
      try clear p281
      try clear p4
      try clear p45
      try clear p6
      try clear p64
      try clear q2
      try clear q27
      try clear q279
      try clear q28
      try clear q281
      try clear q4
      try clear q45
      obtain ⟨x18_3, rfl, HA, HK3, HO_274002, BK266, BK267, BK273, BK276, HB⟩ := hrel
      cases gk with
      | zero => exact absurd HA.out (by simp [impl_keep.l1])
      | succ k3 =>
        have H := HA.out
        clear HA
        simp only [impl_keep.l1] at H
        by_cases c92 : x18_3 < (x274002_57.length : Int)
        rotate_left
        · rw [if_neg c92] at H
          have c92b0 : decide (x18_3 < (x274002_57.length : Int)) = false := decide_eq_false c92
          clear c92
          obtain ⟨y292, hy292⟩ : ∃ y_ : List (S45), y_ = (([(⟨a1, a2, (wrap64 (t269 + 1)), a3⟩ : S45)] : List (S45))) := ⟨_, rfl⟩
          replace H : ((impl_Session_43.f x274002_57 x18_3 y292).bind fun t295 => (some (t268, (wrap64 (t269 + 1)), t295, true))) = some (r1, r2, r3, r4) := by first | (rw [hy292]; with_reducible exact H) | (have H2_ := (Option.bind_some _ _).symm.trans H; rw [hy292]; with_reducible exact H2_) | (have H2_ := (Option.bind_some _ _).symm.trans H; with_reducible exact H2_) | with_reducible exact H | (rw [hy292]; exact H) | exact H
          have Ny292 := Aside0.mk hy292
          clear hy292
          replace H := Option.bind_eq_some_iff.mp H
          obtain ⟨t295, A1160, H⟩ := H
          replace H : (some (t268, (wrap64 (t269 + 1)), t295, true)) = some (r1, r2, r3, r4) := H
          have A116 := Aside0.mk A1160
          clear A1160
          simp only [Option.some.injEq, Prod.mk.injEq] at H
          obtain ⟨rfl, rfl, rfl, rfl⟩ := H
          have hnb117 := NB273_266.out
          have hnc117 := NB266_273.out
          have hnb118 := NB273_267.out
          have hnc118 := NB267_273.out
          have hnb119 := NB273_276.out
          have hnc119 := NB276_273.out
          have hcz120_0 : wr.cell? ⟨gb273, 0, none⟩ = some (.int .i64 t268) := (blk_cell BK273.out 0).trans rfl
          have hcz120_1 : wr.cell? ⟨gb273, 1, none⟩ = some (.int .i64 (wrap64 (t269 + 1))) := (blk_cell BK273.out 1).trans rfl
          have hcz120_2 : wr.cell? ⟨gb273, 2, none⟩ = some (u274002) := (blk_cell BK273.out 2).trans rfl
          have hfz120_0 := blk_frozen BK273.out 0
          have hfz120_1 := blk_frozen BK273.out 1
          have hfz120_2 := blk_frozen BK273.out 2
          obtain ⟨Ao121, co121, eo121⟩ := Kd.R_slice HO_274002.out
          subst eo121
          have hnb122 := NB276_266.out
          have hnc122 := NB266_276.out
          have hnb123 := NB276_267.out
          have hnc123 := NB267_276.out
          have hcz124_0 : wr.cell? ⟨gb276, 0, none⟩ = some (.int .i64 a1) := (blk_cell BK276.out 0).trans rfl
          have hcz124_1 : wr.cell? ⟨gb276, 1, none⟩ = some (.int .i64 a2) := (blk_cell BK276.out 1).trans rfl
          have hcz124_2 : wr.cell? ⟨gb276, 2, none⟩ = some (.int .i64 (wrap64 (t269 + 1))) := (blk_cell BK276.out 2).trans rfl
          have hcz124_3 : wr.cell? ⟨gb276, 3, none⟩ = some (.string a3) := (blk_cell BK276.out 3).trans rfl
          have hfz124_0 := blk_frozen BK276.out 0
          have hfz124_1 := blk_frozen BK276.out 1
          have hfz124_2 := blk_frozen BK276.out 2
          have hfz124_3 := blk_frozen BK276.out 3
          go_wp2_with (first | ((with_reducible refine gate_dst (N := 115) rfl ?_); (try (refine gate_guard (by rfl) ?_; dsimp only)); refine Kd.R_lit k45 _ 45 ?hg (N := 115) ?hd (xs := ([(⟨a1, a2, (wrap64 (t269 + 1)), a3⟩ : S45)] : List (S45))) (inner := [.int .i64 a1, .int .i64 a2, .int .i64 (wrap64 (t269 + 1)), .string a3]) (ok := fun _ => True) (okp := fun _ => True) ?hr ?hp (fun _ hk => hk) trivial (Below.refl _ _) (Nat.le_refl _) (by simp) ?_; (case hd => rfl); (case hg => rfl); (case hr => first | (go_simp; done) | (go_simp; rfl)); (case hp => exact (Reps.c4 (show Kd.M k45 _ _ _ (⟨a1, a2, (wrap64 (t269 + 1)), a3⟩ : S45) [.int .i64 a1, .int .i64 a2, .int .i64 (wrap64 (t269 + 1)), .string a3] from (k45_mkM _ _ _ (⟨a1, a2, (wrap64 (t269 + 1)), a3⟩ : S45) )) (Reps.none _ _))); intro v293 w125 ho126 hb hg_ hnew_; clear hg_ hnew_; (first | rw [← Ny292.out] at ho126 | (simp only [Int.reduceToNat] at ho126; rw [← Ny292.out] at ho126)); have n0_ := Aside0.mk (Kd.R_elder' u10_13 (Kd.R_base ho126) hb); have n1_ := Aside0.mk (Kd.R_lower (Kd.R_newB (Kd.R_new' ho126 (Kd.R_lt u10_13)) (g := gb276) (o := .cells #[.int .i64 a1, .int .i64 a2, .int .i64 (wrap64 (t269 + 1)), .string a3] 45 (0, 0)) u10_4) (below_size u10_0)); have n2_ := Aside0.mk (blk_below (g := gb266) (o := .cells #[.int .i64 a0_0, .int .i64 a0_1, .slice A0_2 l0_2.length c0_2] 29 (0, 0)) u10_1 hb); have n3_ := Aside0.mk (blk_below (g := gb267) (o := .cells #[.int .i64 0, .int .i64 0, .slice none 0 0] 29 (0, 0)) u10_2 hb); have n4_ := Aside0.mk (blk_below (g := gb273) (o := .cells #[.int .i64 t268, .int .i64 (wrap64 (t269 + 1)), .slice Ao121 x274002_57.length co121] 29 (0, 0)) u10_5 hb); have n5_ := Aside0.mk (blk_below (g := gb276) (o := .cells #[.int .i64 a1, .int .i64 a2, .int .i64 (wrap64 (t269 + 1)), .string a3] 45 (0, 0)) u10_4 hb); have n6_ := Aside0.mk (below_step u10_0 hb); clear HO_274002; clear BK266; clear BK267; clear BK273; clear BK276; clear HB; have HO_274002 := n0_; have HO294 := n1_; have BK266 := n2_; have BK267 := n3_; have BK273 := n4_; have BK276 := n5_; have HB := n6_; clear n0_ n1_ n2_ n3_ n4_ n5_ n6_; clear hb ho126; obtain ⟨Ao127, co127, eo127⟩ := Kd.R_slice HO294.out; subst eo127) | (go_at_call 43; (with_reducible refine (impl_Session_43.calls (fun k_ => some k_ = (.slice Ao121 x274002_57.length co121 : Value).ownBlock) (.slice Ao121 x274002_57.length co121) x274002_57 x18_3 (fun k_ => some k_ = (.slice Ao127 y292.length co127 : Value).ownBlock) (.slice Ao127 y292.length co127) y292 t295 w _ ?side1 ?side2 ?side3 ?side4 ?side5 A116.out).mono ?_); (case side1 => exact u10_0); (case side2 => exact Kd.R_tight rfl HO_274002.out); (case side3 => exact fun k_ e_ => (HO_274002.out.1 k_ e_.symm).2); (case side4 => exact Kd.R_tight rfl HO294.out); (case side5 => exact fun k_ e_ => (HO294.out.1 k_ e_.symm).1.2); rintro e w128 ⟨v296, rfl, ho0, hb, hkp⟩; have n0_ := Aside0.mk (blk_kept u10_1 hkp (fun hs_ => Or.elim hs_ (fun e_ => (fun e_ => (Kd.R_ne HO_274002.out BK266.out (by decide)) e_) e_) (fun e_ => (fun e_ => (Kd.R_ne HO294.out BK266.out (by decide)) e_) e_))); have n1_ := Aside0.mk (blk_kept u10_2 hkp (fun hs_ => Or.elim hs_ (fun e_ => (fun e_ => (Kd.R_ne HO_274002.out BK267.out (by decide)) e_) e_) (fun e_ => (fun e_ => (Kd.R_ne HO294.out BK267.out (by decide)) e_) e_))); have n2_ := Aside0.mk (blk_kept u10_5 hkp (fun hs_ => Or.elim hs_ (fun e_ => (fun e_ => (Kd.R_ne HO_274002.out BK273.out (by decide)) e_) e_) (fun e_ => (fun e_ => (Kd.R_ne HO294.out BK273.out (by decide)) e_) e_))); have n3_ := Aside0.mk (blk_kept u10_4 hkp (fun hs_ => Or.elim hs_ (fun e_ => (fun e_ => (Kd.R_away HO_274002.out (fun _ hk => hk.1)) e_) e_) (fun e_ => (fun e_ => (Kd.R_away HO294.out (fun _ hk => hk.2)) e_) e_))); have n4_ := Aside0.mk (Kd.R_mono (ok' := fun k_ => k_ ≠ gb276) ho0 (fun k_ hk_ => Or.elim hk_ (fun hs_ => Or.elim hs_ (fun hs_ => fun e_ => (Kd.R_away HO_274002.out (fun _ hk => hk.1)) (by rw [← e_]; exact hs_)) (fun hs_ => fun e_ => (Kd.R_away HO294.out (fun _ hk => hk.2)) (by rw [← e_]; exact hs_))) (fun hn_ => (Kd.freshB (g := gb276) (o := .cells #[.int .i64 a1, .int .i64 a2, .int .i64 (wrap64 (t269 + 1)), .string a3] 45 (0, 0)) u10_4 k_ hn_)))); have n5_ := Aside0.mk (hb); clear BK266; clear BK267; clear BK273; clear BK276; clear HB; clear HO294; clear HO_274002; have BK266 := n0_; have BK267 := n1_; have BK273 := n2_; have BK276 := n3_; have HO297 := n4_; have HB := n5_; clear n0_ n1_ n2_ n3_ n4_ n5_; (try clear hb); (try clear hkp); (try clear ho0); obtain ⟨Ao129, co129, eo129⟩ := Kd.R_slice HO297.out; subst eo129; have hcz130_0 : w128.cell? ⟨gb273, 0, none⟩ = some (.int .i64 t268) := (blk_cell BK273.out 0).trans rfl; have hcz130_1 : w128.cell? ⟨gb273, 1, none⟩ = some (.int .i64 (wrap64 (t269 + 1))) := (blk_cell BK273.out 1).trans rfl; have hcz130_2 : w128.cell? ⟨gb273, 2, none⟩ = some (.slice Ao121 x274002_57.length co121) := (blk_cell BK273.out 2).trans rfl; have hfz130_0 := blk_frozen BK273.out 0; have hfz130_1 := blk_frozen BK273.out 1; have hfz130_2 := blk_frozen BK273.out 2; have hnb131 := NB267_266.out; have hnc131 := NB266_267.out; have hcz132_0 : w128.cell? ⟨gb267, 0, none⟩ = some (.int .i64 0) := (blk_cell BK267.out 0).trans rfl; have hcz132_1 : w128.cell? ⟨gb267, 1, none⟩ = some (.int .i64 0) := (blk_cell BK267.out 1).trans rfl; have hcz132_2 : w128.cell? ⟨gb267, 2, none⟩ = some (.slice none 0 0) := (blk_cell BK267.out 2).trans rfl; have hfz132_0 := blk_frozen BK267.out 0; have hfz132_1 := blk_frozen BK267.out 1; have hfz132_2 := blk_frozen BK267.out 2))
          refine bodyPost_ret (results_ct rfl _ _ gb267 29 #[.int .i64 t268, .int .i64 (wrap64 (t269 + 1)), .slice Ao129 t295.length co129] (0, 0) _ rfl u10_27 Try.underlying29 rfl (by kernel_rfl)) rfl ?_
          exact ⟨_, by first | rfl | (simp [errW_none, errW_some] <;> rfl) | (simp [*, errW_none, errW_some] <;> rfl), (by (with_reducible repeat (first | apply Kd.R_alloc | apply Kd.R_drewN | apply Kd.R_drew)); exact Kd.R_mono (Kd.R_far (p := ⟨gb267, 2, none⟩) (Kd.R_far (p := ⟨gb267, 1, none⟩) (Kd.R_far (p := ⟨gb267, 0, none⟩) (Kd.R_far (p := ⟨gb273, 2, none⟩) (Kd.R_types (Kd.R_types HO297.out BK273.out (by decide)) BK267.out (by decide)) (fun _ hk => hk.1.2) (.slice Ao129 t295.length co129)) (fun _ hk => hk.2) (.int .i64 t268)) (fun _ hk => hk.2) (.int .i64 (wrap64 (t269 + 1)))) (fun _ hk => hk.2) (.slice Ao129 t295.length co129)) (fun _ hk => trivial)), u10_0⟩
        rw [if_pos c92] at H
        have c92b0 : decide (x18_3 < (x274002_57.length : Int)) = true := decide_eq_true c92
        clear c92
        by_cases c93 : 0 ≤ x18_3
        rotate_left
        · rw [if_neg c93] at H
          exact absurd H (by simp)
        rw [if_pos c93] at H
        have c93b0 : decide (0 ≤ x18_3) = true := decide_eq_true c93
        clear c93
        have H9 := Aside0.mk H
        clear H
        have hnb94 := NB273_266.out
        have hnc94 := NB266_273.out
        have hnb95 := NB273_267.out
        have hnc95 := NB267_273.out
        have hnb96 := NB273_276.out
        have hnc96 := NB276_273.out
        have hcz97_0 : wr.cell? ⟨gb273, 0, none⟩ = some (.int .i64 t268) := (blk_cell BK273.out 0).trans rfl
        have hcz97_1 : wr.cell? ⟨gb273, 1, none⟩ = some (.int .i64 (wrap64 (t269 + 1))) := (blk_cell BK273.out 1).trans rfl
        have hcz97_2 : wr.cell? ⟨gb273, 2, none⟩ = some (u274002) := (blk_cell BK273.out 2).trans rfl
        have hfz97_0 := blk_frozen BK273.out 0
        have hfz97_1 := blk_frozen BK273.out 1
        have hfz97_2 := blk_frozen BK273.out 2
        obtain ⟨Ao98, co98, eo98⟩ := Kd.R_slice HO_274002.out
        subst eo98
        have p285 : 0 ≤ (x18_3 : Int) := of_decide_eq_true u10_25
        have q285 : x18_3 < (x274002_57.length : Int) := of_decide_eq_true u10_25
        obtain ⟨ad285, e285, hx285_0, hx285_1, hx285_2, hx285_3⟩ := at_T45 (Kd.R_reads' HO_274002.out).2.2 x18_3 p285 q285
        cases e285
        replace p285 := eq_true p285
        replace q285 := eq_true q285
        go_upto_if 108 with (fail)
        repeat (go_quiet (fail); go_upto_if 108 with (fail))
        have H := H9.out
        clear H9
        by_cases c99 : ((rd_T45 x274002_57 x18_3).f0) < a1
        · rw [if_pos c99] at H
          have c99b0 : decide (((rd_T45 x274002_57 x18_3).f0) < a1) = true := decide_eq_true c99
          clear c99
          (first | rw [c99b0] | (simp only [i64_w, i32_w]; rw [c99b0]) | skip)
          have H' := Aside0.mk H
          clear H
          go_wp2
          repeat (go_quiet (fail); try go_wp2)
          go_roundg k3
          case measure => have := HJ6.out; have := HJ57.out; have := HK3.out; omega
          case rel => exact ⟨(wrap64 (x18_3 + 1)), u10_37, H', ⟨(by have := HJ6.out; have := HJ57.out; have := HK3.out; omega)⟩, ⟨u10_13⟩, ⟨u10_1⟩, ⟨u10_2⟩, ⟨u10_5⟩, ⟨u10_4⟩, ⟨u10_0⟩⟩
        rw [if_neg c99] at H
        have c99b0 : decide (((rd_T45 x274002_57 x18_3).f0) < a1) = false := decide_eq_false c99
        clear c99
        (first | rw [c99b0] | (simp only [i64_w, i32_w]; rw [c99b0]) | skip)
        obtain ⟨y286, hy286⟩ : ∃ y_ : List (S45), y_ = (([(⟨a1, a2, (wrap64 (t269 + 1)), a3⟩ : S45)] : List (S45))) := ⟨_, rfl⟩
        replace H : ((impl_Session_43.f x274002_57 x18_3 y286).bind fun t289 => (some (t268, (wrap64 (t269 + 1)), t289, true))) = some (r1, r2, r3, r4) := by first | (rw [hy286]; with_reducible exact H) | (have H2_ := (Option.bind_some _ _).symm.trans H; rw [hy286]; with_reducible exact H2_) | (have H2_ := (Option.bind_some _ _).symm.trans H; with_reducible exact H2_) | with_reducible exact H | (rw [hy286]; exact H) | exact H
        have Ny286 := Aside0.mk hy286
        clear hy286
        replace H := Option.bind_eq_some_iff.mp H
        obtain ⟨t289, A1000, H⟩ := H
        replace H : (some (t268, (wrap64 (t269 + 1)), t289, true)) = some (r1, r2, r3, r4) := H
        have A100 := Aside0.mk A1000
        clear A1000
        simp only [Option.some.injEq, Prod.mk.injEq] at H
        obtain ⟨rfl, rfl, rfl, rfl⟩ := H
        have hnb101 := NB273_266.out
        have hnc101 := NB266_273.out
        have hnb102 := NB273_267.out
        have hnc102 := NB267_273.out
        have hnb103 := NB273_276.out
        have hnc103 := NB276_273.out
        have hcz104_0 : wr.cell? ⟨gb273, 0, none⟩ = some (.int .i64 t268) := (blk_cell BK273.out 0).trans rfl
        have hcz104_1 : wr.cell? ⟨gb273, 1, none⟩ = some (.int .i64 (wrap64 (t269 + 1))) := (blk_cell BK273.out 1).trans rfl
        have hcz104_2 : wr.cell? ⟨gb273, 2, none⟩ = some (.slice (some ad285) x274002_57.length co98) := (blk_cell BK273.out 2).trans rfl
        have hfz104_0 := blk_frozen BK273.out 0
        have hfz104_1 := blk_frozen BK273.out 1
        have hfz104_2 := blk_frozen BK273.out 2
        have hnb105 := NB276_266.out
        have hnc105 := NB266_276.out
        have hnb106 := NB276_267.out
        have hnc106 := NB267_276.out
        have hcz107_0 : wr.cell? ⟨gb276, 0, none⟩ = some (.int .i64 a1) := (blk_cell BK276.out 0).trans rfl
        have hcz107_1 : wr.cell? ⟨gb276, 1, none⟩ = some (.int .i64 a2) := (blk_cell BK276.out 1).trans rfl
        have hcz107_2 : wr.cell? ⟨gb276, 2, none⟩ = some (.int .i64 (wrap64 (t269 + 1))) := (blk_cell BK276.out 2).trans rfl
        have hcz107_3 : wr.cell? ⟨gb276, 3, none⟩ = some (.string a3) := (blk_cell BK276.out 3).trans rfl
        have hfz107_0 := blk_frozen BK276.out 0
        have hfz107_1 := blk_frozen BK276.out 1
        have hfz107_2 := blk_frozen BK276.out 2
        have hfz107_3 := blk_frozen BK276.out 3
        go_wp2_with (first | (first | ((with_reducible refine gate_dst (N := 115) rfl ?_); (try (refine gate_guard (by rfl) ?_; dsimp only)); refine Kd.R_lit k45 _ 45 ?hg (N := 115) ?hd (xs := ([(⟨a1, a2, (wrap64 (t269 + 1)), a3⟩ : S45)] : List (S45))) (inner := [.int .i64 a1, .int .i64 a2, .int .i64 (wrap64 (t269 + 1)), .string a3]) (ok := fun _ => True) (okp := fun _ => True) ?hr ?hp (fun _ hk => hk) trivial (Below.refl _ _) (Nat.le_refl _) (by simp) ?_; (case hd => rfl); (case hg => rfl); (case hr => first | (go_simp; done) | (go_simp; rfl)); (case hp => exact (Reps.c4 (show Kd.M k45 _ _ _ (⟨a1, a2, (wrap64 (t269 + 1)), a3⟩ : S45) [.int .i64 a1, .int .i64 a2, .int .i64 (wrap64 (t269 + 1)), .string a3] from (k45_mkM _ _ _ (⟨a1, a2, (wrap64 (t269 + 1)), a3⟩ : S45) )) (Reps.none _ _))); intro v287 w108 ho109 hb hg_ hnew_; clear hg_ hnew_; (first | rw [← Ny286.out] at ho109 | (simp only [Int.reduceToNat] at ho109; rw [← Ny286.out] at ho109)); have n0_ := Aside0.mk (Kd.R_elder' u10_13 (Kd.R_base ho109) hb); have n1_ := Aside0.mk (Kd.R_lower (Kd.R_newB (Kd.R_new' ho109 (Kd.R_lt u10_13)) (g := gb276) (o := .cells #[.int .i64 a1, .int .i64 a2, .int .i64 (wrap64 (t269 + 1)), .string a3] 45 (0, 0)) u10_4) (below_size u10_0)); have n2_ := Aside0.mk (blk_below (g := gb266) (o := .cells #[.int .i64 a0_0, .int .i64 a0_1, .slice A0_2 l0_2.length c0_2] 29 (0, 0)) u10_1 hb); have n3_ := Aside0.mk (blk_below (g := gb267) (o := .cells #[.int .i64 0, .int .i64 0, .slice none 0 0] 29 (0, 0)) u10_2 hb); have n4_ := Aside0.mk (blk_below (g := gb273) (o := .cells #[.int .i64 t268, .int .i64 (wrap64 (t269 + 1)), .slice (some ad285) x274002_57.length co98] 29 (0, 0)) u10_5 hb); have n5_ := Aside0.mk (blk_below (g := gb276) (o := .cells #[.int .i64 a1, .int .i64 a2, .int .i64 (wrap64 (t269 + 1)), .string a3] 45 (0, 0)) u10_4 hb); have n6_ := Aside0.mk (below_step u10_0 hb); clear HO_274002; clear BK266; clear BK267; clear BK273; clear BK276; clear HB; have HO_274002 := n0_; have HO288 := n1_; have BK266 := n2_; have BK267 := n3_; have BK273 := n4_; have BK276 := n5_; have HB := n6_; clear n0_ n1_ n2_ n3_ n4_ n5_ n6_; clear hb ho109; obtain ⟨Ao110, co110, eo110⟩ := Kd.R_slice HO288.out; subst eo110) | (go_at_call 43; (with_reducible refine (impl_Session_43.calls (fun k_ => some k_ = (.slice (some ad285) x274002_57.length co98 : Value).ownBlock) (.slice (some ad285) x274002_57.length co98) x274002_57 x18_3 (fun k_ => some k_ = (.slice Ao110 y286.length co110 : Value).ownBlock) (.slice Ao110 y286.length co110) y286 t289 w _ ?side1 ?side2 ?side3 ?side4 ?side5 A100.out).mono ?_); (case side1 => exact u10_0); (case side2 => exact Kd.R_tight rfl HO_274002.out); (case side3 => exact fun k_ e_ => (HO_274002.out.1 k_ e_.symm).2); (case side4 => exact Kd.R_tight rfl HO288.out); (case side5 => exact fun k_ e_ => (HO288.out.1 k_ e_.symm).1.2); rintro e w111 ⟨v290, rfl, ho0, hb, hkp⟩; have n0_ := Aside0.mk (blk_kept u10_1 hkp (fun hs_ => Or.elim hs_ (fun e_ => (fun e_ => (Kd.R_ne HO_274002.out BK266.out (by decide)) e_) e_) (fun e_ => (fun e_ => (Kd.R_ne HO288.out BK266.out (by decide)) e_) e_))); have n1_ := Aside0.mk (blk_kept u10_2 hkp (fun hs_ => Or.elim hs_ (fun e_ => (fun e_ => (Kd.R_ne HO_274002.out BK267.out (by decide)) e_) e_) (fun e_ => (fun e_ => (Kd.R_ne HO288.out BK267.out (by decide)) e_) e_))); have n2_ := Aside0.mk (blk_kept u10_5 hkp (fun hs_ => Or.elim hs_ (fun e_ => (fun e_ => (Kd.R_ne HO_274002.out BK273.out (by decide)) e_) e_) (fun e_ => (fun e_ => (Kd.R_ne HO288.out BK273.out (by decide)) e_) e_))); have n3_ := Aside0.mk (blk_kept u10_4 hkp (fun hs_ => Or.elim hs_ (fun e_ => (fun e_ => (Kd.R_away HO_274002.out (fun _ hk => hk.1)) e_) e_) (fun e_ => (fun e_ => (Kd.R_away HO288.out (fun _ hk => hk.2)) e_) e_))); have n4_ := Aside0.mk (Kd.R_mono (ok' := fun k_ => k_ ≠ gb276) ho0 (fun k_ hk_ => Or.elim hk_ (fun hs_ => Or.elim hs_ (fun hs_ => fun e_ => (Kd.R_away HO_274002.out (fun _ hk => hk.1)) (by rw [← e_]; exact hs_)) (fun hs_ => fun e_ => (Kd.R_away HO288.out (fun _ hk => hk.2)) (by rw [← e_]; exact hs_))) (fun hn_ => (Kd.freshB (g := gb276) (o := .cells #[.int .i64 a1, .int .i64 a2, .int .i64 (wrap64 (t269 + 1)), .string a3] 45 (0, 0)) u10_4 k_ hn_)))); have n5_ := Aside0.mk (hb); clear BK266; clear BK267; clear BK273; clear BK276; clear HB; clear HO288; clear HO_274002; have BK266 := n0_; have BK267 := n1_; have BK273 := n2_; have BK276 := n3_; have HO291 := n4_; have HB := n5_; clear n0_ n1_ n2_ n3_ n4_ n5_; (try clear hb); (try clear hkp); (try clear ho0); obtain ⟨Ao112, co112, eo112⟩ := Kd.R_slice HO291.out; subst eo112; have hcz113_0 : w111.cell? ⟨gb273, 0, none⟩ = some (.int .i64 t268) := (blk_cell BK273.out 0).trans rfl; have hcz113_1 : w111.cell? ⟨gb273, 1, none⟩ = some (.int .i64 (wrap64 (t269 + 1))) := (blk_cell BK273.out 1).trans rfl; have hcz113_2 : w111.cell? ⟨gb273, 2, none⟩ = some (.slice (some ad285) x274002_57.length co98) := (blk_cell BK273.out 2).trans rfl; have hfz113_0 := blk_frozen BK273.out 0; have hfz113_1 := blk_frozen BK273.out 1; have hfz113_2 := blk_frozen BK273.out 2; have hnb114 := NB267_266.out; have hnc114 := NB266_267.out; have hcz115_0 : w111.cell? ⟨gb267, 0, none⟩ = some (.int .i64 0) := (blk_cell BK267.out 0).trans rfl; have hcz115_1 : w111.cell? ⟨gb267, 1, none⟩ = some (.int .i64 0) := (blk_cell BK267.out 1).trans rfl; have hcz115_2 : w111.cell? ⟨gb267, 2, none⟩ = some (.slice none 0 0) := (blk_cell BK267.out 2).trans rfl; have hfz115_0 := blk_frozen BK267.out 0; have hfz115_1 := blk_frozen BK267.out 1; have hfz115_2 := blk_frozen BK267.out 2)) | go_quiet (first | ((with_reducible refine gate_dst (N := 115) rfl ?_); (try (refine gate_guard (by rfl) ?_; dsimp only)); refine Kd.R_lit k45 _ 45 ?hg (N := 115) ?hd (xs := ([(⟨a1, a2, (wrap64 (t269 + 1)), a3⟩ : S45)] : List (S45))) (inner := [.int .i64 a1, .int .i64 a2, .int .i64 (wrap64 (t269 + 1)), .string a3]) (ok := fun _ => True) (okp := fun _ => True) ?hr ?hp (fun _ hk => hk) trivial (Below.refl _ _) (Nat.le_refl _) (by simp) ?_; (case hd => rfl); (case hg => rfl); (case hr => first | (go_simp; done) | (go_simp; rfl)); (case hp => exact (Reps.c4 (show Kd.M k45 _ _ _ (⟨a1, a2, (wrap64 (t269 + 1)), a3⟩ : S45) [.int .i64 a1, .int .i64 a2, .int .i64 (wrap64 (t269 + 1)), .string a3] from (k45_mkM _ _ _ (⟨a1, a2, (wrap64 (t269 + 1)), a3⟩ : S45) )) (Reps.none _ _))); intro v287 w108 ho109 hb hg_ hnew_; clear hg_ hnew_; (first | rw [← Ny286.out] at ho109 | (simp only [Int.reduceToNat] at ho109; rw [← Ny286.out] at ho109)); have n0_ := Aside0.mk (Kd.R_elder' u10_13 (Kd.R_base ho109) hb); have n1_ := Aside0.mk (Kd.R_lower (Kd.R_newB (Kd.R_new' ho109 (Kd.R_lt u10_13)) (g := gb276) (o := .cells #[.int .i64 a1, .int .i64 a2, .int .i64 (wrap64 (t269 + 1)), .string a3] 45 (0, 0)) u10_4) (below_size u10_0)); have n2_ := Aside0.mk (blk_below (g := gb266) (o := .cells #[.int .i64 a0_0, .int .i64 a0_1, .slice A0_2 l0_2.length c0_2] 29 (0, 0)) u10_1 hb); have n3_ := Aside0.mk (blk_below (g := gb267) (o := .cells #[.int .i64 0, .int .i64 0, .slice none 0 0] 29 (0, 0)) u10_2 hb); have n4_ := Aside0.mk (blk_below (g := gb273) (o := .cells #[.int .i64 t268, .int .i64 (wrap64 (t269 + 1)), .slice (some ad285) x274002_57.length co98] 29 (0, 0)) u10_5 hb); have n5_ := Aside0.mk (blk_below (g := gb276) (o := .cells #[.int .i64 a1, .int .i64 a2, .int .i64 (wrap64 (t269 + 1)), .string a3] 45 (0, 0)) u10_4 hb); have n6_ := Aside0.mk (below_step u10_0 hb); clear HO_274002; clear BK266; clear BK267; clear BK273; clear BK276; clear HB; have HO_274002 := n0_; have HO288 := n1_; have BK266 := n2_; have BK267 := n3_; have BK273 := n4_; have BK276 := n5_; have HB := n6_; clear n0_ n1_ n2_ n3_ n4_ n5_ n6_; clear hb ho109; obtain ⟨Ao110, co110, eo110⟩ := Kd.R_slice HO288.out; subst eo110) | (go_at_call 43; (with_reducible refine (impl_Session_43.calls (fun k_ => some k_ = (.slice (some ad285) x274002_57.length co98 : Value).ownBlock) (.slice (some ad285) x274002_57.length co98) x274002_57 x18_3 (fun k_ => some k_ = (.slice Ao110 y286.length co110 : Value).ownBlock) (.slice Ao110 y286.length co110) y286 t289 w _ ?side1 ?side2 ?side3 ?side4 ?side5 A100.out).mono ?_); (case side1 => exact u10_0); (case side2 => exact Kd.R_tight rfl HO_274002.out); (case side3 => exact fun k_ e_ => (HO_274002.out.1 k_ e_.symm).2); (case side4 => exact Kd.R_tight rfl HO288.out); (case side5 => exact fun k_ e_ => (HO288.out.1 k_ e_.symm).1.2); rintro e w111 ⟨v290, rfl, ho0, hb, hkp⟩; have n0_ := Aside0.mk (blk_kept u10_1 hkp (fun hs_ => Or.elim hs_ (fun e_ => (fun e_ => (Kd.R_ne HO_274002.out BK266.out (by decide)) e_) e_) (fun e_ => (fun e_ => (Kd.R_ne HO288.out BK266.out (by decide)) e_) e_))); have n1_ := Aside0.mk (blk_kept u10_2 hkp (fun hs_ => Or.elim hs_ (fun e_ => (fun e_ => (Kd.R_ne HO_274002.out BK267.out (by decide)) e_) e_) (fun e_ => (fun e_ => (Kd.R_ne HO288.out BK267.out (by decide)) e_) e_))); have n2_ := Aside0.mk (blk_kept u10_5 hkp (fun hs_ => Or.elim hs_ (fun e_ => (fun e_ => (Kd.R_ne HO_274002.out BK273.out (by decide)) e_) e_) (fun e_ => (fun e_ => (Kd.R_ne HO288.out BK273.out (by decide)) e_) e_))); have n3_ := Aside0.mk (blk_kept u10_4 hkp (fun hs_ => Or.elim hs_ (fun e_ => (fun e_ => (Kd.R_away HO_274002.out (fun _ hk => hk.1)) e_) e_) (fun e_ => (fun e_ => (Kd.R_away HO288.out (fun _ hk => hk.2)) e_) e_))); have n4_ := Aside0.mk (Kd.R_mono (ok' := fun k_ => k_ ≠ gb276) ho0 (fun k_ hk_ => Or.elim hk_ (fun hs_ => Or.elim hs_ (fun hs_ => fun e_ => (Kd.R_away HO_274002.out (fun _ hk => hk.1)) (by rw [← e_]; exact hs_)) (fun hs_ => fun e_ => (Kd.R_away HO288.out (fun _ hk => hk.2)) (by rw [← e_]; exact hs_))) (fun hn_ => (Kd.freshB (g := gb276) (o := .cells #[.int .i64 a1, .int .i64 a2, .int .i64 (wrap64 (t269 + 1)), .string a3] 45 (0, 0)) u10_4 k_ hn_)))); have n5_ := Aside0.mk (hb); clear BK266; clear BK267; clear BK273; clear BK276; clear HB; clear HO288; clear HO_274002; have BK266 := n0_; have BK267 := n1_; have BK273 := n2_; have BK276 := n3_; have HO291 := n4_; have HB := n5_; clear n0_ n1_ n2_ n3_ n4_ n5_; (try clear hb); (try clear hkp); (try clear ho0); obtain ⟨Ao112, co112, eo112⟩ := Kd.R_slice HO291.out; subst eo112; have hcz113_0 : w111.cell? ⟨gb273, 0, none⟩ = some (.int .i64 t268) := (blk_cell BK273.out 0).trans rfl; have hcz113_1 : w111.cell? ⟨gb273, 1, none⟩ = some (.int .i64 (wrap64 (t269 + 1))) := (blk_cell BK273.out 1).trans rfl; have hcz113_2 : w111.cell? ⟨gb273, 2, none⟩ = some (.slice (some ad285) x274002_57.length co98) := (blk_cell BK273.out 2).trans rfl; have hfz113_0 := blk_frozen BK273.out 0; have hfz113_1 := blk_frozen BK273.out 1; have hfz113_2 := blk_frozen BK273.out 2; have hnb114 := NB267_266.out; have hnc114 := NB266_267.out; have hcz115_0 : w111.cell? ⟨gb267, 0, none⟩ = some (.int .i64 0) := (blk_cell BK267.out 0).trans rfl; have hcz115_1 : w111.cell? ⟨gb267, 1, none⟩ = some (.int .i64 0) := (blk_cell BK267.out 1).trans rfl; have hcz115_2 : w111.cell? ⟨gb267, 2, none⟩ = some (.slice none 0 0) := (blk_cell BK267.out 2).trans rfl; have hfz115_0 := blk_frozen BK267.out 0; have hfz115_1 := blk_frozen BK267.out 1; have hfz115_2 := blk_frozen BK267.out 2)))
        refine bodyPost_ret (results_ct rfl _ _ gb267 29 #[.int .i64 t268, .int .i64 (wrap64 (t269 + 1)), .slice Ao112 t289.length co112] (0, 0) _ rfl u10_27 Try.underlying29 rfl (by kernel_rfl)) rfl ?_
        exact ⟨_, by first | rfl | (simp [errW_none, errW_some] <;> rfl) | (simp [*, errW_none, errW_some] <;> rfl), (by (with_reducible repeat (first | apply Kd.R_alloc | apply Kd.R_drewN | apply Kd.R_drew)); exact Kd.R_mono (Kd.R_far (p := ⟨gb267, 2, none⟩) (Kd.R_far (p := ⟨gb267, 1, none⟩) (Kd.R_far (p := ⟨gb267, 0, none⟩) (Kd.R_far (p := ⟨gb273, 2, none⟩) (Kd.R_types (Kd.R_types HO291.out BK273.out (by decide)) BK267.out (by decide)) (fun _ hk => hk.1.2) (.slice Ao112 t289.length co112)) (fun _ hk => hk.2) (.int .i64 t268)) (fun _ hk => hk.2) (.int .i64 (wrap64 (t269 + 1)))) (fun _ hk => hk.2) (.slice Ao112 t289.length co112)) (fun _ hk => trivial)), u10_0⟩

end Go.Proofs.Ytjdpifafijcpbaa.QFnExactKeep
