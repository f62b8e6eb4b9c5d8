-- Printed by the session's own program wip/prx.py.
import Derived.Test.YtjdpifafijcpbaaDoorSqFnOnce
import Derived.Test.YtjdpifafijcpbaaDoorQFnOncex0
import Derived.Test.YtjdpifafijcpbaaDoorQFnOncex6
import Derived.Test.YtjdpifafijcpbaaDoorQFnOncex8
import Derived.Test.YtjdpifafijcpbaaDoorQFnOncex9
namespace Go.Proofs.YtjdpifafijcpbaaDoor.QFnOnce
open Go.RowKit Go.Proofs.YtjdpifafijcpbaaDoorW.PrintWords Go.Proofs.YtjdpifafijcpbaaDoorW.PrintLast Go.Proofs.YtjdpifafijcpbaaDoorW.PrintMore Go.Proofs.YtjdpifafijcpbaaDoor.SqFnOnce
attribute [local go_sem] max2_int min2_int max_two min_two max_three min_three max_four min_four Go.Proofs.YtjdpifafijcpbaaDoor.Set.isSome_setCell
set_option linter.unusedVariables false
set_option linter.unusedSimpArgs false

-- squeezed
theorem u10_1 {P : Prop} (h : P := by (with_reducible repeat (first | refine blk_drewN ?_ _ | refine blk_drew ?_ | refine blk_alloc ?_ _)); exact BK261.out) : P := h
theorem u10_2 {P : Prop} (h : P := by (with_reducible repeat (first | refine blk_drewN ?_ _ | refine blk_drew ?_ | refine blk_alloc ?_ _)); exact BK262.out) : P := h
theorem u10_3 {P : Prop} (h : P := by (with_reducible repeat (first | refine blk_drewN ?_ _ | refine blk_drew ?_ | refine blk_alloc ?_ _)); exact BK271.out) : P := h
theorem u10_5 {P : Prop} (h : P := by (with_reducible repeat (first | refine blk_drewN ?_ _ | refine blk_drew ?_ | refine blk_alloc ?_ _)); exact BK268.out) : P := h
theorem u10_7 {P : Prop} (h : P := by (with_reducible repeat (first | refine blk_drewN ?_ _ | refine blk_drew ?_ | refine blk_alloc ?_ _)); refine blk_put (cs := #[.int .i64 t263, .int .i64 t264, .slice Ao17 t265.length co17]) ?_ 1 _ rfl; (with_reducible repeat (first | refine blk_drewN ?_ _ | refine blk_drew ?_ | refine blk_alloc ?_ _)); exact BK268.out) : P := h
theorem u10_8 {P : Prop} (h : P := by (with_reducible repeat (first | apply Kd.R_alloc | apply Kd.R_drewN | apply Kd.R_drew)); exact (Kd.R_mono (Kd.R_far (p := ⟨gb271, 3, none⟩) (Kd.R_far (p := ⟨gb271, 2, none⟩) (Kd.R_far (p := ⟨gb271, 1, none⟩) (Kd.R_far (p := ⟨gb271, 0, none⟩) (Kd.R_mono HO_269002.out (fun k_ hk => (⟨hk, hk.2⟩ : _ ∧ k_ ≠ gb271))) (fun _ hk => hk.2) (.int .i64 a1)) (fun _ hk => hk.2) (.int .i64 a2)) (fun _ hk => hk.2) (.int .i64 (wrap64 (t264 + 1)))) (fun _ hk => hk.2) (.string a3)) (fun _ h_ => h_.1))) : P := h
theorem u10_9 {P : Prop} (h : P := by (with_reducible repeat (first | refine blk_drewN ?_ _ | refine blk_drew ?_ | refine blk_alloc ?_ _)); refine blk_far ?_ NB261_268.out _; (with_reducible repeat (first | refine blk_drewN ?_ _ | refine blk_drew ?_ | refine blk_alloc ?_ _)); exact BK261.out) : P := h
theorem u10_10 {P : Prop} (h : P := by (with_reducible repeat (first | refine blk_drewN ?_ _ | refine blk_drew ?_ | refine blk_alloc ?_ _)); refine blk_far ?_ NB262_268.out _; (with_reducible repeat (first | refine blk_drewN ?_ _ | refine blk_drew ?_ | refine blk_alloc ?_ _)); exact BK262.out) : P := h
theorem u10_11 {P : Prop} (h : P := by first | exact Kd.own_blk (Kd.R_ne HO_269002.out BK275.out (by decide)) | (have hz_ := HO_269002.out.1 _ rfl; first | exact hz_ | exact hz_.2 | exact hz_.2.2 | exact hz_.2.1 | exact hz_.1 | exact hz_.1.2)) : P := h
theorem u10_12 {P : Prop} (h : P := by (with_reducible repeat (first | apply Kd.R_alloc | apply Kd.R_drewN | apply Kd.R_drew)); exact HO_269002.out) : P := h
theorem u10_13 {P : Prop} (h : P := by (with_reducible repeat (first | refine blk_drewN ?_ _ | refine blk_drew ?_ | refine blk_alloc ?_ _)); refine blk_put (cs := #[.int .i64 a1, .int .i64 a2, .int .i64 (wrap64 (t264 + 1)), .string (⟨#[]⟩ : ByteArray)]) ?_ 3 _ rfl; (with_reducible repeat (first | refine blk_drewN ?_ _ | refine blk_drew ?_ | refine blk_alloc ?_ _)); refine blk_put (cs := #[.int .i64 a1, .int .i64 a2, .int .i64 0, .string (⟨#[]⟩ : ByteArray)]) ?_ 2 _ rfl; (with_reducible repeat (first | refine blk_drewN ?_ _ | refine blk_drew ?_ | refine blk_alloc ?_ _)); refine blk_put (cs := #[.int .i64 a1, .int .i64 0, .int .i64 0, .string (⟨#[]⟩ : ByteArray)]) ?_ 1 _ rfl; (with_reducible repeat (first | refine blk_drewN ?_ _ | refine blk_drew ?_ | refine blk_alloc ?_ _)); refine blk_put (cs := #[.int .i64 0, .int .i64 0, .int .i64 0, .string (⟨#[]⟩ : ByteArray)]) ?_ 0 _ rfl; (with_reducible repeat (first | refine blk_drewN ?_ _ | refine blk_drew ?_ | refine blk_alloc ?_ _)); exact BK271.out) : P := h
theorem u10_14 {P : Prop} (h : P := by (with_reducible repeat (first | refine blk_drewN ?_ _ | refine blk_drew ?_ | refine blk_alloc ?_ _)); refine blk_put (cs := #[.int .i64 t263, .int .i64 t264, .slice none 0 0]) ?_ 2 _ rfl; (with_reducible repeat (first | refine blk_drewN ?_ _ | refine blk_drew ?_ | refine blk_alloc ?_ _)); refine blk_put (cs := #[.int .i64 t263, .int .i64 0, .slice none 0 0]) ?_ 1 _ rfl; (with_reducible repeat (first | refine blk_drewN ?_ _ | refine blk_drew ?_ | refine blk_alloc ?_ _)); refine blk_put (cs := #[.int .i64 0, .int .i64 0, .slice none 0 0]) ?_ 0 _ rfl; (with_reducible repeat (first | refine blk_drewN ?_ _ | refine blk_drew ?_ | refine blk_alloc ?_ _)); exact BK268.out) : P := h
theorem u10_15 {P : Prop} (h : P := by (with_reducible repeat (first | refine blk_drewN ?_ _ | refine blk_drew ?_ | refine blk_alloc ?_ _)); refine blk_far ?_ NB261_271.out _; (with_reducible repeat (first | refine blk_drewN ?_ _ | refine blk_drew ?_ | refine blk_alloc ?_ _)); refine blk_far ?_ NB261_271.out _; (with_reducible repeat (first | refine blk_drewN ?_ _ | refine blk_drew ?_ | refine blk_alloc ?_ _)); refine blk_far ?_ NB261_271.out _; (with_reducible repeat (first | refine blk_drewN ?_ _ | refine blk_drew ?_ | refine blk_alloc ?_ _)); refine blk_far ?_ NB261_271.out _; (with_reducible repeat (first | refine blk_drewN ?_ _ | refine blk_drew ?_ | refine blk_alloc ?_ _)); exact BK261.out) : P := h
theorem u10_16 {P : Prop} (h : P := by (with_reducible repeat (first | refine blk_drewN ?_ _ | refine blk_drew ?_ | refine blk_alloc ?_ _)); refine blk_far ?_ NB262_271.out _; (with_reducible repeat (first | refine blk_drewN ?_ _ | refine blk_drew ?_ | refine blk_alloc ?_ _)); refine blk_far ?_ NB262_271.out _; (with_reducible repeat (first | refine blk_drewN ?_ _ | refine blk_drew ?_ | refine blk_alloc ?_ _)); refine blk_far ?_ NB262_271.out _; (with_reducible repeat (first | refine blk_drewN ?_ _ | refine blk_drew ?_ | refine blk_alloc ?_ _)); refine blk_far ?_ NB262_271.out _; (with_reducible repeat (first | refine blk_drewN ?_ _ | refine blk_drew ?_ | refine blk_alloc ?_ _)); exact BK262.out) : P := h
theorem u10_17 {P : Prop} (h : P := by (with_reducible repeat (first | refine blk_drewN ?_ _ | refine blk_drew ?_ | refine blk_alloc ?_ _)); refine blk_far ?_ NB268_271.out _; (with_reducible repeat (first | refine blk_drewN ?_ _ | refine blk_drew ?_ | refine blk_alloc ?_ _)); refine blk_far ?_ NB268_271.out _; (with_reducible repeat (first | refine blk_drewN ?_ _ | refine blk_drew ?_ | refine blk_alloc ?_ _)); refine blk_far ?_ NB268_271.out _; (with_reducible repeat (first | refine blk_drewN ?_ _ | refine blk_drew ?_ | refine blk_alloc ?_ _)); refine blk_far ?_ NB268_271.out _; (with_reducible repeat (first | refine blk_drewN ?_ _ | refine blk_drew ?_ | refine blk_alloc ?_ _)); exact BK268.out) : P := h
theorem u10_19 {P : Prop} (h : P := by first | (rw [add_block]; exact hn276_0) | (show (Addr.add _ _).block ≠ _; rw [add_block]; exact hn276_0) | exact hn276_0) : P := h
theorem u10_20 {P : Prop} (h : P := by first | (rw [add_block]; exact hn276_1) | (show (Addr.add _ _).block ≠ _; rw [add_block]; exact hn276_1) | exact hn276_1) : P := h
theorem u10_21 {P : Prop} (h : P := by first | (rw [add_block]; exact hn276_2) | (show (Addr.add _ _).block ≠ _; rw [add_block]; exact hn276_2) | exact hn276_2) : P := h
theorem u10_22 {P : Prop} (h : P := by first | (rw [add_block]; exact hn276_3) | (show (Addr.add _ _).block ≠ _; rw [add_block]; exact hn276_3) | exact hn276_3) : P := h
theorem u10_23 {P : Prop} (h : P := by (with_reducible repeat (first | refine blk_drewN ?_ _ | refine blk_drew ?_ | refine blk_alloc ?_ _)); refine blk_far ?_ NB261_268.out _; (with_reducible repeat (first | refine blk_drewN ?_ _ | refine blk_drew ?_ | refine blk_alloc ?_ _)); refine blk_far ?_ NB261_268.out _; (with_reducible repeat (first | refine blk_drewN ?_ _ | refine blk_drew ?_ | refine blk_alloc ?_ _)); refine blk_far ?_ NB261_268.out _; (with_reducible repeat (first | refine blk_drewN ?_ _ | refine blk_drew ?_ | refine blk_alloc ?_ _)); exact BK261.out) : P := h
theorem u10_24 {P : Prop} (h : P := by (with_reducible repeat (first | refine blk_drewN ?_ _ | refine blk_drew ?_ | refine blk_alloc ?_ _)); refine blk_far ?_ NB262_268.out _; (with_reducible repeat (first | refine blk_drewN ?_ _ | refine blk_drew ?_ | refine blk_alloc ?_ _)); refine blk_far ?_ NB262_268.out _; (with_reducible repeat (first | refine blk_drewN ?_ _ | refine blk_drew ?_ | refine blk_alloc ?_ _)); refine blk_far ?_ NB262_268.out _; (with_reducible repeat (first | refine blk_drewN ?_ _ | refine blk_drew ?_ | refine blk_alloc ?_ _)); exact BK262.out) : P := h
theorem u10_27 {P : Prop} (h : P := by (with_reducible repeat (first | refine blk_drewN ?_ _ | refine blk_drew ?_ | refine blk_alloc ?_ _)); refine blk_put (cs := #[.int .i64 t263, .int .i64 (wrap64 (t264 + 1)), .slice none 0 0]) ?_ 2 _ rfl; (with_reducible repeat (first | refine blk_drewN ?_ _ | refine blk_drew ?_ | refine blk_alloc ?_ _)); refine blk_put (cs := #[.int .i64 t263, .int .i64 0, .slice none 0 0]) ?_ 1 _ rfl; (with_reducible repeat (first | refine blk_drewN ?_ _ | refine blk_drew ?_ | refine blk_alloc ?_ _)); refine blk_put (cs := #[.int .i64 0, .int .i64 0, .slice none 0 0]) ?_ 0 _ rfl; (with_reducible repeat (first | refine blk_drewN ?_ _ | refine blk_drew ?_ | refine blk_alloc ?_ _)); refine blk_far ?_ NB262_268.out _; (with_reducible repeat (first | refine blk_drewN ?_ _ | refine blk_drew ?_ | refine blk_alloc ?_ _)); exact BK262.out) : P := h
theorem u10_28 {P : Prop} (h : P := by (with_reducible repeat (first | apply Kd.R_alloc | apply Kd.R_drewN | apply Kd.R_drew)); exact (Kd.R_mono (Kd.R_far (p := ⟨gb268, 2, none⟩) (Kd.R_far (p := ⟨gb268, 1, none⟩) (Kd.R_far (p := ⟨gb268, 0, none⟩) (Kd.R_types HO267.out BK268.out (by decide)) (fun _ hk => hk.2) (.int .i64 t263)) (fun _ hk => hk.2) (.int .i64 t264)) (fun _ hk => hk.2) (.slice Ao17 t265.length co17)) (fun _ h_ => h_.1))) : P := h
theorem u10_29 {P : Prop} (h : P := by (with_reducible repeat (first | refine blk_drewN ?_ _ | refine blk_drew ?_ | refine blk_alloc ?_ _)); refine blk_far ?_ NB261_275.out _; (with_reducible repeat (first | refine blk_drewN ?_ _ | refine blk_drew ?_ | refine blk_alloc ?_ _)); refine blk_far ?_ NB261_275.out _; (with_reducible repeat (first | refine blk_drewN ?_ _ | refine blk_drew ?_ | refine blk_alloc ?_ _)); refine blk_far ?_ NB261_275.out _; (with_reducible repeat (first | refine blk_drewN ?_ _ | refine blk_drew ?_ | refine blk_alloc ?_ _)); refine blk_far ?_ NB261_275.out _; (with_reducible repeat (first | refine blk_drewN ?_ _ | refine blk_drew ?_ | refine blk_alloc ?_ _)); exact BK261.out) : P := h
theorem u10_30 {P : Prop} (h : P := by (with_reducible repeat (first | refine blk_drewN ?_ _ | refine blk_drew ?_ | refine blk_alloc ?_ _)); refine blk_far ?_ NB262_275.out _; (with_reducible repeat (first | refine blk_drewN ?_ _ | refine blk_drew ?_ | refine blk_alloc ?_ _)); refine blk_far ?_ NB262_275.out _; (with_reducible repeat (first | refine blk_drewN ?_ _ | refine blk_drew ?_ | refine blk_alloc ?_ _)); refine blk_far ?_ NB262_275.out _; (with_reducible repeat (first | refine blk_drewN ?_ _ | refine blk_drew ?_ | refine blk_alloc ?_ _)); refine blk_far ?_ NB262_275.out _; (with_reducible repeat (first | refine blk_drewN ?_ _ | refine blk_drew ?_ | refine blk_alloc ?_ _)); exact BK262.out) : P := h
theorem u10_31 {P : Prop} (h : P := by (with_reducible repeat (first | refine blk_drewN ?_ _ | refine blk_drew ?_ | refine blk_alloc ?_ _)); refine blk_far ?_ NB268_275.out _; (with_reducible repeat (first | refine blk_drewN ?_ _ | refine blk_drew ?_ | refine blk_alloc ?_ _)); refine blk_far ?_ NB268_275.out _; (with_reducible repeat (first | refine blk_drewN ?_ _ | refine blk_drew ?_ | refine blk_alloc ?_ _)); refine blk_far ?_ NB268_275.out _; (with_reducible repeat (first | refine blk_drewN ?_ _ | refine blk_drew ?_ | refine blk_alloc ?_ _)); refine blk_far ?_ NB268_275.out _; (with_reducible repeat (first | refine blk_drewN ?_ _ | refine blk_drew ?_ | refine blk_alloc ?_ _)); exact BK268.out) : P := h
theorem u10_32 {P : Prop} (h : P := by (with_reducible repeat (first | refine blk_drewN ?_ _ | refine blk_drew ?_ | refine blk_alloc ?_ _)); refine blk_far ?_ NB271_275.out _; (with_reducible repeat (first | refine blk_drewN ?_ _ | refine blk_drew ?_ | refine blk_alloc ?_ _)); refine blk_far ?_ NB271_275.out _; (with_reducible repeat (first | refine blk_drewN ?_ _ | refine blk_drew ?_ | refine blk_alloc ?_ _)); refine blk_far ?_ NB271_275.out _; (with_reducible repeat (first | refine blk_drewN ?_ _ | refine blk_drew ?_ | refine blk_alloc ?_ _)); refine blk_far ?_ NB271_275.out _; (with_reducible repeat (first | refine blk_drewN ?_ _ | refine blk_drew ?_ | refine blk_alloc ?_ _)); exact BK271.out) : P := h
theorem u10_33 {P : Prop} (h : P := by (with_reducible repeat (first | apply Kd.R_alloc | apply Kd.R_drewN | apply Kd.R_drew)); exact Kd.R_mono (Kd.R_far (p := ⟨gb275, 3, none⟩) (Kd.R_far (p := ⟨gb275, 2, none⟩) (Kd.R_far (p := ⟨gb275, 1, none⟩) (Kd.R_far (p := ⟨gb275, 0, none⟩) (Kd.R_mono HO_269002.out (fun k_ hk => (⟨hk, hk.2⟩ : _ ∧ k_ ≠ gb275))) (fun _ hk => hk.2) (.int .i64 ((rd_T54 t265 x71_2).f0))) (fun _ hk => hk.2) (.int .i64 ((rd_T54 t265 x71_2).f1))) (fun _ hk => hk.2) (.int .i64 ((rd_T54 t265 x71_2).f2))) (fun _ hk => hk.2) (.string ((rd_T54 t265 x71_2).f3))) (fun _ hk => hk.1.1)) : P := h
theorem u10_34 {P : Prop} (h : P := by (with_reducible repeat (first | apply Kd.R_alloc | apply Kd.R_drewN | apply Kd.R_drew)); exact Kd.R_mono (Kd.R_far (p := ⟨gb275, 3, none⟩) (Kd.R_far (p := ⟨gb275, 2, none⟩) (Kd.R_far (p := ⟨gb275, 1, none⟩) (Kd.R_far (p := ⟨gb275, 0, none⟩) (Kd.R_mono HO_69.out (fun k_ hk => (⟨hk, hk.2⟩ : _ ∧ k_ ≠ gb275))) (fun _ hk => hk.2) (.int .i64 ((rd_T54 t265 x71_2).f0))) (fun _ hk => hk.2) (.int .i64 ((rd_T54 t265 x71_2).f1))) (fun _ hk => hk.2) (.int .i64 ((rd_T54 t265 x71_2).f2))) (fun _ hk => hk.2) (.string ((rd_T54 t265 x71_2).f3))) (fun _ hk => hk.1.1)) : P := h
theorem u10_35 {P : Prop} (h : P := by (with_reducible repeat (first | apply Kd.R_alloc | apply Kd.R_drewN | apply Kd.R_drew)); exact (Kd.R_mono (Kd.R_far (p := ⟨gb268, 1, none⟩) (Kd.R_types HO_269002.out BK268.out (by decide)) (fun _ hk => hk.2) (.int .i64 (wrap64 (t264 + 1)))) (fun _ h_ => h_.1))) : P := h
theorem u10_36 {P : Prop} (h : P := by (with_reducible repeat (first | apply Kd.R_alloc | apply Kd.R_drewN | apply Kd.R_drew)); exact HO267.out) : P := h
theorem u10_40 {P : Prop} (h : P := by refine (Kd.R_reads' (e := 54) (base := w.heap.size) (ok := fun k_ => (True ∧ k_ ≠ gb271)) (n := t265.length) (c := co17) ?_).2.2; exact u10_8) : P := h
theorem u10_41 {P : Prop} (h : P := by (with_reducible repeat (first | apply Kd.R_alloc | apply Kd.R_drewN | apply Kd.R_drew)); exact Kd.R_mono HO_269002.out (fun _ hk => hk.2)) : P := h
theorem u10_42 {P : Prop} (h : P := by (with_reducible repeat (first | apply Kd.R_alloc | apply Kd.R_drewN | apply Kd.R_drew)); exact HO_69.out) : P := h
/-! ### impl_keep: function 36 -/
mutual
def impl_keep.j0 : Nat → Int → Int → ByteArray → Bool → Int → Int → List (S54) → Option (Int × Int × (List (S54)) × Bool)
 | 0, _, _, _, _, _, _, _ => none
 | k + 1, x1, x2, x3, x39, x269000, x269001, x269002 => if x39 = true then (some (x269000, x269001, x269002, false)) else ((impl_sessionOf.f x269000 (wrap64 (x269001 + 1)) x269002 x1).bind fun t272 => (if t272 ≥ 0 then (if 0 ≤ t272 then (if t272 < (x269002.length : Int) then (some (x269000, wrap64 (x269001 + 1), (x269002.set (t272 : Int).toNat (⟨x1, x2, wrap64 (x269001 + 1), x3⟩ : S54)), true)) else (none)) else (none)) else (if (x269002.length : Int) = x269000 then (impl_keep.l0 k x1 0 x269002 (x269002.length : Int) 0 x269000 (wrap64 (x269001 + 1)) x269002 x1 x2 (wrap64 (x269001 + 1)) x3) else (impl_keep.j2 k x1 x269000 (wrap64 (x269001 + 1)) x269002 x1 x2 (wrap64 (x269001 + 1)) x3))))
def impl_keep.j2 : Nat → Int → Int → Int → List (S54) → Int → Int → Int → ByteArray → Option (Int × Int × (List (S54)) × Bool)
 | 0, _, _, _, _, _, _, _, _ => none
 | k + 1, x1, x269000, x269001, x269002, x272000, x272001, x272002, x272003 => impl_keep.l1 k x1 0 x269000 x269001 x269002 x272000 x272001 x272002 x272003
def impl_keep.l1 : Nat → Int → Int → Int → Int → List (S54) → Int → Int → Int → ByteArray → Option (Int × Int × (List (S54)) × Bool)
 | 0, _, _, _, _, _, _, _, _, _ => none
 | k + 1, x1, x18, x269000, x269001, x269002, x272000, x272001, x272002, x272003 => if x18 < (x269002.length : Int) then (if 0 ≤ x18 then (if ((rd_T54 x269002 x18).f0) < x1 then (impl_keep.l1 k x1 (wrap64 (x18 + 1)) x269000 x269001 x269002 x272000 x272001 x272002 x272003) else ((impl_Session_56.f x269002 x18 (([(⟨x272000, x272001, x272002, x272003⟩ : S54)] : List (S54)))).bind fun t284 => (some (x269000, x269001, t284, true)))) else (none)) else ((impl_Session_56.f x269002 x18 (([(⟨x272000, x272001, x272002, x272003⟩ : S54)] : List (S54)))).bind fun t290 => (some (x269000, x269001, t290, true)))
def impl_keep.l0 : Nat → Int → Int → List (S54) → Int → Int → Int → Int → List (S54) → Int → Int → Int → ByteArray → Option (Int × Int × (List (S54)) × Bool)
 | 0, _, _, _, _, _, _, _, _, _, _, _, _ => none
 | k + 1, x1, x15, x69, x70, x71, x269000, x269001, x269002, x272000, x272001, x272002, x272003 => if x71 < x70 then (if 0 ≤ x71 then (if x71 < (x69.length : Int) then (if 0 ≤ x15 then (if x15 < (x269002.length : Int) then (if ((rd_T54 x69 x71).f2) < ((rd_T54 x269002 x15).f2) then (impl_keep.l0 k x1 x71 x69 x70 (wrap64 (x71 + 1)) x269000 x269001 x269002 x272000 x272001 x272002 x272003) else (impl_keep.l0 k x1 x15 x69 x70 (wrap64 (x71 + 1)) x269000 x269001 x269002 x272000 x272001 x272002 x272003)) else (none)) else (none)) else (none)) else (none)) else ((impl_Session_48.f x269002 x15 (wrap64 (x15 + 1))).bind fun t277 => (impl_keep.j2 k x1 x269000 x269001 t277 x272000 x272001 x272002 x272003))
end
def impl_keep.f (k : Nat) (a0_0 : Int) (a0_1 : Int) (l0_2 : List (S54)) (a1 : Int) (a2 : Int) (a3 : ByteArray) : Option (Int × Int × (List (S54)) × Bool) := (impl_copySessions.f a0_0 a0_1 l0_2).bind fun bt263 => ((impl_look.f k a0_0 a0_1 l0_2 a1 a2).bind fun bt269 => (if bt269.1 = 0 then (if (a3.size : Int) > 40 then (impl_keep.j0 k a1 a2 a3 true bt263.1 bt263.2.1 bt263.2.2) else (impl_keep.j0 k a1 a2 a3 (a0_1 == 1000000) bt263.1 bt263.2.1 bt263.2.2)) else (impl_keep.j0 k a1 a2 a3 true bt263.1 bt263.2.1 bt263.2.2)))
theorem impl_keep.mono_l : ∀ k, (∀ y0 y1 y2 y3 y4 y5 y6, LeO (impl_keep.j0 k y0 y1 y2 y3 y4 y5 y6) (impl_keep.j0 (k + 1) y0 y1 y2 y3 y4 y5 y6)) ∧ (∀ y0 y1 y2 y3 y4 y5 y6 y7, LeO (impl_keep.j2 k y0 y1 y2 y3 y4 y5 y6 y7) (impl_keep.j2 (k + 1) y0 y1 y2 y3 y4 y5 y6 y7)) ∧ (∀ y0 y1 y2 y3 y4 y5 y6 y7 y8, LeO (impl_keep.l1 k y0 y1 y2 y3 y4 y5 y6 y7 y8) (impl_keep.l1 (k + 1) y0 y1 y2 y3 y4 y5 y6 y7 y8)) ∧ (∀ y0 y1 y2 y3 y4 y5 y6 y7 y8 y9 y10 y11, LeO (impl_keep.l0 k y0 y1 y2 y3 y4 y5 y6 y7 y8 y9 y10 y11) (impl_keep.l0 (k + 1) y0 y1 y2 y3 y4 y5 y6 y7 y8 y9 y10 y11))
 | 0 => ⟨fun _ _ _ _ _ _ _ r h => by simp [impl_keep.j0] at h, fun _ _ _ _ _ _ _ _ r h => by simp [impl_keep.j2] at h, fun _ _ _ _ _ _ _ _ _ r h => by simp [impl_keep.l1] at h, fun _ _ _ _ _ _ _ _ _ _ _ _ r h => by simp [impl_keep.l0] at h⟩
 | k + 1 => by
   obtain ⟨ih0, ih1, ih2, ih3⟩ := impl_keep.mono_l k
   refine ⟨?_, ?_, ?_, ?_⟩ <;> intros <;> (first | unfold impl_keep.j0 | unfold impl_keep.j2 | unfold impl_keep.l1 | unfold impl_keep.l0) <;> repeat' first
   | (with_reducible exact ih0 _ _ _ _ _ _ _)
   | (with_reducible exact ih1 _ _ _ _ _ _ _ _)
   | (with_reducible exact ih2 _ _ _ _ _ _ _ _ _)
   | (with_reducible exact ih3 _ _ _ _ _ _ _ _ _ _ _ _)
   | (with_reducible exact impl_look.mono _ _ _ _ _ _)
   | (with_reducible exact LeO.refl _)
   | (with_reducible exact LeO.none _)
   | (with_reducible refine LeO.ite ?_ ?_)
   | (with_reducible refine LeO.bind ?_ (fun _ => ?_))
   | exact ih0 _ _ _ _ _ _ _
   | exact ih1 _ _ _ _ _ _ _ _
   | exact ih2 _ _ _ _ _ _ _ _ _
   | exact ih3 _ _ _ _ _ _ _ _ _ _ _ _
   | exact impl_look.mono _ _ _ _ _ _
   | exact LeO.none _
   | refine LeO.ite ?_ ?_
   | refine LeO.bind ?_ (fun _ => ?_)
theorem impl_keep.mono : ∀ a0 a1 a2 a3 a4 a5 k, LeO (impl_keep.f k a0 a1 a2 a3 a4 a5) (impl_keep.f (k + 1) a0 a1 a2 a3 a4 a5) := by
 intro a0 a1 a2 a3 a4 a5 k
 obtain ⟨ih0, ih1, ih2, ih3⟩ := impl_keep.mono_l k
 unfold impl_keep.f
 repeat' first
     | (with_reducible exact ih0 _ _ _ _ _ _ _)
     | (with_reducible exact ih1 _ _ _ _ _ _ _ _)
     | (with_reducible exact ih2 _ _ _ _ _ _ _ _ _)
     | (with_reducible exact ih3 _ _ _ _ _ _ _ _ _ _ _ _)
     | (with_reducible exact impl_look.mono _ _ _ _ _ _)
     | (with_reducible exact LeO.refl _)
     | (with_reducible exact LeO.none _)
     | (with_reducible refine LeO.ite ?_ ?_)
     | (with_reducible refine LeO.bind ?_ (fun _ => ?_))
     | exact ih0 _ _ _ _ _ _ _
     | exact ih1 _ _ _ _ _ _ _ _
     | exact ih2 _ _ _ _ _ _ _ _ _
     | exact ih3 _ _ _ _ _ _ _ _ _ _ _ _
     | exact impl_look.mono _ _ _ _ _ _
     | exact LeO.none _
     | refine LeO.ite ?_ ?_
     | refine LeO.bind ?_ (fun _ => ?_)
set_option maxHeartbeats 8000000 in
set_option maxRecDepth 100000 in
theorem impl_keep.calls (k : Nat) (a0_0 : Int) (a0_1 : Int) (A0_2 : Option Addr) (c0_2 : Nat) (l0_2 : List (S54)) (a1 : Int) (a2 : Int) (a3 : ByteArray) (r1 : Int) (r2 : Int) (r3 : List (S54)) (r4 : Bool) (w : World) (hr0_2 : Kd.C k54 w A0_2 l0_2.length l0_2) (hc0_2 : l0_2.length ≤ c0_2) (h : impl_keep.f k a0_0 a0_1 l0_2 a1 a2 a3 = some (r1, r2, r3, r4)) :
   Calls Tryd.prog 36 #[.agg #[.int .i64 a0_0, .int .i64 a0_1, .slice A0_2 l0_2.length c0_2], .int .i64 a1, .int .i64 a2, .string a3] w fun e w' => ∃ v2_ : Value, e = .returned (.tuple #[.agg #[.int .i64 r1, .int .i64 r2, v2_], .bool r4]) ∧ Kd.R k54 54 w' w.heap.size (fun _ => True) v2_ r3 ∧ Below w.heap.size w w' := by
 have hu30 := Tryd.underlying30
 have hu54 := Tryd.underlying54
 have HR0_2 := am hr0_2
 have HC0_2 := am hc0_2
 clear hr0_2 hc0_2
 have HB := am (Below.refl w.heap.size w)
 have H : ((impl_copySessions.f a0_0 a0_1 l0_2).bind fun bt263 => ((impl_look.f k a0_0 a0_1 l0_2 a1 a2).bind fun bt269 => (if bt269.1 = 0 then (if (a3.size : Int) > 40 then (impl_keep.j0 k a1 a2 a3 true bt263.1 bt263.2.1 bt263.2.2) else (impl_keep.j0 k a1 a2 a3 (a0_1 == 1000000) bt263.1 bt263.2.1 bt263.2.2)) else (impl_keep.j0 k a1 a2 a3 true bt263.1 bt263.2.1 bt263.2.2)))) = some (r1, r2, r3, r4) := h
 clear h
 replace H := Option.bind_eq_some_iff.mp H
 obtain ⟨⟨t263, t264, t265⟩, A50, H⟩ := H
 (try dsimp only at H)
 have A5 := am A50
 clear A50
 replace H := Option.bind_eq_some_iff.mp H
 obtain ⟨⟨t269, t270⟩, A60, H⟩ := H
 (try dsimp only at H)
 have A6 := am A60
 clear A60
 have HC7 := am H
 clear H
 go_enter Tryd.func36, Tryd.ntmps36
 go_upto_region 3 with (first | ((with_reducible refine gate_dst (N := 4) rfl ?_); (try (refine gate_guard (by rfl) ?_; dsimp only)); refine box_event ?hg (N := 4) ?hd (cs := #[.int .i64 a0_0, .int .i64 a0_1, .slice A0_2 l0_2.length c0_2]) (t := 30) ?hr ?_; (case hd => rfl); (case hg => rfl); (case hr => first | (go_simp; done) | (go_simp; rfl)); intro gb261 hg w8 hbox hb; have BK261 := am (hbox); have GW261 := am ((by rw [hg]; exact (below_size q0) : w.heap.size ≤ gb261)); have GE261 := am ((by rw [hg]; exact (below_size q0) : w.heap.size ≤ gb261)); replace HB := am (below_step q0 hb); clear hb hbox hg) | ((with_reducible refine gate_dst (N := 8) rfl ?_); (try (refine gate_guard (by rfl) ?_; dsimp only)); refine box_event ?hg (N := 8) ?hd (cs := #[.int .i64 0, .int .i64 0, .slice none 0 0]) (t := 30) ?hr ?_; (case hd => rfl); (case hg => rfl); (case hr => first | (go_simp; done) | (go_simp; rfl)); intro gb262 hg w9 hbox hb; have BK262 := am (hbox); have GW262 := am ((by rw [hg]; exact (below_size q0) : w.heap.size ≤ gb262)); have GE262 := am ((by rw [hg]; exact (below_size q0) : w.heap.size ≤ gb262)); replace HB := am (below_step q0 hb); have NB261_262 := am ((by rw [hg]; exact Nat.ne_of_lt (blk_lt (g := gb261) (o := .cells #[.int .i64 a0_0, .int .i64 a0_1, .slice A0_2 l0_2.length c0_2] 30 (0, 0)) u10_1) : gb261 ≠ gb262)); have NB262_261 := am ((by rw [hg]; exact Nat.ne_of_gt (blk_lt (g := gb261) (o := .cells #[.int .i64 a0_0, .int .i64 a0_1, .slice A0_2 l0_2.length c0_2] 30 (0, 0)) u10_1) : gb262 ≠ gb261)); replace BK261 := am (blk_below (g := gb261) (o := .cells #[.int .i64 a0_0, .int .i64 a0_1, .slice A0_2 l0_2.length c0_2] 30 (0, 0)) u10_1 hb); clear hb hbox hg; have hnb10 := NB261_262.out; have hnc10 := NB262_261.out; obtain ⟨hcz11_0, hcz11_1, hcz11_2, hfz11_0, hfz11_1, hfz11_2⟩ := bc3f w9 BK261.out) | (go_at_call 34; (with_reducible refine (impl_copySessions.calls a0_0 a0_1 _ _ l0_2 t263 t264 t265 _ ?side1 ?side2 A5.out).mono ?_); (case side1 => exact q5); (case side2 => exact HC0_2.out); rintro e w12 ⟨v266, rfl, ho0, hb⟩; have HO267 := am (Kd.R_lower ho0 (below_size q0)); replace BK261 := am (blk_below (g := gb261) (o := .cells #[.int .i64 a0_0, .int .i64 a0_1, .slice A0_2 l0_2.length c0_2] 30 (0, 0)) u10_1 hb); replace BK262 := am (blk_below (g := gb262) (o := .cells #[.int .i64 0, .int .i64 0, .slice none 0 0] 30 (0, 0)) u10_2 hb); replace HB := am (below_step q0 hb); (try clear hb); (try clear hb2); (try clear hk); (try clear hi); (try clear ho0)) | ((with_reducible refine gate_dst (N := 10) rfl ?_); (try (refine gate_guard (by rfl) ?_; dsimp only)); refine box_event ?hg (N := 10) ?hd (cs := #[.int .i64 0, .int .i64 0, .slice none 0 0]) (t := 30) ?hr ?_; (case hd => rfl); (case hg => rfl); (case hr => first | (go_simp; done) | (go_simp; rfl)); intro gb268 hg w13 hbox hb; replace HO267 := am (Kd.R_below u10_36 hb); have BK268 := am (hbox); have GW268 := am ((by rw [hg]; exact (below_size q0) : w.heap.size ≤ gb268)); have GE268 := am ((by rw [hg]; exact (below_size q0) : w.heap.size ≤ gb268)); replace HB := am (below_step q0 hb); have NB261_268 := am ((by rw [hg]; exact Nat.ne_of_lt (blk_lt (g := gb261) (o := .cells #[.int .i64 a0_0, .int .i64 a0_1, .slice A0_2 l0_2.length c0_2] 30 (0, 0)) u10_1) : gb261 ≠ gb268)); have NB268_261 := am ((by rw [hg]; exact Nat.ne_of_gt (blk_lt (g := gb261) (o := .cells #[.int .i64 a0_0, .int .i64 a0_1, .slice A0_2 l0_2.length c0_2] 30 (0, 0)) u10_1) : gb268 ≠ gb261)); replace BK261 := am (blk_below (g := gb261) (o := .cells #[.int .i64 a0_0, .int .i64 a0_1, .slice A0_2 l0_2.length c0_2] 30 (0, 0)) u10_1 hb); have NB262_268 := am ((by rw [hg]; exact Nat.ne_of_lt (blk_lt (g := gb262) (o := .cells #[.int .i64 0, .int .i64 0, .slice none 0 0] 30 (0, 0)) u10_2) : gb262 ≠ gb268)); have NB268_262 := am ((by rw [hg]; exact Nat.ne_of_gt (blk_lt (g := gb262) (o := .cells #[.int .i64 0, .int .i64 0, .slice none 0 0] 30 (0, 0)) u10_2) : gb268 ≠ gb262)); replace BK262 := am (blk_below (g := gb262) (o := .cells #[.int .i64 0, .int .i64 0, .slice none 0 0] 30 (0, 0)) u10_2 hb); clear hb hbox hg; have hnb14 := NB268_261.out; have hnc14 := NB261_268.out; have hnb15 := NB268_262.out; have hnc15 := NB262_268.out; obtain ⟨hcz16_0, hcz16_1, hcz16_2, hfz16_0, hfz16_1, hfz16_2⟩ := bc3f w13 BK268.out; obtain ⟨Ao17, co17, eo17⟩ := Kd.R_slice HO267.out; subst eo17; obtain ⟨hcz18_0, hcz18_1, hcz18_2, hfz18_0, hfz18_1, hfz18_2⟩ := bc3f w13 BK261.out) | (go_at_call 37; (with_reducible refine (impl_look.calls k a0_0 a0_1 _ _ l0_2 a1 a2 t269 t270 _ ?side1 ?side2 A6.out).mono ?_); (case side1 => exact (by exact Kd.C_below HR0_2.out q0)); (case side2 => exact HC0_2.out); rintro e w19 ⟨rfl, hb⟩; replace HO267 := am (Kd.R_below u10_28 hb); replace BK261 := am (blk_below (g := gb261) (o := .cells #[.int .i64 a0_0, .int .i64 a0_1, .slice A0_2 l0_2.length c0_2] 30 (0, 0)) u10_23 hb); replace BK262 := am (blk_below (g := gb262) (o := .cells #[.int .i64 0, .int .i64 0, .slice none 0 0] 30 (0, 0)) u10_24 hb); replace BK268 := am (blk_below (g := gb268) (o := .cells #[.int .i64 t263, .int .i64 t264, .slice Ao17 t265.length co17] 30 (0, 0)) u10_14 hb); replace HB := am (below_step q0 hb); (try clear hb); (try clear hb2); (try clear hk); (try clear hi)))
 repeat (go_quiet (first | ((with_reducible refine gate_dst (N := 4) rfl ?_); (try (refine gate_guard (by rfl) ?_; dsimp only)); refine box_event ?hg (N := 4) ?hd (cs := #[.int .i64 a0_0, .int .i64 a0_1, .slice A0_2 l0_2.length c0_2]) (t := 30) ?hr ?_; (case hd => rfl); (case hg => rfl); (case hr => first | (go_simp; done) | (go_simp; rfl)); intro gb261 hg w8 hbox hb; have BK261 := am (hbox); have GW261 := am ((by rw [hg]; exact (below_size q0) : w.heap.size ≤ gb261)); have GE261 := am ((by rw [hg]; exact (below_size q0) : w.heap.size ≤ gb261)); replace HB := am (below_step q0 hb); clear hb hbox hg) | ((with_reducible refine gate_dst (N := 8) rfl ?_); (try (refine gate_guard (by rfl) ?_; dsimp only)); refine box_event ?hg (N := 8) ?hd (cs := #[.int .i64 0, .int .i64 0, .slice none 0 0]) (t := 30) ?hr ?_; (case hd => rfl); (case hg => rfl); (case hr => first | (go_simp; done) | (go_simp; rfl)); intro gb262 hg w9 hbox hb; have BK262 := am (hbox); have GW262 := am ((by rw [hg]; exact (below_size q0) : w.heap.size ≤ gb262)); have GE262 := am ((by rw [hg]; exact (below_size q0) : w.heap.size ≤ gb262)); replace HB := am (below_step q0 hb); have NB261_262 := am ((by rw [hg]; exact Nat.ne_of_lt (blk_lt (g := gb261) (o := .cells #[.int .i64 a0_0, .int .i64 a0_1, .slice A0_2 l0_2.length c0_2] 30 (0, 0)) u10_1) : gb261 ≠ gb262)); have NB262_261 := am ((by rw [hg]; exact Nat.ne_of_gt (blk_lt (g := gb261) (o := .cells #[.int .i64 a0_0, .int .i64 a0_1, .slice A0_2 l0_2.length c0_2] 30 (0, 0)) u10_1) : gb262 ≠ gb261)); replace BK261 := am (blk_below (g := gb261) (o := .cells #[.int .i64 a0_0, .int .i64 a0_1, .slice A0_2 l0_2.length c0_2] 30 (0, 0)) u10_1 hb); clear hb hbox hg; have hnb10 := NB261_262.out; have hnc10 := NB262_261.out; obtain ⟨hcz11_0, hcz11_1, hcz11_2, hfz11_0, hfz11_1, hfz11_2⟩ := bc3f w9 BK261.out) | (go_at_call 34; (with_reducible refine (impl_copySessions.calls a0_0 a0_1 _ _ l0_2 t263 t264 t265 _ ?side1 ?side2 A5.out).mono ?_); (case side1 => exact q5); (case side2 => exact HC0_2.out); rintro e w12 ⟨v266, rfl, ho0, hb⟩; have HO267 := am (Kd.R_lower ho0 (below_size q0)); replace BK261 := am (blk_below (g := gb261) (o := .cells #[.int .i64 a0_0, .int .i64 a0_1, .slice A0_2 l0_2.length c0_2] 30 (0, 0)) u10_1 hb); replace BK262 := am (blk_below (g := gb262) (o := .cells #[.int .i64 0, .int .i64 0, .slice none 0 0] 30 (0, 0)) u10_2 hb); replace HB := am (below_step q0 hb); (try clear hb); (try clear hb2); (try clear hk); (try clear hi); (try clear ho0)) | ((with_reducible refine gate_dst (N := 10) rfl ?_); (try (refine gate_guard (by rfl) ?_; dsimp only)); refine box_event ?hg (N := 10) ?hd (cs := #[.int .i64 0, .int .i64 0, .slice none 0 0]) (t := 30) ?hr ?_; (case hd => rfl); (case hg => rfl); (case hr => first | (go_simp; done) | (go_simp; rfl)); intro gb268 hg w13 hbox hb; replace HO267 := am (Kd.R_below u10_36 hb); have BK268 := am (hbox); have GW268 := am ((by rw [hg]; exact (below_size q0) : w.heap.size ≤ gb268)); have GE268 := am ((by rw [hg]; exact (below_size q0) : w.heap.size ≤ gb268)); replace HB := am (below_step q0 hb); have NB261_268 := am ((by rw [hg]; exact Nat.ne_of_lt (blk_lt (g := gb261) (o := .cells #[.int .i64 a0_0, .int .i64 a0_1, .slice A0_2 l0_2.length c0_2] 30 (0, 0)) u10_1) : gb261 ≠ gb268)); have NB268_261 := am ((by rw [hg]; exact Nat.ne_of_gt (blk_lt (g := gb261) (o := .cells #[.int .i64 a0_0, .int .i64 a0_1, .slice A0_2 l0_2.length c0_2] 30 (0, 0)) u10_1) : gb268 ≠ gb261)); replace BK261 := am (blk_below (g := gb261) (o := .cells #[.int .i64 a0_0, .int .i64 a0_1, .slice A0_2 l0_2.length c0_2] 30 (0, 0)) u10_1 hb); have NB262_268 := am ((by rw [hg]; exact Nat.ne_of_lt (blk_lt (g := gb262) (o := .cells #[.int .i64 0, .int .i64 0, .slice none 0 0] 30 (0, 0)) u10_2) : gb262 ≠ gb268)); have NB268_262 := am ((by rw [hg]; exact Nat.ne_of_gt (blk_lt (g := gb262) (o := .cells #[.int .i64 0, .int .i64 0, .slice none 0 0] 30 (0, 0)) u10_2) : gb268 ≠ gb262)); replace BK262 := am (blk_below (g := gb262) (o := .cells #[.int .i64 0, .int .i64 0, .slice none 0 0] 30 (0, 0)) u10_2 hb); clear hb hbox hg; have hnb14 := NB268_261.out; have hnc14 := NB261_268.out; have hnb15 := NB268_262.out; have hnc15 := NB262_268.out; obtain ⟨hcz16_0, hcz16_1, hcz16_2, hfz16_0, hfz16_1, hfz16_2⟩ := bc3f w13 BK268.out; obtain ⟨Ao17, co17, eo17⟩ := Kd.R_slice HO267.out; subst eo17; obtain ⟨hcz18_0, hcz18_1, hcz18_2, hfz18_0, hfz18_1, hfz18_2⟩ := bc3f w13 BK261.out) | (go_at_call 37; (with_reducible refine (impl_look.calls k a0_0 a0_1 _ _ l0_2 a1 a2 t269 t270 _ ?side1 ?side2 A6.out).mono ?_); (case side1 => exact (by exact Kd.C_below HR0_2.out q0)); (case side2 => exact HC0_2.out); rintro e w19 ⟨rfl, hb⟩; replace HO267 := am (Kd.R_below u10_28 hb); replace BK261 := am (blk_below (g := gb261) (o := .cells #[.int .i64 a0_0, .int .i64 a0_1, .slice A0_2 l0_2.length c0_2] 30 (0, 0)) u10_23 hb); replace BK262 := am (blk_below (g := gb262) (o := .cells #[.int .i64 0, .int .i64 0, .slice none 0 0] 30 (0, 0)) u10_24 hb); replace BK268 := am (blk_below (g := gb268) (o := .cells #[.int .i64 t263, .int .i64 t264, .slice Ao17 t265.length co17] 30 (0, 0)) u10_14 hb); replace HB := am (below_step q0 hb); (try clear hb); (try clear hb2); (try clear hk); (try clear hi))); go_upto_region 3 with (first | ((with_reducible refine gate_dst (N := 4) rfl ?_); (try (refine gate_guard (by rfl) ?_; dsimp only)); refine box_event ?hg (N := 4) ?hd (cs := #[.int .i64 a0_0, .int .i64 a0_1, .slice A0_2 l0_2.length c0_2]) (t := 30) ?hr ?_; (case hd => rfl); (case hg => rfl); (case hr => first | (go_simp; done) | (go_simp; rfl)); intro gb261 hg w8 hbox hb; have BK261 := am (hbox); have GW261 := am ((by rw [hg]; exact (below_size q0) : w.heap.size ≤ gb261)); have GE261 := am ((by rw [hg]; exact (below_size q0) : w.heap.size ≤ gb261)); replace HB := am (below_step q0 hb); clear hb hbox hg) | ((with_reducible refine gate_dst (N := 8) rfl ?_); (try (refine gate_guard (by rfl) ?_; dsimp only)); refine box_event ?hg (N := 8) ?hd (cs := #[.int .i64 0, .int .i64 0, .slice none 0 0]) (t := 30) ?hr ?_; (case hd => rfl); (case hg => rfl); (case hr => first | (go_simp; done) | (go_simp; rfl)); intro gb262 hg w9 hbox hb; have BK262 := am (hbox); have GW262 := am ((by rw [hg]; exact (below_size q0) : w.heap.size ≤ gb262)); have GE262 := am ((by rw [hg]; exact (below_size q0) : w.heap.size ≤ gb262)); replace HB := am (below_step q0 hb); have NB261_262 := am ((by rw [hg]; exact Nat.ne_of_lt (blk_lt (g := gb261) (o := .cells #[.int .i64 a0_0, .int .i64 a0_1, .slice A0_2 l0_2.length c0_2] 30 (0, 0)) u10_1) : gb261 ≠ gb262)); have NB262_261 := am ((by rw [hg]; exact Nat.ne_of_gt (blk_lt (g := gb261) (o := .cells #[.int .i64 a0_0, .int .i64 a0_1, .slice A0_2 l0_2.length c0_2] 30 (0, 0)) u10_1) : gb262 ≠ gb261)); replace BK261 := am (blk_below (g := gb261) (o := .cells #[.int .i64 a0_0, .int .i64 a0_1, .slice A0_2 l0_2.length c0_2] 30 (0, 0)) u10_1 hb); clear hb hbox hg; have hnb10 := NB261_262.out; have hnc10 := NB262_261.out; obtain ⟨hcz11_0, hcz11_1, hcz11_2, hfz11_0, hfz11_1, hfz11_2⟩ := bc3f w9 BK261.out) | (go_at_call 34; (with_reducible refine (impl_copySessions.calls a0_0 a0_1 _ _ l0_2 t263 t264 t265 _ ?side1 ?side2 A5.out).mono ?_); (case side1 => exact q5); (case side2 => exact HC0_2.out); rintro e w12 ⟨v266, rfl, ho0, hb⟩; have HO267 := am (Kd.R_lower ho0 (below_size q0)); replace BK261 := am (blk_below (g := gb261) (o := .cells #[.int .i64 a0_0, .int .i64 a0_1, .slice A0_2 l0_2.length c0_2] 30 (0, 0)) u10_1 hb); replace BK262 := am (blk_below (g := gb262) (o := .cells #[.int .i64 0, .int .i64 0, .slice none 0 0] 30 (0, 0)) u10_2 hb); replace HB := am (below_step q0 hb); (try clear hb); (try clear hb2); (try clear hk); (try clear hi); (try clear ho0)) | ((with_reducible refine gate_dst (N := 10) rfl ?_); (try (refine gate_guard (by rfl) ?_; dsimp only)); refine box_event ?hg (N := 10) ?hd (cs := #[.int .i64 0, .int .i64 0, .slice none 0 0]) (t := 30) ?hr ?_; (case hd => rfl); (case hg => rfl); (case hr => first | (go_simp; done) | (go_simp; rfl)); intro gb268 hg w13 hbox hb; replace HO267 := am (Kd.R_below u10_36 hb); have BK268 := am (hbox); have GW268 := am ((by rw [hg]; exact (below_size q0) : w.heap.size ≤ gb268)); have GE268 := am ((by rw [hg]; exact (below_size q0) : w.heap.size ≤ gb268)); replace HB := am (below_step q0 hb); have NB261_268 := am ((by rw [hg]; exact Nat.ne_of_lt (blk_lt (g := gb261) (o := .cells #[.int .i64 a0_0, .int .i64 a0_1, .slice A0_2 l0_2.length c0_2] 30 (0, 0)) u10_1) : gb261 ≠ gb268)); have NB268_261 := am ((by rw [hg]; exact Nat.ne_of_gt (blk_lt (g := gb261) (o := .cells #[.int .i64 a0_0, .int .i64 a0_1, .slice A0_2 l0_2.length c0_2] 30 (0, 0)) u10_1) : gb268 ≠ gb261)); replace BK261 := am (blk_below (g := gb261) (o := .cells #[.int .i64 a0_0, .int .i64 a0_1, .slice A0_2 l0_2.length c0_2] 30 (0, 0)) u10_1 hb); have NB262_268 := am ((by rw [hg]; exact Nat.ne_of_lt (blk_lt (g := gb262) (o := .cells #[.int .i64 0, .int .i64 0, .slice none 0 0] 30 (0, 0)) u10_2) : gb262 ≠ gb268)); have NB268_262 := am ((by rw [hg]; exact Nat.ne_of_gt (blk_lt (g := gb262) (o := .cells #[.int .i64 0, .int .i64 0, .slice none 0 0] 30 (0, 0)) u10_2) : gb268 ≠ gb262)); replace BK262 := am (blk_below (g := gb262) (o := .cells #[.int .i64 0, .int .i64 0, .slice none 0 0] 30 (0, 0)) u10_2 hb); clear hb hbox hg; have hnb14 := NB268_261.out; have hnc14 := NB261_268.out; have hnb15 := NB268_262.out; have hnc15 := NB262_268.out; obtain ⟨hcz16_0, hcz16_1, hcz16_2, hfz16_0, hfz16_1, hfz16_2⟩ := bc3f w13 BK268.out; obtain ⟨Ao17, co17, eo17⟩ := Kd.R_slice HO267.out; subst eo17; obtain ⟨hcz18_0, hcz18_1, hcz18_2, hfz18_0, hfz18_1, hfz18_2⟩ := bc3f w13 BK261.out) | (go_at_call 37; (with_reducible refine (impl_look.calls k a0_0 a0_1 _ _ l0_2 a1 a2 t269 t270 _ ?side1 ?side2 A6.out).mono ?_); (case side1 => exact (by exact Kd.C_below HR0_2.out q0)); (case side2 => exact HC0_2.out); rintro e w19 ⟨rfl, hb⟩; replace HO267 := am (Kd.R_below u10_28 hb); replace BK261 := am (blk_below (g := gb261) (o := .cells #[.int .i64 a0_0, .int .i64 a0_1, .slice A0_2 l0_2.length c0_2] 30 (0, 0)) u10_23 hb); replace BK262 := am (blk_below (g := gb262) (o := .cells #[.int .i64 0, .int .i64 0, .slice none 0 0] 30 (0, 0)) u10_24 hb); replace BK268 := am (blk_below (g := gb268) (o := .cells #[.int .i64 t263, .int .i64 t264, .slice Ao17 t265.length co17] 30 (0, 0)) u10_14 hb); replace HB := am (below_step q0 hb); (try clear hb); (try clear hb2); (try clear hk); (try clear hi))))
 (try simp only [Act.put, la, lb, lc])
 go_cut [39] (fun v39 wc => ∃ (kq : Nat) (x39_6 : Bool), v39 = .bool x39_6 ∧ Aside0 (impl_keep.j0 kq a1 a2 a3 x39_6 t263 t264 t265 = some (r1, r2, r3, r4)) ∧ Aside0 (kq ≤ k) ∧ Aside0 (Kd.R k54 54 wc w.heap.size (fun _ => True) (.slice Ao17 t265.length co17) t265) ∧ Aside0 (wc.heap[gb261]? = some (.cells #[.int .i64 a0_0, .int .i64 a0_1, (.slice A0_2 l0_2.length c0_2)] 30 (0, 0))) ∧ Aside0 (wc.heap[gb262]? = some (.cells #[.int .i64 0, .int .i64 0, (.slice none 0 0)] 30 (0, 0))) ∧ Aside0 (wc.heap[gb268]? = some (.cells #[.int .i64 t263, .int .i64 t264, (.slice Ao17 t265.length co17)] 30 (0, 0))) ∧ Aside0 (Below w.heap.size w wc))
 case first =>
   have H := HC7.out
   clear HC7
   by_cases c20 : t269 = 0
   rotate_left
   · rw [if_neg c20] at H
     have c20b0 : (t269 == 0) = false := beq_eq_false_iff_ne.mpr c20
     have c20b1 : (t269 != 0) = true := bne_iff_ne.mpr c20
     (first | rw [c20b0] | (simp only [i64_w, i32_w]; rw [c20b0]) | skip)
     have H' := am H
     clear H
     go_wp2
     repeat (go_quiet (fail); try go_wp2)
     go_meet
     case rel => exact ⟨_, (true), q4, H', ⟨by first | omega | exact Nat.le_refl _⟩, ⟨u10_36⟩, ⟨u10_1⟩, ⟨u10_2⟩, ⟨u10_5⟩, ⟨q0⟩⟩
   rw [if_pos c20] at H
   have c20b0 : (t269 == 0) = true := beq_iff_eq.mpr c20
   have c20b1 : (t269 != 0) = false := bne_eq_false_iff_eq.mpr c20
   clear c20
   (first | rw [c20b0] | (simp only [i64_w, i32_w]; rw [c20b0]) | skip)
   by_cases c21 : (a3.size : Int) > 40
   · rw [if_pos c21] at H
     have c21b0 : decide (40 < (a3.size : Int)) = true := decide_eq_true c21
     have c21b1 : decide (40 < a3.size) = true := decide_eq_true (by omega)
     clear c21
     have H' := am H
     clear H
     go_wp2
     repeat (go_quiet (fail); try go_wp2)
     go_meet
     case rel => exact ⟨_, (true), q4, H', ⟨by first | omega | exact Nat.le_refl _⟩, ⟨u10_36⟩, ⟨u10_1⟩, ⟨u10_2⟩, ⟨u10_5⟩, ⟨q0⟩⟩
   rw [if_neg c21] at H
   have c21b0 : decide (40 < (a3.size : Int)) = false := decide_eq_false c21
   have c21b1 : decide (40 < a3.size) = false := decide_eq_false (by omega)
   clear c21
   have H' := am H
   clear H
   have hnb22 := NB261_262.out
   have hnc22 := NB262_261.out
   have hnb23 := NB261_268.out
   have hnc23 := NB268_261.out
   obtain ⟨hcz24_0, hcz24_1, hcz24_2, hfz24_0, hfz24_1, hfz24_2⟩ := bc3f w19 BK261.out
   go_wp2
   repeat (go_quiet (fail); try go_wp2)
   go_meet
   case rel => exact ⟨_, ((a0_1 == 1000000)), q4, H', ⟨by first | omega | exact Nat.le_refl _⟩, ⟨u10_36⟩, ⟨u10_1⟩, ⟨u10_2⟩, ⟨u10_5⟩, ⟨q0⟩⟩
 clear HC7
 try clear hcz11_0
 try clear hcz11_1
 try clear hcz11_2
 try clear hcz16_0
 try clear hcz16_1
 try clear hcz16_2
 try clear hcz18_0
 try clear hcz18_1
 try clear hcz18_2
 try clear hfz11_0
 try clear hfz11_1
 try clear hfz11_2
 try clear hfz16_0
 try clear hfz16_1
 try clear hfz16_2
 try clear hfz18_0
 try clear hfz18_1
 try clear hfz18_2
 obtain ⟨kq, x39_6, rfl, HA, HJ6, HO_269002, BK261, BK262, BK268, HB⟩ := hcut
 cases kq with
 | zero => exact absurd HA.out (by simp [impl_keep.j0])
 | succ kj6 =>
   have H := HA.out
   clear HA
   simp only [impl_keep.j0] at H
   by_cases c25 : x39_6 = true
   · subst c25
     rw [if_pos rfl] at H
     simp only [Option.some.injEq, Prod.mk.injEq] at H
     obtain ⟨rfl, rfl, rfl, rfl⟩ := H
     have hnb26 := NB268_261.out
     have hnc26 := NB261_268.out
     have hnb27 := NB268_262.out
     have hnc27 := NB262_268.out
     obtain ⟨hcz28_0, hcz28_1, hcz28_2, hfz28_0, hfz28_1, hfz28_2⟩ := bc3f wc BK268.out
     have hnb29 := NB262_261.out
     have hnc29 := NB261_262.out
     obtain ⟨hcz30_0, hcz30_1, hcz30_2, hfz30_0, hfz30_1, hfz30_2⟩ := bc3f wc BK262.out
     go_wp2
     repeat (go_quiet (fail); try go_wp2)
     refine bodyPost_ret (results_ct rfl _ _ gb262 30 #[.int .i64 t263, .int .i64 t264, .slice Ao17 t265.length co17] (0, 0) _ rfl (by (with_reducible repeat (first | refine blk_drewN ?_ _ | refine blk_drew ?_ | refine blk_alloc ?_ _)); refine blk_put (cs := #[.int .i64 t263, .int .i64 t264, .slice none 0 0]) ?_ 2 _ rfl; (with_reducible repeat (first | refine blk_drewN ?_ _ | refine blk_drew ?_ | refine blk_alloc ?_ _)); refine blk_put (cs := #[.int .i64 t263, .int .i64 0, .slice none 0 0]) ?_ 1 _ rfl; (with_reducible repeat (first | refine blk_drewN ?_ _ | refine blk_drew ?_ | refine blk_alloc ?_ _)); refine blk_put (cs := #[.int .i64 0, .int .i64 0, .slice none 0 0]) ?_ 0 _ rfl; (with_reducible repeat (first | refine blk_drewN ?_ _ | refine blk_drew ?_ | refine blk_alloc ?_ _)); exact BK262.out) Tryd.underlying30 rfl kr) rfl ?_
     exact ⟨_, er, (by (with_reducible repeat (first | apply Kd.R_alloc | apply Kd.R_drewN | apply Kd.R_drew)); exact Kd.R_mono (Kd.R_far (p := ⟨gb262, 2, none⟩) (Kd.R_far (p := ⟨gb262, 1, none⟩) (Kd.R_far (p := ⟨gb262, 0, none⟩) (Kd.R_types HO_269002.out BK262.out (by decide)) (fun _ hk => hk.2) (.int .i64 t263)) (fun _ hk => hk.2) (.int .i64 t264)) (fun _ hk => hk.2) (.slice Ao17 t265.length co17)) (fun _ hk => trivial)), q0⟩
   replace c25 := Bool.eq_false_iff.mpr c25
   subst c25
   rw [nf] at H
   replace H := Option.bind_eq_some_iff.mp H
   obtain ⟨t272, A310, H⟩ := H
   have A31 := am A310
   clear A310
   have H9 := am H
   clear H
   have hnb32 := NB268_261.out
   have hnc32 := NB261_268.out
   have hnb33 := NB268_262.out
   have hnc33 := NB262_268.out
   obtain ⟨hcz34_0, hcz34_1, hcz34_2, hfz34_0, hfz34_1, hfz34_2⟩ := bc3f wc BK268.out
   go_upto_if 55 with (first | ((with_reducible refine gate_dst (N := 13) rfl ?_); (try (refine gate_guard (by rfl) ?_; dsimp only)); refine box_event ?hg (N := 13) ?hd (cs := #[.int .i64 0, .int .i64 0, .int .i64 0, .string (⟨#[]⟩ : ByteArray)]) (t := 54) ?hr ?_; (case hd => rfl); (case hg => rfl); (case hr => first | (go_simp; done) | (go_simp; rfl)); intro gb271 hg w35 hbox hb; replace HO_269002 := am (Kd.R_below (Kd.R_elderB u10_35 gb271 (Nat.le_of_eq hg.symm)) hb); have BK271 := am (hbox); have GW271 := am ((by rw [hg]; exact (below_size q0) : w.heap.size ≤ gb271)); have GE271 := am ((by rw [hg]; exact (below_size q0) : w.heap.size ≤ gb271)); replace HB := am (below_step q0 hb); have NB261_271 := am ((by rw [hg]; exact Nat.ne_of_lt (blk_lt (g := gb261) (o := .cells #[.int .i64 a0_0, .int .i64 a0_1, .slice A0_2 l0_2.length c0_2] 30 (0, 0)) u10_9) : gb261 ≠ gb271)); have NB271_261 := am ((by rw [hg]; exact Nat.ne_of_gt (blk_lt (g := gb261) (o := .cells #[.int .i64 a0_0, .int .i64 a0_1, .slice A0_2 l0_2.length c0_2] 30 (0, 0)) u10_9) : gb271 ≠ gb261)); replace BK261 := am (blk_below (g := gb261) (o := .cells #[.int .i64 a0_0, .int .i64 a0_1, .slice A0_2 l0_2.length c0_2] 30 (0, 0)) u10_9 hb); have NB262_271 := am ((by rw [hg]; exact Nat.ne_of_lt (blk_lt (g := gb262) (o := .cells #[.int .i64 0, .int .i64 0, .slice none 0 0] 30 (0, 0)) u10_10) : gb262 ≠ gb271)); have NB271_262 := am ((by rw [hg]; exact Nat.ne_of_gt (blk_lt (g := gb262) (o := .cells #[.int .i64 0, .int .i64 0, .slice none 0 0] 30 (0, 0)) u10_10) : gb271 ≠ gb262)); replace BK262 := am (blk_below (g := gb262) (o := .cells #[.int .i64 0, .int .i64 0, .slice none 0 0] 30 (0, 0)) u10_10 hb); have NB268_271 := am ((by rw [hg]; exact Nat.ne_of_lt (blk_lt (g := gb268) (o := .cells #[.int .i64 t263, .int .i64 (wrap64 (t264 + 1)), .slice Ao17 t265.length co17] 30 (0, 0)) u10_7) : gb268 ≠ gb271)); have NB271_268 := am ((by rw [hg]; exact Nat.ne_of_gt (blk_lt (g := gb268) (o := .cells #[.int .i64 t263, .int .i64 (wrap64 (t264 + 1)), .slice Ao17 t265.length co17] 30 (0, 0)) u10_7) : gb271 ≠ gb268)); replace BK268 := am (blk_below (g := gb268) (o := .cells #[.int .i64 t263, .int .i64 (wrap64 (t264 + 1)), .slice Ao17 t265.length co17] 30 (0, 0)) u10_7 hb); clear hb hbox hg; have hnb36 := NB271_261.out; have hnc36 := NB261_271.out; have hnb37 := NB271_262.out; have hnc37 := NB262_271.out; have hnb38 := NB271_268.out; have hnc38 := NB268_271.out; obtain ⟨hcz39_0, hcz39_1, hcz39_2, hcz39_3, hfz39_0, hfz39_1, hfz39_2, hfz39_3⟩ := bc4f w35 BK271.out; obtain ⟨hcz40_0, hcz40_1, hcz40_2, hfz40_0, hfz40_1, hfz40_2⟩ := bc3f w35 BK268.out) | (go_at_call 47; (with_reducible refine (impl_sessionOf.calls t263 (wrap64 (t264 + 1)) _ _ t265 a1 t272 _ ?side1 ?side2 A31.out).mono ?_); (case side1 => exact u10_40); (case side2 => exact (Kd.R_reads' HO_269002.out).2.1); rintro e w41 ⟨rfl, hb⟩; replace HO_269002 := am (Kd.R_below u10_8 hb); replace BK261 := am (blk_below (g := gb261) (o := .cells #[.int .i64 a0_0, .int .i64 a0_1, .slice A0_2 l0_2.length c0_2] 30 (0, 0)) u10_15 hb); replace BK262 := am (blk_below (g := gb262) (o := .cells #[.int .i64 0, .int .i64 0, .slice none 0 0] 30 (0, 0)) u10_16 hb); replace BK268 := am (blk_below (g := gb268) (o := .cells #[.int .i64 t263, .int .i64 (wrap64 (t264 + 1)), .slice Ao17 t265.length co17] 30 (0, 0)) u10_17 hb); replace BK271 := am (blk_below (g := gb271) (o := .cells #[.int .i64 a1, .int .i64 a2, .int .i64 (wrap64 (t264 + 1)), .string a3] 54 (0, 0)) u10_13 hb); replace HB := am (below_step q0 hb); (try clear hb); (try clear hb2); (try clear hk); (try clear hi)))
   repeat (go_quiet (first | ((with_reducible refine gate_dst (N := 13) rfl ?_); (try (refine gate_guard (by rfl) ?_; dsimp only)); refine box_event ?hg (N := 13) ?hd (cs := #[.int .i64 0, .int .i64 0, .int .i64 0, .string (⟨#[]⟩ : ByteArray)]) (t := 54) ?hr ?_; (case hd => rfl); (case hg => rfl); (case hr => first | (go_simp; done) | (go_simp; rfl)); intro gb271 hg w35 hbox hb; replace HO_269002 := am (Kd.R_below (Kd.R_elderB u10_35 gb271 (Nat.le_of_eq hg.symm)) hb); have BK271 := am (hbox); have GW271 := am ((by rw [hg]; exact (below_size q0) : w.heap.size ≤ gb271)); have GE271 := am ((by rw [hg]; exact (below_size q0) : w.heap.size ≤ gb271)); replace HB := am (below_step q0 hb); have NB261_271 := am ((by rw [hg]; exact Nat.ne_of_lt (blk_lt (g := gb261) (o := .cells #[.int .i64 a0_0, .int .i64 a0_1, .slice A0_2 l0_2.length c0_2] 30 (0, 0)) u10_9) : gb261 ≠ gb271)); have NB271_261 := am ((by rw [hg]; exact Nat.ne_of_gt (blk_lt (g := gb261) (o := .cells #[.int .i64 a0_0, .int .i64 a0_1, .slice A0_2 l0_2.length c0_2] 30 (0, 0)) u10_9) : gb271 ≠ gb261)); replace BK261 := am (blk_below (g := gb261) (o := .cells #[.int .i64 a0_0, .int .i64 a0_1, .slice A0_2 l0_2.length c0_2] 30 (0, 0)) u10_9 hb); have NB262_271 := am ((by rw [hg]; exact Nat.ne_of_lt (blk_lt (g := gb262) (o := .cells #[.int .i64 0, .int .i64 0, .slice none 0 0] 30 (0, 0)) u10_10) : gb262 ≠ gb271)); have NB271_262 := am ((by rw [hg]; exact Nat.ne_of_gt (blk_lt (g := gb262) (o := .cells #[.int .i64 0, .int .i64 0, .slice none 0 0] 30 (0, 0)) u10_10) : gb271 ≠ gb262)); replace BK262 := am (blk_below (g := gb262) (o := .cells #[.int .i64 0, .int .i64 0, .slice none 0 0] 30 (0, 0)) u10_10 hb); have NB268_271 := am ((by rw [hg]; exact Nat.ne_of_lt (blk_lt (g := gb268) (o := .cells #[.int .i64 t263, .int .i64 (wrap64 (t264 + 1)), .slice Ao17 t265.length co17] 30 (0, 0)) u10_7) : gb268 ≠ gb271)); have NB271_268 := am ((by rw [hg]; exact Nat.ne_of_gt (blk_lt (g := gb268) (o := .cells #[.int .i64 t263, .int .i64 (wrap64 (t264 + 1)), .slice Ao17 t265.length co17] 30 (0, 0)) u10_7) : gb271 ≠ gb268)); replace BK268 := am (blk_below (g := gb268) (o := .cells #[.int .i64 t263, .int .i64 (wrap64 (t264 + 1)), .slice Ao17 t265.length co17] 30 (0, 0)) u10_7 hb); clear hb hbox hg; have hnb36 := NB271_261.out; have hnc36 := NB261_271.out; have hnb37 := NB271_262.out; have hnc37 := NB262_271.out; have hnb38 := NB271_268.out; have hnc38 := NB268_271.out; obtain ⟨hcz39_0, hcz39_1, hcz39_2, hcz39_3, hfz39_0, hfz39_1, hfz39_2, hfz39_3⟩ := bc4f w35 BK271.out; obtain ⟨hcz40_0, hcz40_1, hcz40_2, hfz40_0, hfz40_1, hfz40_2⟩ := bc3f w35 BK268.out) | (go_at_call 47; (with_reducible refine (impl_sessionOf.calls t263 (wrap64 (t264 + 1)) _ _ t265 a1 t272 _ ?side1 ?side2 A31.out).mono ?_); (case side1 => exact u10_40); (case side2 => exact (Kd.R_reads' HO_269002.out).2.1); rintro e w41 ⟨rfl, hb⟩; replace HO_269002 := am (Kd.R_below u10_8 hb); replace BK261 := am (blk_below (g := gb261) (o := .cells #[.int .i64 a0_0, .int .i64 a0_1, .slice A0_2 l0_2.length c0_2] 30 (0, 0)) u10_15 hb); replace BK262 := am (blk_below (g := gb262) (o := .cells #[.int .i64 0, .int .i64 0, .slice none 0 0] 30 (0, 0)) u10_16 hb); replace BK268 := am (blk_below (g := gb268) (o := .cells #[.int .i64 t263, .int .i64 (wrap64 (t264 + 1)), .slice Ao17 t265.length co17] 30 (0, 0)) u10_17 hb); replace BK271 := am (blk_below (g := gb271) (o := .cells #[.int .i64 a1, .int .i64 a2, .int .i64 (wrap64 (t264 + 1)), .string a3] 54 (0, 0)) u10_13 hb); replace HB := am (below_step q0 hb); (try clear hb); (try clear hb2); (try clear hk); (try clear hi))); go_upto_if 55 with (first | ((with_reducible refine gate_dst (N := 13) rfl ?_); (try (refine gate_guard (by rfl) ?_; dsimp only)); refine box_event ?hg (N := 13) ?hd (cs := #[.int .i64 0, .int .i64 0, .int .i64 0, .string (⟨#[]⟩ : ByteArray)]) (t := 54) ?hr ?_; (case hd => rfl); (case hg => rfl); (case hr => first | (go_simp; done) | (go_simp; rfl)); intro gb271 hg w35 hbox hb; replace HO_269002 := am (Kd.R_below (Kd.R_elderB u10_35 gb271 (Nat.le_of_eq hg.symm)) hb); have BK271 := am (hbox); have GW271 := am ((by rw [hg]; exact (below_size q0) : w.heap.size ≤ gb271)); have GE271 := am ((by rw [hg]; exact (below_size q0) : w.heap.size ≤ gb271)); replace HB := am (below_step q0 hb); have NB261_271 := am ((by rw [hg]; exact Nat.ne_of_lt (blk_lt (g := gb261) (o := .cells #[.int .i64 a0_0, .int .i64 a0_1, .slice A0_2 l0_2.length c0_2] 30 (0, 0)) u10_9) : gb261 ≠ gb271)); have NB271_261 := am ((by rw [hg]; exact Nat.ne_of_gt (blk_lt (g := gb261) (o := .cells #[.int .i64 a0_0, .int .i64 a0_1, .slice A0_2 l0_2.length c0_2] 30 (0, 0)) u10_9) : gb271 ≠ gb261)); replace BK261 := am (blk_below (g := gb261) (o := .cells #[.int .i64 a0_0, .int .i64 a0_1, .slice A0_2 l0_2.length c0_2] 30 (0, 0)) u10_9 hb); have NB262_271 := am ((by rw [hg]; exact Nat.ne_of_lt (blk_lt (g := gb262) (o := .cells #[.int .i64 0, .int .i64 0, .slice none 0 0] 30 (0, 0)) u10_10) : gb262 ≠ gb271)); have NB271_262 := am ((by rw [hg]; exact Nat.ne_of_gt (blk_lt (g := gb262) (o := .cells #[.int .i64 0, .int .i64 0, .slice none 0 0] 30 (0, 0)) u10_10) : gb271 ≠ gb262)); replace BK262 := am (blk_below (g := gb262) (o := .cells #[.int .i64 0, .int .i64 0, .slice none 0 0] 30 (0, 0)) u10_10 hb); have NB268_271 := am ((by rw [hg]; exact Nat.ne_of_lt (blk_lt (g := gb268) (o := .cells #[.int .i64 t263, .int .i64 (wrap64 (t264 + 1)), .slice Ao17 t265.length co17] 30 (0, 0)) u10_7) : gb268 ≠ gb271)); have NB271_268 := am ((by rw [hg]; exact Nat.ne_of_gt (blk_lt (g := gb268) (o := .cells #[.int .i64 t263, .int .i64 (wrap64 (t264 + 1)), .slice Ao17 t265.length co17] 30 (0, 0)) u10_7) : gb271 ≠ gb268)); replace BK268 := am (blk_below (g := gb268) (o := .cells #[.int .i64 t263, .int .i64 (wrap64 (t264 + 1)), .slice Ao17 t265.length co17] 30 (0, 0)) u10_7 hb); clear hb hbox hg; have hnb36 := NB271_261.out; have hnc36 := NB261_271.out; have hnb37 := NB271_262.out; have hnc37 := NB262_271.out; have hnb38 := NB271_268.out; have hnc38 := NB268_271.out; obtain ⟨hcz39_0, hcz39_1, hcz39_2, hcz39_3, hfz39_0, hfz39_1, hfz39_2, hfz39_3⟩ := bc4f w35 BK271.out; obtain ⟨hcz40_0, hcz40_1, hcz40_2, hfz40_0, hfz40_1, hfz40_2⟩ := bc3f w35 BK268.out) | (go_at_call 47; (with_reducible refine (impl_sessionOf.calls t263 (wrap64 (t264 + 1)) _ _ t265 a1 t272 _ ?side1 ?side2 A31.out).mono ?_); (case side1 => exact u10_40); (case side2 => exact (Kd.R_reads' HO_269002.out).2.1); rintro e w41 ⟨rfl, hb⟩; replace HO_269002 := am (Kd.R_below u10_8 hb); replace BK261 := am (blk_below (g := gb261) (o := .cells #[.int .i64 a0_0, .int .i64 a0_1, .slice A0_2 l0_2.length c0_2] 30 (0, 0)) u10_15 hb); replace BK262 := am (blk_below (g := gb262) (o := .cells #[.int .i64 0, .int .i64 0, .slice none 0 0] 30 (0, 0)) u10_16 hb); replace BK268 := am (blk_below (g := gb268) (o := .cells #[.int .i64 t263, .int .i64 (wrap64 (t264 + 1)), .slice Ao17 t265.length co17] 30 (0, 0)) u10_17 hb); replace BK271 := am (blk_below (g := gb271) (o := .cells #[.int .i64 a1, .int .i64 a2, .int .i64 (wrap64 (t264 + 1)), .string a3] 54 (0, 0)) u10_13 hb); replace HB := am (below_step q0 hb); (try clear hb); (try clear hb2); (try clear hk); (try clear hi))))
   have H := H9.out
   clear H9
   by_cases c42 : t272 ≥ 0
   · rw [if_pos c42] at H
     have c42b0 : decide (0 ≤ t272) = true := decide_eq_true c42
     clear c42
     (first | rw [c42b0] | (simp only [i64_w, i32_w]; rw [c42b0]) | skip)
     by_cases c43 : 0 ≤ t272
     rotate_left
     · rw [if_neg c43] at H
       exact absurd H (by simp)
     rw [if_pos c43] at H
     have c43b0 : decide (0 ≤ t272) = true := decide_eq_true c43
     clear c43
     by_cases c44 : t272 < (t265.length : Int)
     rotate_left
     · rw [if_neg c44] at H
       exact absurd H (by simp)
     rw [if_pos c44] at H
     have c44b0 : decide (t272 < (t265.length : Int)) = true := decide_eq_true c44
     clear c44
     obtain ⟨y273, hy273⟩ : ∃ y_ : List (S54), y_ = (t265.set (t272 : Int).toNat (⟨a1, a2, wrap64 (t264 + 1), a3⟩ : S54)) := ⟨_, rfl⟩
     replace H : (some (t263, wrap64 (t264 + 1), y273, true)) = some (r1, r2, r3, r4) := by first | (rw [hy273]; with_reducible exact H) | (have H2_ := (Option.bind_some _ _).symm.trans H; rw [hy273]; with_reducible exact H2_) | (have H2_ := (Option.bind_some _ _).symm.trans H; with_reducible exact H2_) | with_reducible exact H | (rw [hy273]; exact H) | exact H
     have Ny273 := am hy273
     clear hy273
     simp only [Option.some.injEq, Prod.mk.injEq] at H
     obtain ⟨rfl, rfl, rfl, rfl⟩ := H
     have hnb46 := NB268_261.out
     have hnc46 := NB261_268.out
     have hnb47 := NB268_262.out
     have hnc47 := NB262_268.out
     have hnb48 := NB268_271.out
     have hnc48 := NB271_268.out
     obtain ⟨hcz49_0, hcz49_1, hcz49_2, hfz49_0, hfz49_1, hfz49_2⟩ := bc3f w41 BK268.out
     have hnb50 := NB271_261.out
     have hnc50 := NB261_271.out
     have hnb51 := NB271_262.out
     have hnc51 := NB262_271.out
     obtain ⟨hcz52_0, hcz52_1, hcz52_2, hcz52_3, hfz52_0, hfz52_1, hfz52_2, hfz52_3⟩ := bc4f w41 BK271.out
     have p45 : 0 ≤ (t272 : Int) := of_decide_eq_true q3
     have q45 : (t272 : Int) < ((t265.length : Int) : Int) := of_decide_eq_true q3
     obtain ⟨go45, co45, eo45, gb45, gl45, cl45, HG45⟩ := Kd.R_form HO_269002.out (by omega)
     (first | cases eo45 | (injection eo45 with ea_ en_ ec_; (first | subst ea_ | (injection ea_ with ea_; subst ea_)); subst ec_; clear en_))
     have GB45 := am gb45
     have GG45 := am HG45
     clear gb45 gl45 HG45
     obtain ⟨ce45, hcl45, hM45, hcc45, hfr45⟩ := Kd.R_elem HO_269002.out z54 (t272 : Int) p45 q45
     obtain rfl := k54_openM hM45
     have hx45_0 : w41.cell? ⟨go45, (t272 : Int).toNat * 4, none⟩ = some (.int .i64 ((rd_T54 t265 t272).f0)) := hcc45 0 _ rfl
     have hx45_1 : w41.cell? ⟨go45, (t272 : Int).toNat * 4 + 1, none⟩ = some (.int .i64 ((rd_T54 t265 t272).f1)) := hcc45 1 _ rfl
     have hx45_2 : w41.cell? ⟨go45, (t272 : Int).toNat * 4 + 2, none⟩ = some (.int .i64 ((rd_T54 t265 t272).f2)) := hcc45 2 _ rfl
     have hx45_3 : w41.cell? ⟨go45, (t272 : Int).toNat * 4 + 3, none⟩ = some (.string ((rd_T54 t265 t272).f3)) := hcc45 3 _ rfl
     have hf45_0 : w41.frozen? ⟨go45, (t272 : Int).toNat * 4, none⟩ = false := hfr45 0
     have hf45_1 : w41.frozen? ⟨go45, (t272 : Int).toNat * 4 + 1, none⟩ = false := hfr45 1
     have hf45_2 : w41.frozen? ⟨go45, (t272 : Int).toNat * 4 + 2, none⟩ = false := hfr45 2
     have hf45_3 : w41.frozen? ⟨go45, (t272 : Int).toNat * 4 + 3, none⟩ = false := hfr45 3
     clear hcl45 hcc45 hfr45 hM45
     replace p45 := eq_true p45
     replace q45 := eq_true q45
     have n_ := am (Kd.R_mono (ok' := (fun k_ => k_ ≠ gb271)) HO_269002.out (fun k_ hk => hk.2))
     clear HO_269002
     have HO_269002 := n_
     clear n_
     have HX53 := am (show Kd.R k54 54 w41 w.heap.size (fun k_ => k_ ≠ gb271) (.slice (some ⟨go45, 0, none⟩) t265.length co17) t265 from u10_12)
     obtain ⟨ce53, hcl53, hM53, hcc53, hfr53⟩ := Kd.R_elem HX53.out z54 (t272 : Int) (of_decide_eq_true q3) (by have h_ : (t272 : Int) < ((t265.length : Int) : Int) := of_decide_eq_true q3; first | exact h_ | (have e_ := (Kd.R_reads' HO_269002.out).1; omega) | simpa using h_)
     obtain rfl := k54_openM hM53
     have HP53 := Kd.R_seg HX53.out (t272 : Int) (of_decide_eq_true q3) (by have h_ : (t272 : Int) < ((t265.length : Int) : Int) := of_decide_eq_true q3; first | exact h_ | (have e_ := (Kd.R_reads' HO_269002.out).1; omega) | simpa using h_) (seg := [.int .i64 a1, .int .i64 a2, .int .i64 (wrap64 (t264 + 1)), .string a3]) (j := 0) hcl53 hcc53 (show 4 ≤ 4 from by decide) (x' := (⟨a1, a2, wrap64 (t264 + 1), a3⟩ : S54)) (k54_mkM _ _ _ (⟨a1, a2, wrap64 (t264 + 1), a3⟩ : S54) ) (fun _ hk => hk)
     have hx53_0 := hcc53 0 _ rfl
     (try simp only [show (k54).sz = 4 from rfl, Nat.mul_one, Nat.add_zero] at hx53_0)
     have hf53_0 := hfr53 0
     (try simp only [show (k54).sz = 4 from rfl, Nat.mul_one, Nat.add_zero] at hf53_0)
     have hx53_1 := hcc53 1 _ rfl
     (try simp only [show (k54).sz = 4 from rfl, Nat.mul_one, Nat.add_zero] at hx53_1)
     have hf53_1 := hfr53 1
     (try simp only [show (k54).sz = 4 from rfl, Nat.mul_one, Nat.add_zero] at hf53_1)
     have hx53_2 := hcc53 2 _ rfl
     (try simp only [show (k54).sz = 4 from rfl, Nat.mul_one, Nat.add_zero] at hx53_2)
     have hf53_2 := hfr53 2
     (try simp only [show (k54).sz = 4 from rfl, Nat.mul_one, Nat.add_zero] at hf53_2)
     have hx53_3 := hcc53 3 _ rfl
     (try simp only [show (k54).sz = 4 from rfl, Nat.mul_one, Nat.add_zero] at hx53_3)
     have hf53_3 := hfr53 3
     (try simp only [show (k54).sz = 4 from rfl, Nat.mul_one, Nat.add_zero] at hf53_3)
     clear hcl53 hcc53 hfr53 hM53
     go_wp2_with (first | (first | ((with_reducible refine gate_store (t := 54) (p := 60) rfl ?_); (try (rw [drewN_self w41]; generalize hq_ : World.drewN w41 _ = w41; have n0_ := am (Kd.R_at hq_ HO_269002.out); have n1_ := am (blk_at hq_ BK261.out); have n2_ := am (blk_at hq_ BK262.out); have n3_ := am (blk_at hq_ BK268.out); have n4_ := am (blk_at hq_ BK271.out); have n5_ := am (below_at hq_ HB.out); clear hq_ HO_269002 BK261 BK262 BK268 BK271 HB; have HO_269002 := n0_; have BK261 := n1_; have BK262 := n2_; have BK268 := n3_; have BK271 := n4_; have HB := n5_; clear n0_ n1_ n2_ n3_ n4_ n5_; (try (have n_ := am (Kd.R_mono (ok' := (fun k_ => k_ ≠ gb271)) HO_269002.out (fun k_ hk => hk.2)); clear HO_269002; have HO_269002 := n_; clear n_)); (try (have HX53 := am (show Kd.R k54 54 w41 w.heap.size (fun k_ => k_ ≠ gb271) (.slice (some ⟨go45, 0, none⟩) t265.length co17) t265 from u10_12))); (try (obtain ⟨ce53, hcl53, hM53, hcc53, hfr53⟩ := Kd.R_elem HX53.out z54 (t272 : Int) (of_decide_eq_true q3) (by have h_ : (t272 : Int) < ((t265.length : Int) : Int) := of_decide_eq_true q3; first | exact h_ | (have e_ := (Kd.R_reads' HO_269002.out).1; omega) | simpa using h_))); (try (obtain rfl := k54_openM hM53)); (try (have HP53 := Kd.R_seg HX53.out (t272 : Int) (of_decide_eq_true q3) (by have h_ : (t272 : Int) < ((t265.length : Int) : Int) := of_decide_eq_true q3; first | exact h_ | (have e_ := (Kd.R_reads' HO_269002.out).1; omega) | simpa using h_) (seg := [.int .i64 a1, .int .i64 a2, .int .i64 (wrap64 (t264 + 1)), .string a3]) (j := 0) hcl53 hcc53 (show 4 ≤ 4 from by decide) (x' := (⟨a1, a2, wrap64 (t264 + 1), a3⟩ : S54)) (k54_mkM _ _ _ (⟨a1, a2, wrap64 (t264 + 1), a3⟩ : S54) ) (fun _ hk => hk))); (try (have hx53_0 := hcc53 0 _ rfl)); (try (try simp only [show (k54).sz = 4 from rfl, Nat.mul_one, Nat.add_zero] at hx53_0)); (try (have hf53_0 := hfr53 0)); (try (try simp only [show (k54).sz = 4 from rfl, Nat.mul_one, Nat.add_zero] at hf53_0)); (try (have hx53_1 := hcc53 1 _ rfl)); (try (try simp only [show (k54).sz = 4 from rfl, Nat.mul_one, Nat.add_zero] at hx53_1)); (try (have hf53_1 := hfr53 1)); (try (try simp only [show (k54).sz = 4 from rfl, Nat.mul_one, Nat.add_zero] at hf53_1)); (try (have hx53_2 := hcc53 2 _ rfl)); (try (try simp only [show (k54).sz = 4 from rfl, Nat.mul_one, Nat.add_zero] at hx53_2)); (try (have hf53_2 := hfr53 2)); (try (try simp only [show (k54).sz = 4 from rfl, Nat.mul_one, Nat.add_zero] at hf53_2)); (try (have hx53_3 := hcc53 3 _ rfl)); (try (try simp only [show (k54).sz = 4 from rfl, Nat.mul_one, Nat.add_zero] at hx53_3)); (try (have hf53_3 := hfr53 3)); (try (try simp only [show (k54).sz = 4 from rfl, Nat.mul_one, Nat.add_zero] at hf53_3)); (try (clear hcl53 hcc53 hfr53 hM53)))); refine store_event (t := 54) (p := 60) (v := ?vo_w54) (w1 := ((((w41.setCell ⟨go45, (t272 : Int).toNat * 4, none⟩ (.int .i64 a1)).setCell ⟨go45, (t272 : Int).toNat * 4 + 1, none⟩ (.int .i64 a2)).setCell ⟨go45, (t272 : Int).toNat * 4 + 2, none⟩ (.int .i64 (wrap64 (t264 + 1)))).setCell ⟨go45, (t272 : Int).toNat * 4 + 3, none⟩ (.string a3))) ?hg ?ho ?hn ?hr ?_; (case ho => rfl); (case hg => rfl); (case hn => rfl); (case hr => first | (go_simp; done) | (go_simp; rfl)); intro w54 hw; have hg : w41.grownBy w54 (some go45) := (by rw [hw]; exact HP53.2); have hp_ : Kd.R k54 54 w54 w.heap.size (fun k_ => k_ ≠ gb271) (.slice (some ⟨go45, 0, none⟩) t265.length co17) y273 := (by rw [hw, Ny273.out]; exact HP53.1); clear HP53; replace BK261 := am (blk_grown (g := gb261) (o := .cells #[.int .i64 a0_0, .int .i64 a0_1, .slice A0_2 l0_2.length c0_2] 30 (0, 0)) u10_1 hg (Kd.R_ne HO_269002.out BK261.out (by decide))); replace BK262 := am (blk_grown (g := gb262) (o := .cells #[.int .i64 0, .int .i64 0, .slice none 0 0] 30 (0, 0)) u10_2 hg (Kd.R_ne HO_269002.out BK262.out (by decide))); replace BK268 := am (blk_grown (g := gb268) (o := .cells #[.int .i64 t263, .int .i64 (wrap64 (t264 + 1)), .slice (some ⟨go45, 0, none⟩) t265.length co17] 30 (0, 0)) u10_5 hg (Kd.R_ne HO_269002.out BK268.out (by decide))); replace BK271 := am (blk_grown (g := gb271) (o := .cells #[.int .i64 a1, .int .i64 a2, .int .i64 (wrap64 (t264 + 1)), .string a3] 54 (0, 0)) u10_3 hg (Kd.R_away HO_269002.out (fun _ hk => hk))); replace HO_269002 := am (hp_); replace HB := am ((by rw [hw]; exact below_set (below_set (below_set (below_set (HB.out) GB45.out) GB45.out) GB45.out) GB45.out : Below w.heap.size w w54)); clear hg hw hp_; obtain ⟨hcz55_0, hcz55_1, hcz55_2, hfz55_0, hfz55_1, hfz55_2⟩ := bc3f w54 BK268.out; have hnb56 := NB262_261.out; have hnc56 := NB261_262.out; obtain ⟨hcz57_0, hcz57_1, hcz57_2, hfz57_0, hfz57_1, hfz57_2⟩ := bc3f w54 BK262.out)) | go_quiet (first | ((with_reducible refine gate_store (t := 54) (p := 60) rfl ?_); (try (rw [drewN_self w41]; generalize hq_ : World.drewN w41 _ = w41; have n0_ := am (Kd.R_at hq_ HO_269002.out); have n1_ := am (blk_at hq_ BK261.out); have n2_ := am (blk_at hq_ BK262.out); have n3_ := am (blk_at hq_ BK268.out); have n4_ := am (blk_at hq_ BK271.out); have n5_ := am (below_at hq_ HB.out); clear hq_ HO_269002 BK261 BK262 BK268 BK271 HB; have HO_269002 := n0_; have BK261 := n1_; have BK262 := n2_; have BK268 := n3_; have BK271 := n4_; have HB := n5_; clear n0_ n1_ n2_ n3_ n4_ n5_; (try (have n_ := am (Kd.R_mono (ok' := (fun k_ => k_ ≠ gb271)) HO_269002.out (fun k_ hk => hk.2)); clear HO_269002; have HO_269002 := n_; clear n_)); (try (have HX53 := am (show Kd.R k54 54 w41 w.heap.size (fun k_ => k_ ≠ gb271) (.slice (some ⟨go45, 0, none⟩) t265.length co17) t265 from u10_12))); (try (obtain ⟨ce53, hcl53, hM53, hcc53, hfr53⟩ := Kd.R_elem HX53.out z54 (t272 : Int) (of_decide_eq_true q3) (by have h_ : (t272 : Int) < ((t265.length : Int) : Int) := of_decide_eq_true q3; first | exact h_ | (have e_ := (Kd.R_reads' HO_269002.out).1; omega) | simpa using h_))); (try (obtain rfl := k54_openM hM53)); (try (have HP53 := Kd.R_seg HX53.out (t272 : Int) (of_decide_eq_true q3) (by have h_ : (t272 : Int) < ((t265.length : Int) : Int) := of_decide_eq_true q3; first | exact h_ | (have e_ := (Kd.R_reads' HO_269002.out).1; omega) | simpa using h_) (seg := [.int .i64 a1, .int .i64 a2, .int .i64 (wrap64 (t264 + 1)), .string a3]) (j := 0) hcl53 hcc53 (show 4 ≤ 4 from by decide) (x' := (⟨a1, a2, wrap64 (t264 + 1), a3⟩ : S54)) (k54_mkM _ _ _ (⟨a1, a2, wrap64 (t264 + 1), a3⟩ : S54) ) (fun _ hk => hk))); (try (have hx53_0 := hcc53 0 _ rfl)); (try (try simp only [show (k54).sz = 4 from rfl, Nat.mul_one, Nat.add_zero] at hx53_0)); (try (have hf53_0 := hfr53 0)); (try (try simp only [show (k54).sz = 4 from rfl, Nat.mul_one, Nat.add_zero] at hf53_0)); (try (have hx53_1 := hcc53 1 _ rfl)); (try (try simp only [show (k54).sz = 4 from rfl, Nat.mul_one, Nat.add_zero] at hx53_1)); (try (have hf53_1 := hfr53 1)); (try (try simp only [show (k54).sz = 4 from rfl, Nat.mul_one, Nat.add_zero] at hf53_1)); (try (have hx53_2 := hcc53 2 _ rfl)); (try (try simp only [show (k54).sz = 4 from rfl, Nat.mul_one, Nat.add_zero] at hx53_2)); (try (have hf53_2 := hfr53 2)); (try (try simp only [show (k54).sz = 4 from rfl, Nat.mul_one, Nat.add_zero] at hf53_2)); (try (have hx53_3 := hcc53 3 _ rfl)); (try (try simp only [show (k54).sz = 4 from rfl, Nat.mul_one, Nat.add_zero] at hx53_3)); (try (have hf53_3 := hfr53 3)); (try (try simp only [show (k54).sz = 4 from rfl, Nat.mul_one, Nat.add_zero] at hf53_3)); (try (clear hcl53 hcc53 hfr53 hM53)))); refine store_event (t := 54) (p := 60) (v := ?vo_w54) (w1 := ((((w41.setCell ⟨go45, (t272 : Int).toNat * 4, none⟩ (.int .i64 a1)).setCell ⟨go45, (t272 : Int).toNat * 4 + 1, none⟩ (.int .i64 a2)).setCell ⟨go45, (t272 : Int).toNat * 4 + 2, none⟩ (.int .i64 (wrap64 (t264 + 1)))).setCell ⟨go45, (t272 : Int).toNat * 4 + 3, none⟩ (.string a3))) ?hg ?ho ?hn ?hr ?_; (case ho => rfl); (case hg => rfl); (case hn => rfl); (case hr => first | (go_simp; done) | (go_simp; rfl)); intro w54 hw; have hg : w41.grownBy w54 (some go45) := (by rw [hw]; exact HP53.2); have hp_ : Kd.R k54 54 w54 w.heap.size (fun k_ => k_ ≠ gb271) (.slice (some ⟨go45, 0, none⟩) t265.length co17) y273 := (by rw [hw, Ny273.out]; exact HP53.1); clear HP53; replace BK261 := am (blk_grown (g := gb261) (o := .cells #[.int .i64 a0_0, .int .i64 a0_1, .slice A0_2 l0_2.length c0_2] 30 (0, 0)) u10_1 hg (Kd.R_ne HO_269002.out BK261.out (by decide))); replace BK262 := am (blk_grown (g := gb262) (o := .cells #[.int .i64 0, .int .i64 0, .slice none 0 0] 30 (0, 0)) u10_2 hg (Kd.R_ne HO_269002.out BK262.out (by decide))); replace BK268 := am (blk_grown (g := gb268) (o := .cells #[.int .i64 t263, .int .i64 (wrap64 (t264 + 1)), .slice (some ⟨go45, 0, none⟩) t265.length co17] 30 (0, 0)) u10_5 hg (Kd.R_ne HO_269002.out BK268.out (by decide))); replace BK271 := am (blk_grown (g := gb271) (o := .cells #[.int .i64 a1, .int .i64 a2, .int .i64 (wrap64 (t264 + 1)), .string a3] 54 (0, 0)) u10_3 hg (Kd.R_away HO_269002.out (fun _ hk => hk))); replace HO_269002 := am (hp_); replace HB := am ((by rw [hw]; exact below_set (below_set (below_set (below_set (HB.out) GB45.out) GB45.out) GB45.out) GB45.out : Below w.heap.size w w54)); clear hg hw hp_; obtain ⟨hcz55_0, hcz55_1, hcz55_2, hfz55_0, hfz55_1, hfz55_2⟩ := bc3f w54 BK268.out; have hnb56 := NB262_261.out; have hnc56 := NB261_262.out; obtain ⟨hcz57_0, hcz57_1, hcz57_2, hfz57_0, hfz57_1, hfz57_2⟩ := bc3f w54 BK262.out)))
     refine bodyPost_ret (results_ct rfl _ _ gb262 30 #[.int .i64 t263, .int .i64 (wrap64 (t264 + 1)), .slice (some ⟨go45, 0, none⟩) t265.length co17] (0, 0) _ rfl (by (with_reducible repeat (first | refine blk_drewN ?_ _ | refine blk_drew ?_ | refine blk_alloc ?_ _)); refine blk_put (cs := #[.int .i64 t263, .int .i64 (wrap64 (t264 + 1)), .slice none 0 0]) ?_ 2 _ rfl; (with_reducible repeat (first | refine blk_drewN ?_ _ | refine blk_drew ?_ | refine blk_alloc ?_ _)); refine blk_put (cs := #[.int .i64 t263, .int .i64 0, .slice none 0 0]) ?_ 1 _ rfl; (with_reducible repeat (first | refine blk_drewN ?_ _ | refine blk_drew ?_ | refine blk_alloc ?_ _)); refine blk_put (cs := #[.int .i64 0, .int .i64 0, .slice none 0 0]) ?_ 0 _ rfl; (with_reducible repeat (first | refine blk_drewN ?_ _ | refine blk_drew ?_ | refine blk_alloc ?_ _)); exact BK262.out) Tryd.underlying30 rfl kr) rfl ?_
     exact ⟨_, er, (by (with_reducible repeat (first | apply Kd.R_alloc | apply Kd.R_drewN | apply Kd.R_drew)); exact Kd.R_mono (Kd.R_far (p := ⟨gb262, 2, none⟩) (Kd.R_far (p := ⟨gb262, 1, none⟩) (Kd.R_far (p := ⟨gb262, 0, none⟩) (Kd.R_types HO_269002.out BK262.out (by decide)) (fun _ hk => hk.2) (.int .i64 t263)) (fun _ hk => hk.2) (.int .i64 (wrap64 (t264 + 1)))) (fun _ hk => hk.2) (.slice (some ⟨go45, 0, none⟩) t265.length co17)) (fun _ hk => trivial)), q0⟩
   rw [if_neg c42] at H
   have c42b0 : decide (0 ≤ t272) = false := decide_eq_false c42
   clear c42
   (first | rw [c42b0] | (simp only [i64_w, i32_w]; rw [c42b0]) | skip)
   have HC58 := am H
   clear H
   have hnb59 := NB268_261.out
   have hnc59 := NB261_268.out
   have hnb60 := NB268_262.out
   have hnc60 := NB262_268.out
   have hnb61 := NB268_271.out
   have hnc61 := NB271_268.out
   obtain ⟨hcz62_0, hcz62_1, hcz62_2, hfz62_0, hfz62_1, hfz62_2⟩ := bc3f w41 BK268.out
   go_upto_if 67 with (fail)
   repeat (go_quiet (fail); go_upto_if 67 with (fail))
   go_cut [] (fun wc => ∃ (kq : Nat) (x269002_57 : List (S54)) (u269002 : Value), Aside0 (impl_keep.j2 kq a1 t263 (wrap64 (t264 + 1)) x269002_57 a1 a2 (wrap64 (t264 + 1)) a3 = some (r1, r2, r3, r4)) ∧ Aside0 (kq ≤ kj6) ∧ Aside0 (Kd.R k54 54 wc w.heap.size (fun k_ => k_ ≠ gb271) u269002 x269002_57) ∧ Aside0 (wc.heap[gb261]? = some (.cells #[.int .i64 a0_0, .int .i64 a0_1, (.slice A0_2 l0_2.length c0_2)] 30 (0, 0))) ∧ Aside0 (wc.heap[gb262]? = some (.cells #[.int .i64 0, .int .i64 0, (.slice none 0 0)] 30 (0, 0))) ∧ Aside0 (wc.heap[gb268]? = some (.cells #[.int .i64 t263, .int .i64 (wrap64 (t264 + 1)), u269002] 30 (0, 0))) ∧ Aside0 (wc.heap[gb271]? = some (.cells #[.int .i64 a1, .int .i64 a2, .int .i64 (wrap64 (t264 + 1)), .string a3] 54 (0, 0))) ∧ Aside0 (Below w.heap.size w wc))
   case first =>
     have H := HC58.out
     clear HC58
     by_cases c63 : (t265.length : Int) = t263
     rotate_left
     · rw [if_neg c63] at H
       have c63b0 : ((t265.length : Int) == t263) = false := beq_eq_false_iff_ne.mpr c63
       have c63b1 : ((t265.length : Int) != t263) = true := bne_iff_ne.mpr c63
       (first | rw [c63b0] | (simp only [i64_w, i32_w]; rw [c63b0]) | skip)
       have H' := am H
       clear H
       go_wp2
       repeat (go_quiet (fail); try go_wp2)
       go_meet
       case rel => exact ⟨_, (t265), (.slice Ao17 t265.length co17), H', ⟨(by have := HJ6.out; first | omega | exact Nat.le_refl _)⟩, ⟨u10_41⟩, ⟨u10_1⟩, ⟨u10_2⟩, ⟨u10_5⟩, ⟨u10_3⟩, ⟨q0⟩⟩
     rw [if_pos c63] at H
     have c63b0 : ((t265.length : Int) == t263) = true := beq_iff_eq.mpr c63
     have c63b1 : ((t265.length : Int) != t263) = false := bne_eq_false_iff_eq.mpr c63
     clear c63
     (first | rw [c63b0] | (simp only [i64_w, i32_w]; rw [c63b0]) | skip)
     have H' := am H
     clear H
     have hnb64 := NB268_261.out
     have hnc64 := NB261_268.out
     have hnb65 := NB268_262.out
     have hnc65 := NB262_268.out
     have hnb66 := NB268_271.out
     have hnc66 := NB271_268.out
     obtain ⟨hcz67_0, hcz67_1, hcz67_2, hfz67_0, hfz67_1, hfz67_2⟩ := bc3f w41 BK268.out
     go_wp2
     repeat (go_quiet (fail); try go_wp2)
     go_loopg [15, 71] kj6 (fun kq v15 v71 w' => ∃ (x15_2 : Int) (x71_2 : Int), v15 = .int .i64 x15_2 ∧ v71 = .int .i64 x71_2 ∧ Aside0 (impl_keep.l0 kq a1 x15_2 t265 (t265.length : Int) x71_2 t263 (wrap64 (t264 + 1)) t265 a1 a2 (wrap64 (t264 + 1)) a3 = some (r1, r2, r3, r4)) ∧ Aside0 (kq ≤ kj6) ∧ Aside0 (Kd.R k54 54 w' w.heap.size (fun k_ => k_ ≠ gb271) (.slice Ao17 t265.length co17) t265) ∧ Aside0 (Kd.R k54 54 w' w.heap.size (fun k_ => k_ ≠ gb271) (.slice Ao17 t265.length co17) t265) ∧ Aside0 (w'.heap[gb261]? = some (.cells #[.int .i64 a0_0, .int .i64 a0_1, (.slice A0_2 l0_2.length c0_2)] 30 (0, 0))) ∧ Aside0 (w'.heap[gb262]? = some (.cells #[.int .i64 0, .int .i64 0, (.slice none 0 0)] 30 (0, 0))) ∧ Aside0 (w'.heap[gb268]? = some (.cells #[.int .i64 t263, .int .i64 (wrap64 (t264 + 1)), (.slice Ao17 t265.length co17)] 30 (0, 0))) ∧ Aside0 (w'.heap[gb271]? = some (.cells #[.int .i64 a1, .int .i64 a2, .int .i64 (wrap64 (t264 + 1)), .string a3] 54 (0, 0))) ∧ Aside0 (Below w.heap.size w w'))
     case atStart => exact ⟨(0), (0), q4, q4, H', ⟨Nat.le_refl _⟩, ⟨u10_41⟩, ⟨u10_41⟩, ⟨u10_1⟩, ⟨u10_2⟩, ⟨u10_5⟩, ⟨u10_3⟩, ⟨q0⟩⟩
     clear H'
     try clear c25
     try clear c42
     try clear c42b0
     try clear c63
     try clear c63b0
     try clear c63b1
     try clear hcz11_0
     try clear hcz11_1
     try clear hcz11_2
     try clear hcz16_0
     try clear hcz16_1
     try clear hcz16_2
     try clear hcz18_0
     try clear hcz18_1
     try clear hcz18_2
     try clear hcz34_0
     try clear hcz34_1
     try clear hcz34_2
     try clear hcz39_0
     try clear hcz39_1
     try clear hcz39_2
     try clear hcz39_3
     try clear hcz40_0
     try clear hcz40_1
     try clear hcz40_2
     try clear hcz62_0
     try clear hcz62_1
     try clear hcz62_2
     try clear hcz67_0
     try clear hcz67_1
     try clear hcz67_2
     try clear hfz11_0
     try clear hfz11_1
     try clear hfz11_2
     try clear hfz16_0
     try clear hfz16_1
     try clear hfz16_2
     try clear hfz18_0
     try clear hfz18_1
     try clear hfz18_2
     try clear hfz34_0
     try clear hfz34_1
     try clear hfz34_2
     try clear hfz39_0
     try clear hfz39_1
     try clear hfz39_2
     try clear hfz39_3
     try clear hfz40_0
     try clear hfz40_1
     try clear hfz40_2
     try clear hfz62_0
     try clear hfz62_1
     try clear hfz62_2
     try clear hfz67_0
     try clear hfz67_1
     try clear hfz67_2
     obtain ⟨x15_2, x71_2, rfl, rfl, HA, HK2, HO_69, HO_269002, BK261, BK262, BK268, BK271, HB⟩ := hrel
     cases gk with
     | zero => exact absurd HA.out (by simp [impl_keep.l0])
     | succ k2 =>
       have H := HA.out
       clear HA
       simp only [impl_keep.l0] at H
       by_cases c68 : x71_2 < (t265.length : Int)
       rotate_left
       · rw [if_neg c68] at H
         have c68b0 : decide (x71_2 < (t265.length : Int)) = false := decide_eq_false c68
         clear c68
         replace H := Option.bind_eq_some_iff.mp H
         obtain ⟨t277, A840, H⟩ := H
         replace H : (impl_keep.j2 k2 a1 t263 (wrap64 (t264 + 1)) t277 a1 a2 (wrap64 (t264 + 1)) a3) = some (r1, r2, r3, r4) := H
         have A84 := am A840
         clear A840
         have H' := am H
         clear H
         have hnb85 := NB268_261.out
         have hnc85 := NB261_268.out
         have hnb86 := NB268_262.out
         have hnc86 := NB262_268.out
         have hnb87 := NB268_271.out
         have hnc87 := NB271_268.out
         obtain ⟨hcz88_0, hcz88_1, hcz88_2, hfz88_0, hfz88_1, hfz88_2⟩ := bc3f wr BK268.out
         go_wp2_with (first | (first | (go_at_call 48; (with_reducible refine (impl_Session_48.calls (fun k_ => some k_ = (.slice Ao17 t265.length co17 : Value).ownBlock) (.slice Ao17 t265.length co17) t265 x15_2 (wrap64 (x15_2 + 1)) t277 w _ ?side1 ?side2 A84.out).mono ?_); (case side1 => exact q0); (case side2 => exact Kd.R_tight rfl HO_269002.out); rintro e w89 ⟨v278, rfl, ho0, hb, hkp⟩; replace BK261 := am (blk_kept u10_1 hkp (fun hs_ => (fun e_ => (Kd.R_ne HO_269002.out BK261.out (by decide)) e_) hs_)); replace BK262 := am (blk_kept u10_2 hkp (fun hs_ => (fun e_ => (Kd.R_ne HO_269002.out BK262.out (by decide)) e_) hs_)); replace BK268 := am (blk_kept u10_5 hkp (fun hs_ => (fun e_ => (Kd.R_ne HO_269002.out BK268.out (by decide)) e_) hs_)); have HO279 := am (Kd.R_mono (ok' := fun k_ => k_ ≠ gb271) ho0 (fun k_ hk_ => Or.elim hk_ (fun hs_ => fun e_ => (Kd.R_away HO_269002.out (fun _ hk => hk)) (by rw [← e_]; exact hs_)) (fun hn_ => (Kd.freshB (g := gb271) (o := .cells #[.int .i64 a1, .int .i64 a2, .int .i64 (wrap64 (t264 + 1)), .string a3] 54 (0, 0)) u10_3 k_ hn_)))); replace BK271 := am (blk_kept u10_3 hkp (fun hs_ => (fun e_ => (Kd.R_away HO_269002.out (fun _ hk => hk)) e_) hs_)); replace HB := am (hb); clear HO_269002 HO_69; (try clear hb); (try clear hkp); (try clear ho0); obtain ⟨Ao90, co90, eo90⟩ := Kd.R_slice HO279.out; subst eo90; obtain ⟨hcz91_0, hcz91_1, hcz91_2, hfz91_0, hfz91_1, hfz91_2⟩ := bc3f w89 BK268.out)) | go_quiet (first | (go_at_call 48; (with_reducible refine (impl_Session_48.calls (fun k_ => some k_ = (.slice Ao17 t265.length co17 : Value).ownBlock) (.slice Ao17 t265.length co17) t265 x15_2 (wrap64 (x15_2 + 1)) t277 w _ ?side1 ?side2 A84.out).mono ?_); (case side1 => exact q0); (case side2 => exact Kd.R_tight rfl HO_269002.out); rintro e w89 ⟨v278, rfl, ho0, hb, hkp⟩; replace BK261 := am (blk_kept u10_1 hkp (fun hs_ => (fun e_ => (Kd.R_ne HO_269002.out BK261.out (by decide)) e_) hs_)); replace BK262 := am (blk_kept u10_2 hkp (fun hs_ => (fun e_ => (Kd.R_ne HO_269002.out BK262.out (by decide)) e_) hs_)); replace BK268 := am (blk_kept u10_5 hkp (fun hs_ => (fun e_ => (Kd.R_ne HO_269002.out BK268.out (by decide)) e_) hs_)); have HO279 := am (Kd.R_mono (ok' := fun k_ => k_ ≠ gb271) ho0 (fun k_ hk_ => Or.elim hk_ (fun hs_ => fun e_ => (Kd.R_away HO_269002.out (fun _ hk => hk)) (by rw [← e_]; exact hs_)) (fun hn_ => (Kd.freshB (g := gb271) (o := .cells #[.int .i64 a1, .int .i64 a2, .int .i64 (wrap64 (t264 + 1)), .string a3] 54 (0, 0)) u10_3 k_ hn_)))); replace BK271 := am (blk_kept u10_3 hkp (fun hs_ => (fun e_ => (Kd.R_away HO_269002.out (fun _ hk => hk)) e_) hs_)); replace HB := am (hb); clear HO_269002 HO_69; (try clear hb); (try clear hkp); (try clear ho0); obtain ⟨Ao90, co90, eo90⟩ := Kd.R_slice HO279.out; subst eo90; obtain ⟨hcz91_0, hcz91_1, hcz91_2, hfz91_0, hfz91_1, hfz91_2⟩ := bc3f w89 BK268.out)))
         go_meet
         case rel => exact ⟨_, (t277), (.slice Ao90 t277.length co90), H', ⟨(by have := HJ6.out; have := HK2.out; first | omega | exact Nat.le_refl _)⟩, ⟨(by (with_reducible repeat (first | apply Kd.R_alloc | apply Kd.R_drewN | apply Kd.R_drew)); exact Kd.R_mono (Kd.R_far (p := ⟨gb268, 2, none⟩) (Kd.R_types HO279.out BK268.out (by decide)) (fun _ hk => hk.2) (.slice Ao90 t277.length co90)) (fun _ hk => hk.1))⟩, ⟨u10_9⟩, ⟨u10_10⟩, ⟨(by (with_reducible repeat (first | refine blk_drewN ?_ _ | refine blk_drew ?_ | refine blk_alloc ?_ _)); refine blk_put (cs := #[.int .i64 t263, .int .i64 (wrap64 (t264 + 1)), .slice Ao17 t265.length co17]) ?_ 2 _ rfl; (with_reducible repeat (first | refine blk_drewN ?_ _ | refine blk_drew ?_ | refine blk_alloc ?_ _)); exact BK268.out)⟩, ⟨(by (with_reducible repeat (first | refine blk_drewN ?_ _ | refine blk_drew ?_ | refine blk_alloc ?_ _)); refine blk_far ?_ NB271_268.out _; (with_reducible repeat (first | refine blk_drewN ?_ _ | refine blk_drew ?_ | refine blk_alloc ?_ _)); exact BK271.out)⟩, ⟨q0⟩⟩
       rw [if_pos c68] at H
       have c68b0 : decide (x71_2 < (t265.length : Int)) = true := decide_eq_true c68
       clear c68
       by_cases c69 : 0 ≤ x71_2
       rotate_left
       · rw [if_neg c69] at H
         exact absurd H (by simp)
       rw [if_pos c69] at H
       have c69b0 : decide (0 ≤ x71_2) = true := decide_eq_true c69
       clear c69
       by_cases c70 : x71_2 < (t265.length : Int)
       rotate_left
       · rw [if_neg c70] at H
         exact absurd H (by simp)
       rw [if_pos c70] at H
       have c70b0 : decide (x71_2 < (t265.length : Int)) = true := decide_eq_true c70
       clear c70
       by_cases c71 : 0 ≤ x15_2
       rotate_left
       · rw [if_neg c71] at H
         exact absurd H (by simp)
       rw [if_pos c71] at H
       have c71b0 : decide (0 ≤ x15_2) = true := decide_eq_true c71
       clear c71
       by_cases c72 : x15_2 < (t265.length : Int)
       rotate_left
       · rw [if_neg c72] at H
         exact absurd H (by simp)
       rw [if_pos c72] at H
       have c72b0 : decide (x15_2 < (t265.length : Int)) = true := decide_eq_true c72
       clear c72
       have H9 := am H
       clear H
       have p274 : 0 ≤ (x71_2 : Int) := of_decide_eq_true q3
       have q274 : x71_2 < (t265.length : Int) := of_decide_eq_true q3
       obtain ⟨ad274, e274, hx274_0, hx274_1, hx274_2, hx274_3⟩ := at_T54 (Kd.R_reads' HO_69.out).2.2 x71_2 p274 q274
       cases e274
       replace p274 := eq_true p274
       replace q274 := eq_true q274
       go_upto_if 84 with (first | ((with_reducible refine gate_dst (N := 17) rfl ?_); (try (refine gate_guard (by rfl) ?_; dsimp only)); refine box_event ?hg (N := 17) ?hd (cs := #[.int .i64 0, .int .i64 0, .int .i64 0, .string (⟨#[]⟩ : ByteArray)]) (t := 54) ?hr ?_; (case hd => rfl); (case hg => rfl); (case hr => first | (go_simp; done) | (go_simp; rfl)); intro gb275 hg w73 hbox hb; replace HO_69 := am (Kd.R_below (Kd.R_elderB u10_42 gb275 (Nat.le_of_eq hg.symm)) hb); replace HO_269002 := am (Kd.R_below (Kd.R_elderB u10_12 gb275 (Nat.le_of_eq hg.symm)) hb); have BK275 := am (hbox); have GW275 := am ((by rw [hg]; exact (below_size q0) : w.heap.size ≤ gb275)); have GE275 := am ((by rw [hg]; exact (below_size q0) : w.heap.size ≤ gb275)); replace HB := am (below_step q0 hb); have NB261_275 := am ((by rw [hg]; exact Nat.ne_of_lt (blk_lt (g := gb261) (o := .cells #[.int .i64 a0_0, .int .i64 a0_1, .slice A0_2 l0_2.length c0_2] 30 (0, 0)) u10_1) : gb261 ≠ gb275)); have NB275_261 := am ((by rw [hg]; exact Nat.ne_of_gt (blk_lt (g := gb261) (o := .cells #[.int .i64 a0_0, .int .i64 a0_1, .slice A0_2 l0_2.length c0_2] 30 (0, 0)) u10_1) : gb275 ≠ gb261)); replace BK261 := am (blk_below (g := gb261) (o := .cells #[.int .i64 a0_0, .int .i64 a0_1, .slice A0_2 l0_2.length c0_2] 30 (0, 0)) u10_1 hb); have NB262_275 := am ((by rw [hg]; exact Nat.ne_of_lt (blk_lt (g := gb262) (o := .cells #[.int .i64 0, .int .i64 0, .slice none 0 0] 30 (0, 0)) u10_2) : gb262 ≠ gb275)); have NB275_262 := am ((by rw [hg]; exact Nat.ne_of_gt (blk_lt (g := gb262) (o := .cells #[.int .i64 0, .int .i64 0, .slice none 0 0] 30 (0, 0)) u10_2) : gb275 ≠ gb262)); replace BK262 := am (blk_below (g := gb262) (o := .cells #[.int .i64 0, .int .i64 0, .slice none 0 0] 30 (0, 0)) u10_2 hb); have NB268_275 := am ((by rw [hg]; exact Nat.ne_of_lt (blk_lt (g := gb268) (o := .cells #[.int .i64 t263, .int .i64 (wrap64 (t264 + 1)), .slice (some ad274) t265.length co17] 30 (0, 0)) u10_5) : gb268 ≠ gb275)); have NB275_268 := am ((by rw [hg]; exact Nat.ne_of_gt (blk_lt (g := gb268) (o := .cells #[.int .i64 t263, .int .i64 (wrap64 (t264 + 1)), .slice (some ad274) t265.length co17] 30 (0, 0)) u10_5) : gb275 ≠ gb268)); replace BK268 := am (blk_below (g := gb268) (o := .cells #[.int .i64 t263, .int .i64 (wrap64 (t264 + 1)), .slice (some ad274) t265.length co17] 30 (0, 0)) u10_5 hb); have NB271_275 := am ((by rw [hg]; exact Nat.ne_of_lt (blk_lt (g := gb271) (o := .cells #[.int .i64 a1, .int .i64 a2, .int .i64 (wrap64 (t264 + 1)), .string a3] 54 (0, 0)) u10_3) : gb271 ≠ gb275)); have NB275_271 := am ((by rw [hg]; exact Nat.ne_of_gt (blk_lt (g := gb271) (o := .cells #[.int .i64 a1, .int .i64 a2, .int .i64 (wrap64 (t264 + 1)), .string a3] 54 (0, 0)) u10_3) : gb275 ≠ gb271)); replace BK271 := am (blk_below (g := gb271) (o := .cells #[.int .i64 a1, .int .i64 a2, .int .i64 (wrap64 (t264 + 1)), .string a3] 54 (0, 0)) u10_3 hb); clear hb hbox hg; have hnb74 := NB275_261.out; have hnc74 := NB261_275.out; have hnb75 := NB275_262.out; have hnc75 := NB262_275.out; have hnb76 := NB275_268.out; have hnc76 := NB268_275.out; have hnb77 := NB275_271.out; have hnc77 := NB271_275.out; obtain ⟨hcz78_0, hcz78_1, hcz78_2, hcz78_3, hfz78_0, hfz78_1, hfz78_2, hfz78_3⟩ := bc4f w73 BK275.out; have hnb79 := NB268_261.out; have hnc79 := NB261_268.out; have hnb80 := NB268_262.out; have hnc80 := NB262_268.out; have hnb81 := NB268_271.out; have hnc81 := NB271_268.out; obtain ⟨hcz82_0, hcz82_1, hcz82_2, hfz82_0, hfz82_1, hfz82_2⟩ := bc3f w73 BK268.out; have p276 : 0 ≤ (x15_2 : Int) := of_decide_eq_true q3; have q276 : x15_2 < (t265.length : Int) := of_decide_eq_true q3; obtain ⟨ad276, e276, hx276_0, hx276_1, hx276_2, hx276_3⟩ := at_T54 (Kd.R_reads' HO_269002.out).2.2 x15_2 p276 q276; obtain rfl : ad274 = ad276 := (by injection e276); have hn276_0 : ad274.block ≠ gb275 := u10_11; have hn276_1 : ad274.block ≠ gb275 := u10_11; have hn276_2 : ad274.block ≠ gb275 := u10_11; have hn276_3 : ad274.block ≠ gb275 := u10_11; replace hx276_0 := (cell_far (p := ⟨gb275, 0, none⟩) u10_19 (.int .i64 ((rd_T54 t265 x71_2).f0))).trans hx276_0; replace hx276_1 := (cell_far (p := ⟨gb275, 0, none⟩) u10_19 (.int .i64 ((rd_T54 t265 x71_2).f0))).trans hx276_1; replace hx276_2 := (cell_far (p := ⟨gb275, 0, none⟩) u10_19 (.int .i64 ((rd_T54 t265 x71_2).f0))).trans hx276_2; replace hx276_3 := (cell_far (p := ⟨gb275, 0, none⟩) u10_19 (.int .i64 ((rd_T54 t265 x71_2).f0))).trans hx276_3; replace hx276_0 := (cell_far (p := ⟨gb275, 1, none⟩) u10_20 (.int .i64 ((rd_T54 t265 x71_2).f1))).trans hx276_0; replace hx276_1 := (cell_far (p := ⟨gb275, 1, none⟩) u10_20 (.int .i64 ((rd_T54 t265 x71_2).f1))).trans hx276_1; replace hx276_2 := (cell_far (p := ⟨gb275, 1, none⟩) u10_20 (.int .i64 ((rd_T54 t265 x71_2).f1))).trans hx276_2; replace hx276_3 := (cell_far (p := ⟨gb275, 1, none⟩) u10_20 (.int .i64 ((rd_T54 t265 x71_2).f1))).trans hx276_3; replace hx276_0 := (cell_far (p := ⟨gb275, 2, none⟩) u10_21 (.int .i64 ((rd_T54 t265 x71_2).f2))).trans hx276_0; replace hx276_1 := (cell_far (p := ⟨gb275, 2, none⟩) u10_21 (.int .i64 ((rd_T54 t265 x71_2).f2))).trans hx276_1; replace hx276_2 := (cell_far (p := ⟨gb275, 2, none⟩) u10_21 (.int .i64 ((rd_T54 t265 x71_2).f2))).trans hx276_2; replace hx276_3 := (cell_far (p := ⟨gb275, 2, none⟩) u10_21 (.int .i64 ((rd_T54 t265 x71_2).f2))).trans hx276_3; replace hx276_0 := (cell_far (p := ⟨gb275, 3, none⟩) u10_22 (.string ((rd_T54 t265 x71_2).f3))).trans hx276_0; replace hx276_1 := (cell_far (p := ⟨gb275, 3, none⟩) u10_22 (.string ((rd_T54 t265 x71_2).f3))).trans hx276_1; replace hx276_2 := (cell_far (p := ⟨gb275, 3, none⟩) u10_22 (.string ((rd_T54 t265 x71_2).f3))).trans hx276_2; replace hx276_3 := (cell_far (p := ⟨gb275, 3, none⟩) u10_22 (.string ((rd_T54 t265 x71_2).f3))).trans hx276_3; (try have hch_ := fun (n_ : Nat) => (show ((((((w73.drewN n_).setCell ⟨gb275, 0, none⟩ (.int .i64 ((rd_T54 t265 x71_2).f0))).setCell ⟨gb275, 1, none⟩ (.int .i64 ((rd_T54 t265 x71_2).f1))).setCell ⟨gb275, 2, none⟩ (.int .i64 ((rd_T54 t265 x71_2).f2))).setCell ⟨gb275, 3, none⟩ (.string ((rd_T54 t265 x71_2).f3)))) = World.drewN (((((w73.setCell ⟨gb275, 0, none⟩ (.int .i64 ((rd_T54 t265 x71_2).f0))).setCell ⟨gb275, 1, none⟩ (.int .i64 ((rd_T54 t265 x71_2).f1))).setCell ⟨gb275, 2, none⟩ (.int .i64 ((rd_T54 t265 x71_2).f2))).setCell ⟨gb275, 3, none⟩ (.string ((rd_T54 t265 x71_2).f3)))) n_ from by simp only [Go.Proofs.YtjdpifafijcpbaaDoor.Slc.setCell_drewN])); (try have hy276_0 := fun (n_ : Nat) => Go.Proofs.YtjdpifafijcpbaaDoor.Slc.cell_of (hch_ n_) hx276_0); (try have hy276_1 := fun (n_ : Nat) => Go.Proofs.YtjdpifafijcpbaaDoor.Slc.cell_of (hch_ n_) hx276_1); (try have hy276_2 := fun (n_ : Nat) => Go.Proofs.YtjdpifafijcpbaaDoor.Slc.cell_of (hch_ n_) hx276_2); (try have hy276_3 := fun (n_ : Nat) => Go.Proofs.YtjdpifafijcpbaaDoor.Slc.cell_of (hch_ n_) hx276_3); clear hn276_0; clear hn276_1; clear hn276_2; clear hn276_3; replace p276 := eq_true p276; replace q276 := eq_true q276))
       repeat (go_quiet (first | ((with_reducible refine gate_dst (N := 17) rfl ?_); (try (refine gate_guard (by rfl) ?_; dsimp only)); refine box_event ?hg (N := 17) ?hd (cs := #[.int .i64 0, .int .i64 0, .int .i64 0, .string (⟨#[]⟩ : ByteArray)]) (t := 54) ?hr ?_; (case hd => rfl); (case hg => rfl); (case hr => first | (go_simp; done) | (go_simp; rfl)); intro gb275 hg w73 hbox hb; replace HO_69 := am (Kd.R_below (Kd.R_elderB u10_42 gb275 (Nat.le_of_eq hg.symm)) hb); replace HO_269002 := am (Kd.R_below (Kd.R_elderB u10_12 gb275 (Nat.le_of_eq hg.symm)) hb); have BK275 := am (hbox); have GW275 := am ((by rw [hg]; exact (below_size q0) : w.heap.size ≤ gb275)); have GE275 := am ((by rw [hg]; exact (below_size q0) : w.heap.size ≤ gb275)); replace HB := am (below_step q0 hb); have NB261_275 := am ((by rw [hg]; exact Nat.ne_of_lt (blk_lt (g := gb261) (o := .cells #[.int .i64 a0_0, .int .i64 a0_1, .slice A0_2 l0_2.length c0_2] 30 (0, 0)) u10_1) : gb261 ≠ gb275)); have NB275_261 := am ((by rw [hg]; exact Nat.ne_of_gt (blk_lt (g := gb261) (o := .cells #[.int .i64 a0_0, .int .i64 a0_1, .slice A0_2 l0_2.length c0_2] 30 (0, 0)) u10_1) : gb275 ≠ gb261)); replace BK261 := am (blk_below (g := gb261) (o := .cells #[.int .i64 a0_0, .int .i64 a0_1, .slice A0_2 l0_2.length c0_2] 30 (0, 0)) u10_1 hb); have NB262_275 := am ((by rw [hg]; exact Nat.ne_of_lt (blk_lt (g := gb262) (o := .cells #[.int .i64 0, .int .i64 0, .slice none 0 0] 30 (0, 0)) u10_2) : gb262 ≠ gb275)); have NB275_262 := am ((by rw [hg]; exact Nat.ne_of_gt (blk_lt (g := gb262) (o := .cells #[.int .i64 0, .int .i64 0, .slice none 0 0] 30 (0, 0)) u10_2) : gb275 ≠ gb262)); replace BK262 := am (blk_below (g := gb262) (o := .cells #[.int .i64 0, .int .i64 0, .slice none 0 0] 30 (0, 0)) u10_2 hb); have NB268_275 := am ((by rw [hg]; exact Nat.ne_of_lt (blk_lt (g := gb268) (o := .cells #[.int .i64 t263, .int .i64 (wrap64 (t264 + 1)), .slice (some ad274) t265.length co17] 30 (0, 0)) u10_5) : gb268 ≠ gb275)); have NB275_268 := am ((by rw [hg]; exact Nat.ne_of_gt (blk_lt (g := gb268) (o := .cells #[.int .i64 t263, .int .i64 (wrap64 (t264 + 1)), .slice (some ad274) t265.length co17] 30 (0, 0)) u10_5) : gb275 ≠ gb268)); replace BK268 := am (blk_below (g := gb268) (o := .cells #[.int .i64 t263, .int .i64 (wrap64 (t264 + 1)), .slice (some ad274) t265.length co17] 30 (0, 0)) u10_5 hb); have NB271_275 := am ((by rw [hg]; exact Nat.ne_of_lt (blk_lt (g := gb271) (o := .cells #[.int .i64 a1, .int .i64 a2, .int .i64 (wrap64 (t264 + 1)), .string a3] 54 (0, 0)) u10_3) : gb271 ≠ gb275)); have NB275_271 := am ((by rw [hg]; exact Nat.ne_of_gt (blk_lt (g := gb271) (o := .cells #[.int .i64 a1, .int .i64 a2, .int .i64 (wrap64 (t264 + 1)), .string a3] 54 (0, 0)) u10_3) : gb275 ≠ gb271)); replace BK271 := am (blk_below (g := gb271) (o := .cells #[.int .i64 a1, .int .i64 a2, .int .i64 (wrap64 (t264 + 1)), .string a3] 54 (0, 0)) u10_3 hb); clear hb hbox hg; have hnb74 := NB275_261.out; have hnc74 := NB261_275.out; have hnb75 := NB275_262.out; have hnc75 := NB262_275.out; have hnb76 := NB275_268.out; have hnc76 := NB268_275.out; have hnb77 := NB275_271.out; have hnc77 := NB271_275.out; obtain ⟨hcz78_0, hcz78_1, hcz78_2, hcz78_3, hfz78_0, hfz78_1, hfz78_2, hfz78_3⟩ := bc4f w73 BK275.out; have hnb79 := NB268_261.out; have hnc79 := NB261_268.out; have hnb80 := NB268_262.out; have hnc80 := NB262_268.out; have hnb81 := NB268_271.out; have hnc81 := NB271_268.out; obtain ⟨hcz82_0, hcz82_1, hcz82_2, hfz82_0, hfz82_1, hfz82_2⟩ := bc3f w73 BK268.out; have p276 : 0 ≤ (x15_2 : Int) := of_decide_eq_true q3; have q276 : x15_2 < (t265.length : Int) := of_decide_eq_true q3; obtain ⟨ad276, e276, hx276_0, hx276_1, hx276_2, hx276_3⟩ := at_T54 (Kd.R_reads' HO_269002.out).2.2 x15_2 p276 q276; obtain rfl : ad274 = ad276 := (by injection e276); have hn276_0 : ad274.block ≠ gb275 := u10_11; have hn276_1 : ad274.block ≠ gb275 := u10_11; have hn276_2 : ad274.block ≠ gb275 := u10_11; have hn276_3 : ad274.block ≠ gb275 := u10_11; replace hx276_0 := (cell_far (p := ⟨gb275, 0, none⟩) u10_19 (.int .i64 ((rd_T54 t265 x71_2).f0))).trans hx276_0; replace hx276_1 := (cell_far (p := ⟨gb275, 0, none⟩) u10_19 (.int .i64 ((rd_T54 t265 x71_2).f0))).trans hx276_1; replace hx276_2 := (cell_far (p := ⟨gb275, 0, none⟩) u10_19 (.int .i64 ((rd_T54 t265 x71_2).f0))).trans hx276_2; replace hx276_3 := (cell_far (p := ⟨gb275, 0, none⟩) u10_19 (.int .i64 ((rd_T54 t265 x71_2).f0))).trans hx276_3; replace hx276_0 := (cell_far (p := ⟨gb275, 1, none⟩) u10_20 (.int .i64 ((rd_T54 t265 x71_2).f1))).trans hx276_0; replace hx276_1 := (cell_far (p := ⟨gb275, 1, none⟩) u10_20 (.int .i64 ((rd_T54 t265 x71_2).f1))).trans hx276_1; replace hx276_2 := (cell_far (p := ⟨gb275, 1, none⟩) u10_20 (.int .i64 ((rd_T54 t265 x71_2).f1))).trans hx276_2; replace hx276_3 := (cell_far (p := ⟨gb275, 1, none⟩) u10_20 (.int .i64 ((rd_T54 t265 x71_2).f1))).trans hx276_3; replace hx276_0 := (cell_far (p := ⟨gb275, 2, none⟩) u10_21 (.int .i64 ((rd_T54 t265 x71_2).f2))).trans hx276_0; replace hx276_1 := (cell_far (p := ⟨gb275, 2, none⟩) u10_21 (.int .i64 ((rd_T54 t265 x71_2).f2))).trans hx276_1; replace hx276_2 := (cell_far (p := ⟨gb275, 2, none⟩) u10_21 (.int .i64 ((rd_T54 t265 x71_2).f2))).trans hx276_2; replace hx276_3 := (cell_far (p := ⟨gb275, 2, none⟩) u10_21 (.int .i64 ((rd_T54 t265 x71_2).f2))).trans hx276_3; replace hx276_0 := (cell_far (p := ⟨gb275, 3, none⟩) u10_22 (.string ((rd_T54 t265 x71_2).f3))).trans hx276_0; replace hx276_1 := (cell_far (p := ⟨gb275, 3, none⟩) u10_22 (.string ((rd_T54 t265 x71_2).f3))).trans hx276_1; replace hx276_2 := (cell_far (p := ⟨gb275, 3, none⟩) u10_22 (.string ((rd_T54 t265 x71_2).f3))).trans hx276_2; replace hx276_3 := (cell_far (p := ⟨gb275, 3, none⟩) u10_22 (.string ((rd_T54 t265 x71_2).f3))).trans hx276_3; (try have hch_ := fun (n_ : Nat) => (show ((((((w73.drewN n_).setCell ⟨gb275, 0, none⟩ (.int .i64 ((rd_T54 t265 x71_2).f0))).setCell ⟨gb275, 1, none⟩ (.int .i64 ((rd_T54 t265 x71_2).f1))).setCell ⟨gb275, 2, none⟩ (.int .i64 ((rd_T54 t265 x71_2).f2))).setCell ⟨gb275, 3, none⟩ (.string ((rd_T54 t265 x71_2).f3)))) = World.drewN (((((w73.setCell ⟨gb275, 0, none⟩ (.int .i64 ((rd_T54 t265 x71_2).f0))).setCell ⟨gb275, 1, none⟩ (.int .i64 ((rd_T54 t265 x71_2).f1))).setCell ⟨gb275, 2, none⟩ (.int .i64 ((rd_T54 t265 x71_2).f2))).setCell ⟨gb275, 3, none⟩ (.string ((rd_T54 t265 x71_2).f3)))) n_ from by simp only [Go.Proofs.YtjdpifafijcpbaaDoor.Slc.setCell_drewN])); (try have hy276_0 := fun (n_ : Nat) => Go.Proofs.YtjdpifafijcpbaaDoor.Slc.cell_of (hch_ n_) hx276_0); (try have hy276_1 := fun (n_ : Nat) => Go.Proofs.YtjdpifafijcpbaaDoor.Slc.cell_of (hch_ n_) hx276_1); (try have hy276_2 := fun (n_ : Nat) => Go.Proofs.YtjdpifafijcpbaaDoor.Slc.cell_of (hch_ n_) hx276_2); (try have hy276_3 := fun (n_ : Nat) => Go.Proofs.YtjdpifafijcpbaaDoor.Slc.cell_of (hch_ n_) hx276_3); clear hn276_0; clear hn276_1; clear hn276_2; clear hn276_3; replace p276 := eq_true p276; replace q276 := eq_true q276)); go_upto_if 84 with (first | ((with_reducible refine gate_dst (N := 17) rfl ?_); (try (refine gate_guard (by rfl) ?_; dsimp only)); refine box_event ?hg (N := 17) ?hd (cs := #[.int .i64 0, .int .i64 0, .int .i64 0, .string (⟨#[]⟩ : ByteArray)]) (t := 54) ?hr ?_; (case hd => rfl); (case hg => rfl); (case hr => first | (go_simp; done) | (go_simp; rfl)); intro gb275 hg w73 hbox hb; replace HO_69 := am (Kd.R_below (Kd.R_elderB u10_42 gb275 (Nat.le_of_eq hg.symm)) hb); replace HO_269002 := am (Kd.R_below (Kd.R_elderB u10_12 gb275 (Nat.le_of_eq hg.symm)) hb); have BK275 := am (hbox); have GW275 := am ((by rw [hg]; exact (below_size q0) : w.heap.size ≤ gb275)); have GE275 := am ((by rw [hg]; exact (below_size q0) : w.heap.size ≤ gb275)); replace HB := am (below_step q0 hb); have NB261_275 := am ((by rw [hg]; exact Nat.ne_of_lt (blk_lt (g := gb261) (o := .cells #[.int .i64 a0_0, .int .i64 a0_1, .slice A0_2 l0_2.length c0_2] 30 (0, 0)) u10_1) : gb261 ≠ gb275)); have NB275_261 := am ((by rw [hg]; exact Nat.ne_of_gt (blk_lt (g := gb261) (o := .cells #[.int .i64 a0_0, .int .i64 a0_1, .slice A0_2 l0_2.length c0_2] 30 (0, 0)) u10_1) : gb275 ≠ gb261)); replace BK261 := am (blk_below (g := gb261) (o := .cells #[.int .i64 a0_0, .int .i64 a0_1, .slice A0_2 l0_2.length c0_2] 30 (0, 0)) u10_1 hb); have NB262_275 := am ((by rw [hg]; exact Nat.ne_of_lt (blk_lt (g := gb262) (o := .cells #[.int .i64 0, .int .i64 0, .slice none 0 0] 30 (0, 0)) u10_2) : gb262 ≠ gb275)); have NB275_262 := am ((by rw [hg]; exact Nat.ne_of_gt (blk_lt (g := gb262) (o := .cells #[.int .i64 0, .int .i64 0, .slice none 0 0] 30 (0, 0)) u10_2) : gb275 ≠ gb262)); replace BK262 := am (blk_below (g := gb262) (o := .cells #[.int .i64 0, .int .i64 0, .slice none 0 0] 30 (0, 0)) u10_2 hb); have NB268_275 := am ((by rw [hg]; exact Nat.ne_of_lt (blk_lt (g := gb268) (o := .cells #[.int .i64 t263, .int .i64 (wrap64 (t264 + 1)), .slice (some ad274) t265.length co17] 30 (0, 0)) u10_5) : gb268 ≠ gb275)); have NB275_268 := am ((by rw [hg]; exact Nat.ne_of_gt (blk_lt (g := gb268) (o := .cells #[.int .i64 t263, .int .i64 (wrap64 (t264 + 1)), .slice (some ad274) t265.length co17] 30 (0, 0)) u10_5) : gb275 ≠ gb268)); replace BK268 := am (blk_below (g := gb268) (o := .cells #[.int .i64 t263, .int .i64 (wrap64 (t264 + 1)), .slice (some ad274) t265.length co17] 30 (0, 0)) u10_5 hb); have NB271_275 := am ((by rw [hg]; exact Nat.ne_of_lt (blk_lt (g := gb271) (o := .cells #[.int .i64 a1, .int .i64 a2, .int .i64 (wrap64 (t264 + 1)), .string a3] 54 (0, 0)) u10_3) : gb271 ≠ gb275)); have NB275_271 := am ((by rw [hg]; exact Nat.ne_of_gt (blk_lt (g := gb271) (o := .cells #[.int .i64 a1, .int .i64 a2, .int .i64 (wrap64 (t264 + 1)), .string a3] 54 (0, 0)) u10_3) : gb275 ≠ gb271)); replace BK271 := am (blk_below (g := gb271) (o := .cells #[.int .i64 a1, .int .i64 a2, .int .i64 (wrap64 (t264 + 1)), .string a3] 54 (0, 0)) u10_3 hb); clear hb hbox hg; have hnb74 := NB275_261.out; have hnc74 := NB261_275.out; have hnb75 := NB275_262.out; have hnc75 := NB262_275.out; have hnb76 := NB275_268.out; have hnc76 := NB268_275.out; have hnb77 := NB275_271.out; have hnc77 := NB271_275.out; obtain ⟨hcz78_0, hcz78_1, hcz78_2, hcz78_3, hfz78_0, hfz78_1, hfz78_2, hfz78_3⟩ := bc4f w73 BK275.out; have hnb79 := NB268_261.out; have hnc79 := NB261_268.out; have hnb80 := NB268_262.out; have hnc80 := NB262_268.out; have hnb81 := NB268_271.out; have hnc81 := NB271_268.out; obtain ⟨hcz82_0, hcz82_1, hcz82_2, hfz82_0, hfz82_1, hfz82_2⟩ := bc3f w73 BK268.out; have p276 : 0 ≤ (x15_2 : Int) := of_decide_eq_true q3; have q276 : x15_2 < (t265.length : Int) := of_decide_eq_true q3; obtain ⟨ad276, e276, hx276_0, hx276_1, hx276_2, hx276_3⟩ := at_T54 (Kd.R_reads' HO_269002.out).2.2 x15_2 p276 q276; obtain rfl : ad274 = ad276 := (by injection e276); have hn276_0 : ad274.block ≠ gb275 := u10_11; have hn276_1 : ad274.block ≠ gb275 := u10_11; have hn276_2 : ad274.block ≠ gb275 := u10_11; have hn276_3 : ad274.block ≠ gb275 := u10_11; replace hx276_0 := (cell_far (p := ⟨gb275, 0, none⟩) u10_19 (.int .i64 ((rd_T54 t265 x71_2).f0))).trans hx276_0; replace hx276_1 := (cell_far (p := ⟨gb275, 0, none⟩) u10_19 (.int .i64 ((rd_T54 t265 x71_2).f0))).trans hx276_1; replace hx276_2 := (cell_far (p := ⟨gb275, 0, none⟩) u10_19 (.int .i64 ((rd_T54 t265 x71_2).f0))).trans hx276_2; replace hx276_3 := (cell_far (p := ⟨gb275, 0, none⟩) u10_19 (.int .i64 ((rd_T54 t265 x71_2).f0))).trans hx276_3; replace hx276_0 := (cell_far (p := ⟨gb275, 1, none⟩) u10_20 (.int .i64 ((rd_T54 t265 x71_2).f1))).trans hx276_0; replace hx276_1 := (cell_far (p := ⟨gb275, 1, none⟩) u10_20 (.int .i64 ((rd_T54 t265 x71_2).f1))).trans hx276_1; replace hx276_2 := (cell_far (p := ⟨gb275, 1, none⟩) u10_20 (.int .i64 ((rd_T54 t265 x71_2).f1))).trans hx276_2; replace hx276_3 := (cell_far (p := ⟨gb275, 1, none⟩) u10_20 (.int .i64 ((rd_T54 t265 x71_2).f1))).trans hx276_3; replace hx276_0 := (cell_far (p := ⟨gb275, 2, none⟩) u10_21 (.int .i64 ((rd_T54 t265 x71_2).f2))).trans hx276_0; replace hx276_1 := (cell_far (p := ⟨gb275, 2, none⟩) u10_21 (.int .i64 ((rd_T54 t265 x71_2).f2))).trans hx276_1; replace hx276_2 := (cell_far (p := ⟨gb275, 2, none⟩) u10_21 (.int .i64 ((rd_T54 t265 x71_2).f2))).trans hx276_2; replace hx276_3 := (cell_far (p := ⟨gb275, 2, none⟩) u10_21 (.int .i64 ((rd_T54 t265 x71_2).f2))).trans hx276_3; replace hx276_0 := (cell_far (p := ⟨gb275, 3, none⟩) u10_22 (.string ((rd_T54 t265 x71_2).f3))).trans hx276_0; replace hx276_1 := (cell_far (p := ⟨gb275, 3, none⟩) u10_22 (.string ((rd_T54 t265 x71_2).f3))).trans hx276_1; replace hx276_2 := (cell_far (p := ⟨gb275, 3, none⟩) u10_22 (.string ((rd_T54 t265 x71_2).f3))).trans hx276_2; replace hx276_3 := (cell_far (p := ⟨gb275, 3, none⟩) u10_22 (.string ((rd_T54 t265 x71_2).f3))).trans hx276_3; (try have hch_ := fun (n_ : Nat) => (show ((((((w73.drewN n_).setCell ⟨gb275, 0, none⟩ (.int .i64 ((rd_T54 t265 x71_2).f0))).setCell ⟨gb275, 1, none⟩ (.int .i64 ((rd_T54 t265 x71_2).f1))).setCell ⟨gb275, 2, none⟩ (.int .i64 ((rd_T54 t265 x71_2).f2))).setCell ⟨gb275, 3, none⟩ (.string ((rd_T54 t265 x71_2).f3)))) = World.drewN (((((w73.setCell ⟨gb275, 0, none⟩ (.int .i64 ((rd_T54 t265 x71_2).f0))).setCell ⟨gb275, 1, none⟩ (.int .i64 ((rd_T54 t265 x71_2).f1))).setCell ⟨gb275, 2, none⟩ (.int .i64 ((rd_T54 t265 x71_2).f2))).setCell ⟨gb275, 3, none⟩ (.string ((rd_T54 t265 x71_2).f3)))) n_ from by simp only [Go.Proofs.YtjdpifafijcpbaaDoor.Slc.setCell_drewN])); (try have hy276_0 := fun (n_ : Nat) => Go.Proofs.YtjdpifafijcpbaaDoor.Slc.cell_of (hch_ n_) hx276_0); (try have hy276_1 := fun (n_ : Nat) => Go.Proofs.YtjdpifafijcpbaaDoor.Slc.cell_of (hch_ n_) hx276_1); (try have hy276_2 := fun (n_ : Nat) => Go.Proofs.YtjdpifafijcpbaaDoor.Slc.cell_of (hch_ n_) hx276_2); (try have hy276_3 := fun (n_ : Nat) => Go.Proofs.YtjdpifafijcpbaaDoor.Slc.cell_of (hch_ n_) hx276_3); clear hn276_0; clear hn276_1; clear hn276_2; clear hn276_3; replace p276 := eq_true p276; replace q276 := eq_true q276)))
       have H := H9.out
       clear H9
       by_cases c83 : ((rd_T54 t265 x71_2).f2) < ((rd_T54 t265 x15_2).f2)
       · rw [if_pos c83] at H
         have c83b0 : decide (((rd_T54 t265 x71_2).f2) < ((rd_T54 t265 x15_2).f2)) = true := decide_eq_true c83
         clear c83
         (first | rw [c83b0] | (simp only [i64_w, i32_w]; rw [c83b0]) | skip)
         have H' := am H
         clear H
         go_wp2
         repeat (go_quiet (fail); try go_wp2)
         go_roundg k2
         case measure => have := HJ6.out; have := HK2.out; omega
         case rel => exact ⟨(x71_2), (wrap64 (x71_2 + 1)), q4, q4, H', ⟨(by have := HJ6.out; have := HK2.out; omega)⟩, ⟨u10_34⟩, ⟨u10_33⟩, ⟨u10_29⟩, ⟨u10_30⟩, ⟨u10_31⟩, ⟨u10_32⟩, ⟨q0⟩⟩
       rw [if_neg c83] at H
       have c83b0 : decide (((rd_T54 t265 x71_2).f2) < ((rd_T54 t265 x15_2).f2)) = false := decide_eq_false c83
       clear c83
       (first | rw [c83b0] | (simp only [i64_w, i32_w]; rw [c83b0]) | skip)
       have H' := am H
       clear H
       go_wp2
       repeat (go_quiet (fail); try go_wp2)
       go_roundg k2
       case measure => have := HJ6.out; have := HK2.out; omega
       case rel => exact ⟨(x15_2), (wrap64 (x71_2 + 1)), q4, q4, H', ⟨(by have := HJ6.out; have := HK2.out; omega)⟩, ⟨u10_34⟩, ⟨u10_33⟩, ⟨u10_29⟩, ⟨u10_30⟩, ⟨u10_31⟩, ⟨u10_32⟩, ⟨q0⟩⟩
   clear HC58
   try clear c25
   try clear c42
   try clear c42b0
   try clear hcz11_0
   try clear hcz11_1
   try clear hcz11_2
   try clear hcz16_0
   try clear hcz16_1
   try clear hcz16_2
   try clear hcz18_0
   try clear hcz18_1
   try clear hcz18_2
   try clear hcz34_0
   try clear hcz34_1
   try clear hcz34_2
   try clear hcz39_0
   try clear hcz39_1
   try clear hcz39_2
   try clear hcz39_3
   try clear hcz40_0
   try clear hcz40_1
   try clear hcz40_2
   try clear hcz62_0
   try clear hcz62_1
   try clear hcz62_2
   try clear hfz11_0
   try clear hfz11_1
   try clear hfz11_2
   try clear hfz16_0
   try clear hfz16_1
   try clear hfz16_2
   try clear hfz18_0
   try clear hfz18_1
   try clear hfz18_2
   try clear hfz34_0
   try clear hfz34_1
   try clear hfz34_2
   try clear hfz39_0
   try clear hfz39_1
   try clear hfz39_2
   try clear hfz39_3
   try clear hfz40_0
   try clear hfz40_1
   try clear hfz40_2
   try clear hfz62_0
   try clear hfz62_1
   try clear hfz62_2
   obtain ⟨kq, x269002_57, u269002, HA, HJ57, HO_269002, BK261, BK262, BK268, BK271, HB⟩ := hcut
   cases kq with
   | zero => exact absurd HA.out (by simp [impl_keep.j2])
   | succ kj57 =>
     have H := HA.out
     clear HA
     simp only [impl_keep.j2] at H
     have H' := am H
     clear H
     go_wp2
     repeat (go_quiet (fail); try go_wp2)
     go_loopg [18] kj57 (fun kq v18 w' => ∃ (x18_3 : Int), v18 = .int .i64 x18_3 ∧ Aside0 (impl_keep.l1 kq a1 x18_3 t263 (wrap64 (t264 + 1)) x269002_57 a1 a2 (wrap64 (t264 + 1)) a3 = some (r1, r2, r3, r4)) ∧ Aside0 (kq ≤ kj57) ∧ Aside0 (Kd.R k54 54 w' w.heap.size (fun k_ => k_ ≠ gb271) u269002 x269002_57) ∧ Aside0 (w'.heap[gb261]? = some (.cells #[.int .i64 a0_0, .int .i64 a0_1, (.slice A0_2 l0_2.length c0_2)] 30 (0, 0))) ∧ Aside0 (w'.heap[gb262]? = some (.cells #[.int .i64 0, .int .i64 0, (.slice none 0 0)] 30 (0, 0))) ∧ Aside0 (w'.heap[gb268]? = some (.cells #[.int .i64 t263, .int .i64 (wrap64 (t264 + 1)), u269002] 30 (0, 0))) ∧ Aside0 (w'.heap[gb271]? = some (.cells #[.int .i64 a1, .int .i64 a2, .int .i64 (wrap64 (t264 + 1)), .string a3] 54 (0, 0))) ∧ Aside0 (Below w.heap.size w w'))
     case atStart => exact ⟨(0), q4, H', ⟨Nat.le_refl _⟩, ⟨u10_12⟩, ⟨u10_1⟩, ⟨u10_2⟩, ⟨u10_5⟩, ⟨u10_3⟩, ⟨q0⟩⟩
     clear H'
     try clear c25
     try clear c42
     try clear c42b0
     try clear hcz11_0
     try clear hcz11_1
     try clear hcz11_2
     try clear hcz16_0
     try clear hcz16_1
     try clear hcz16_2
     try clear hcz18_0
     try clear hcz18_1
     try clear hcz18_2
     try clear hcz34_0
     try clear hcz34_1
     try clear hcz34_2
     try clear hcz39_0
     try clear hcz39_1
     try clear hcz39_2
     try clear hcz39_3
     try clear hcz40_0
     try clear hcz40_1
     try clear hcz40_2
     try clear hcz62_0
     try clear hcz62_1
     try clear hcz62_2
     try clear hfz11_0
     try clear hfz11_1
     try clear hfz11_2
     try clear hfz16_0
     try clear hfz16_1
     try clear hfz16_2
     try clear hfz18_0
     try clear hfz18_1
     try clear hfz18_2
     try clear hfz34_0
     try clear hfz34_1
     try clear hfz34_2
     try clear hfz39_0
     try clear hfz39_1
     try clear hfz39_2
     try clear hfz39_3
     try clear hfz40_0
     try clear hfz40_1
     try clear hfz40_2
     try clear hfz62_0
     try clear hfz62_1
     try clear hfz62_2
     obtain ⟨x18_3, rfl, HA, HK3, HO_269002, BK261, BK262, BK268, BK271, HB⟩ := hrel
     cases gk with
     | zero => exact absurd HA.out (by simp [impl_keep.l1])
     | succ k3 =>
       have H := HA.out
       clear HA
       simp only [impl_keep.l1] at H
       by_cases c92 : x18_3 < (x269002_57.length : Int)
       rotate_left
       · rw [if_neg c92] at H
         have c92b0 : decide (x18_3 < (x269002_57.length : Int)) = false := decide_eq_false c92
         clear c92
         obtain ⟨y287, hy287⟩ : ∃ y_ : List (S54), y_ = (([(⟨a1, a2, (wrap64 (t264 + 1)), a3⟩ : S54)] : List (S54))) := ⟨_, rfl⟩
         replace H : ((impl_Session_56.f x269002_57 x18_3 y287).bind fun t290 => (some (t263, (wrap64 (t264 + 1)), t290, true))) = some (r1, r2, r3, r4) := by first | (rw [hy287]; with_reducible exact H) | (have H2_ := (Option.bind_some _ _).symm.trans H; rw [hy287]; with_reducible exact H2_) | (have H2_ := (Option.bind_some _ _).symm.trans H; with_reducible exact H2_) | with_reducible exact H | (rw [hy287]; exact H) | exact H
         have Ny287 := am hy287
         clear hy287
         replace H := Option.bind_eq_some_iff.mp H
         obtain ⟨t290, A1160, H⟩ := H
         replace H : (some (t263, (wrap64 (t264 + 1)), t290, true)) = some (r1, r2, r3, r4) := H
         have A116 := am A1160
         clear A1160
         simp only [Option.some.injEq, Prod.mk.injEq] at H
         obtain ⟨rfl, rfl, rfl, rfl⟩ := H
         have hnb117 := NB268_261.out
         have hnc117 := NB261_268.out
         have hnb118 := NB268_262.out
         have hnc118 := NB262_268.out
         have hnb119 := NB268_271.out
         have hnc119 := NB271_268.out
         obtain ⟨hcz120_0, hcz120_1, hcz120_2, hfz120_0, hfz120_1, hfz120_2⟩ := bc3f wr BK268.out
         obtain ⟨Ao121, co121, eo121⟩ := Kd.R_slice HO_269002.out
         subst eo121
         have hnb122 := NB271_261.out
         have hnc122 := NB261_271.out
         have hnb123 := NB271_262.out
         have hnc123 := NB262_271.out
         obtain ⟨hcz124_0, hcz124_1, hcz124_2, hcz124_3, hfz124_0, hfz124_1, hfz124_2, hfz124_3⟩ := bc4f wr BK271.out
         go_wp2_with (first | ((with_reducible refine gate_dst (N := 115) rfl ?_); (try (refine gate_guard (by rfl) ?_; dsimp only)); refine Kd.R_lit k54 _ 54 ?hg (N := 115) ?hd (xs := ([(⟨a1, a2, (wrap64 (t264 + 1)), a3⟩ : S54)] : List (S54))) (inner := [.int .i64 a1, .int .i64 a2, .int .i64 (wrap64 (t264 + 1)), .string a3]) (ok := fun _ => True) (okp := fun _ => True) ?hr ?hp (fun _ hk => hk) trivial (Below.refl _ _) (Nat.le_refl _) (by simp) ?_; (case hd => rfl); (case hg => rfl); (case hr => first | (go_simp; done) | (go_simp; rfl)); (case hp => exact (Reps.c4 (show Kd.M k54 _ _ _ (⟨a1, a2, (wrap64 (t264 + 1)), a3⟩ : S54) [.int .i64 a1, .int .i64 a2, .int .i64 (wrap64 (t264 + 1)), .string a3] from (k54_mkM _ _ _ (⟨a1, a2, (wrap64 (t264 + 1)), a3⟩ : S54) )) (Reps.none _ _))); intro v288 w125 ho126 hb hg_ hnew_; clear hg_ hnew_; (first | rw [← Ny287.out] at ho126 | (simp only [Int.reduceToNat] at ho126; rw [← Ny287.out] at ho126)); have HO289 := am (Kd.R_lower (Kd.R_newB (Kd.R_new' ho126 (Kd.R_lt u10_12)) (g := gb271) (o := .cells #[.int .i64 a1, .int .i64 a2, .int .i64 (wrap64 (t264 + 1)), .string a3] 54 (0, 0)) u10_3) (below_size q0)); replace HO_269002 := am (Kd.R_elder' u10_12 (Kd.R_base ho126) hb); replace BK261 := am (blk_below (g := gb261) (o := .cells #[.int .i64 a0_0, .int .i64 a0_1, .slice A0_2 l0_2.length c0_2] 30 (0, 0)) u10_1 hb); replace BK262 := am (blk_below (g := gb262) (o := .cells #[.int .i64 0, .int .i64 0, .slice none 0 0] 30 (0, 0)) u10_2 hb); replace BK268 := am (blk_below (g := gb268) (o := .cells #[.int .i64 t263, .int .i64 (wrap64 (t264 + 1)), .slice Ao121 x269002_57.length co121] 30 (0, 0)) u10_5 hb); replace BK271 := am (blk_below (g := gb271) (o := .cells #[.int .i64 a1, .int .i64 a2, .int .i64 (wrap64 (t264 + 1)), .string a3] 54 (0, 0)) u10_3 hb); replace HB := am (below_step q0 hb); clear hb ho126; obtain ⟨Ao127, co127, eo127⟩ := Kd.R_slice HO289.out; subst eo127) | (go_at_call 56; (with_reducible refine (impl_Session_56.calls (fun k_ => some k_ = (.slice Ao121 x269002_57.length co121 : Value).ownBlock) (.slice Ao121 x269002_57.length co121) x269002_57 x18_3 (fun k_ => some k_ = (.slice Ao127 y287.length co127 : Value).ownBlock) (.slice Ao127 y287.length co127) y287 t290 w _ ?side1 ?side2 ?side3 ?side4 ?side5 A116.out).mono ?_); (case side1 => exact q0); (case side2 => exact Kd.R_tight rfl HO_269002.out); (case side3 => exact fun k_ e_ => (HO_269002.out.1 k_ e_.symm).2); (case side4 => exact Kd.R_tight rfl HO289.out); (case side5 => exact fun k_ e_ => (HO289.out.1 k_ e_.symm).1.2); rintro e w128 ⟨v291, rfl, ho0, hb, hkp⟩; replace BK261 := am (blk_kept u10_1 hkp (fun hs_ => Or.elim hs_ (fun e_ => (fun e_ => (Kd.R_ne HO_269002.out BK261.out (by decide)) e_) e_) (fun e_ => (fun e_ => (Kd.R_ne HO289.out BK261.out (by decide)) e_) e_))); replace BK262 := am (blk_kept u10_2 hkp (fun hs_ => Or.elim hs_ (fun e_ => (fun e_ => (Kd.R_ne HO_269002.out BK262.out (by decide)) e_) e_) (fun e_ => (fun e_ => (Kd.R_ne HO289.out BK262.out (by decide)) e_) e_))); replace BK268 := am (blk_kept u10_5 hkp (fun hs_ => Or.elim hs_ (fun e_ => (fun e_ => (Kd.R_ne HO_269002.out BK268.out (by decide)) e_) e_) (fun e_ => (fun e_ => (Kd.R_ne HO289.out BK268.out (by decide)) e_) e_))); have HO292 := am (Kd.R_mono (ok' := fun k_ => k_ ≠ gb271) ho0 (fun k_ hk_ => Or.elim hk_ (fun hs_ => Or.elim hs_ (fun hs_ => fun e_ => (Kd.R_away HO_269002.out (fun _ hk => hk.1)) (by rw [← e_]; exact hs_)) (fun hs_ => fun e_ => (Kd.R_away HO289.out (fun _ hk => hk.2)) (by rw [← e_]; exact hs_))) (fun hn_ => (Kd.freshB (g := gb271) (o := .cells #[.int .i64 a1, .int .i64 a2, .int .i64 (wrap64 (t264 + 1)), .string a3] 54 (0, 0)) u10_3 k_ hn_)))); replace BK271 := am (blk_kept u10_3 hkp (fun hs_ => Or.elim hs_ (fun e_ => (fun e_ => (Kd.R_away HO_269002.out (fun _ hk => hk.1)) e_) e_) (fun e_ => (fun e_ => (Kd.R_away HO289.out (fun _ hk => hk.2)) e_) e_))); replace HB := am (hb); clear HO289 HO_269002; (try clear hb); (try clear hkp); (try clear ho0); obtain ⟨Ao129, co129, eo129⟩ := Kd.R_slice HO292.out; subst eo129; obtain ⟨hcz130_0, hcz130_1, hcz130_2, hfz130_0, hfz130_1, hfz130_2⟩ := bc3f w128 BK268.out; have hnb131 := NB262_261.out; have hnc131 := NB261_262.out; obtain ⟨hcz132_0, hcz132_1, hcz132_2, hfz132_0, hfz132_1, hfz132_2⟩ := bc3f w128 BK262.out))
         repeat (go_quiet (first | ((with_reducible refine gate_dst (N := 115) rfl ?_); (try (refine gate_guard (by rfl) ?_; dsimp only)); refine Kd.R_lit k54 _ 54 ?hg (N := 115) ?hd (xs := ([(⟨a1, a2, (wrap64 (t264 + 1)), a3⟩ : S54)] : List (S54))) (inner := [.int .i64 a1, .int .i64 a2, .int .i64 (wrap64 (t264 + 1)), .string a3]) (ok := fun _ => True) (okp := fun _ => True) ?hr ?hp (fun _ hk => hk) trivial (Below.refl _ _) (Nat.le_refl _) (by simp) ?_; (case hd => rfl); (case hg => rfl); (case hr => first | (go_simp; done) | (go_simp; rfl)); (case hp => exact (Reps.c4 (show Kd.M k54 _ _ _ (⟨a1, a2, (wrap64 (t264 + 1)), a3⟩ : S54) [.int .i64 a1, .int .i64 a2, .int .i64 (wrap64 (t264 + 1)), .string a3] from (k54_mkM _ _ _ (⟨a1, a2, (wrap64 (t264 + 1)), a3⟩ : S54) )) (Reps.none _ _))); intro v288 w125 ho126 hb hg_ hnew_; clear hg_ hnew_; (first | rw [← Ny287.out] at ho126 | (simp only [Int.reduceToNat] at ho126; rw [← Ny287.out] at ho126)); have HO289 := am (Kd.R_lower (Kd.R_newB (Kd.R_new' ho126 (Kd.R_lt u10_12)) (g := gb271) (o := .cells #[.int .i64 a1, .int .i64 a2, .int .i64 (wrap64 (t264 + 1)), .string a3] 54 (0, 0)) u10_3) (below_size q0)); replace HO_269002 := am (Kd.R_elder' u10_12 (Kd.R_base ho126) hb); replace BK261 := am (blk_below (g := gb261) (o := .cells #[.int .i64 a0_0, .int .i64 a0_1, .slice A0_2 l0_2.length c0_2] 30 (0, 0)) u10_1 hb); replace BK262 := am (blk_below (g := gb262) (o := .cells #[.int .i64 0, .int .i64 0, .slice none 0 0] 30 (0, 0)) u10_2 hb); replace BK268 := am (blk_below (g := gb268) (o := .cells #[.int .i64 t263, .int .i64 (wrap64 (t264 + 1)), .slice Ao121 x269002_57.length co121] 30 (0, 0)) u10_5 hb); replace BK271 := am (blk_below (g := gb271) (o := .cells #[.int .i64 a1, .int .i64 a2, .int .i64 (wrap64 (t264 + 1)), .string a3] 54 (0, 0)) u10_3 hb); replace HB := am (below_step q0 hb); clear hb ho126; obtain ⟨Ao127, co127, eo127⟩ := Kd.R_slice HO289.out; subst eo127) | (go_at_call 56; (with_reducible refine (impl_Session_56.calls (fun k_ => some k_ = (.slice Ao121 x269002_57.length co121 : Value).ownBlock) (.slice Ao121 x269002_57.length co121) x269002_57 x18_3 (fun k_ => some k_ = (.slice Ao127 y287.length co127 : Value).ownBlock) (.slice Ao127 y287.length co127) y287 t290 w _ ?side1 ?side2 ?side3 ?side4 ?side5 A116.out).mono ?_); (case side1 => exact q0); (case side2 => exact Kd.R_tight rfl HO_269002.out); (case side3 => exact fun k_ e_ => (HO_269002.out.1 k_ e_.symm).2); (case side4 => exact Kd.R_tight rfl HO289.out); (case side5 => exact fun k_ e_ => (HO289.out.1 k_ e_.symm).1.2); rintro e w128 ⟨v291, rfl, ho0, hb, hkp⟩; replace BK261 := am (blk_kept u10_1 hkp (fun hs_ => Or.elim hs_ (fun e_ => (fun e_ => (Kd.R_ne HO_269002.out BK261.out (by decide)) e_) e_) (fun e_ => (fun e_ => (Kd.R_ne HO289.out BK261.out (by decide)) e_) e_))); replace BK262 := am (blk_kept u10_2 hkp (fun hs_ => Or.elim hs_ (fun e_ => (fun e_ => (Kd.R_ne HO_269002.out BK262.out (by decide)) e_) e_) (fun e_ => (fun e_ => (Kd.R_ne HO289.out BK262.out (by decide)) e_) e_))); replace BK268 := am (blk_kept u10_5 hkp (fun hs_ => Or.elim hs_ (fun e_ => (fun e_ => (Kd.R_ne HO_269002.out BK268.out (by decide)) e_) e_) (fun e_ => (fun e_ => (Kd.R_ne HO289.out BK268.out (by decide)) e_) e_))); have HO292 := am (Kd.R_mono (ok' := fun k_ => k_ ≠ gb271) ho0 (fun k_ hk_ => Or.elim hk_ (fun hs_ => Or.elim hs_ (fun hs_ => fun e_ => (Kd.R_away HO_269002.out (fun _ hk => hk.1)) (by rw [← e_]; exact hs_)) (fun hs_ => fun e_ => (Kd.R_away HO289.out (fun _ hk => hk.2)) (by rw [← e_]; exact hs_))) (fun hn_ => (Kd.freshB (g := gb271) (o := .cells #[.int .i64 a1, .int .i64 a2, .int .i64 (wrap64 (t264 + 1)), .string a3] 54 (0, 0)) u10_3 k_ hn_)))); replace BK271 := am (blk_kept u10_3 hkp (fun hs_ => Or.elim hs_ (fun e_ => (fun e_ => (Kd.R_away HO_269002.out (fun _ hk => hk.1)) e_) e_) (fun e_ => (fun e_ => (Kd.R_away HO289.out (fun _ hk => hk.2)) e_) e_))); replace HB := am (hb); clear HO289 HO_269002; (try clear hb); (try clear hkp); (try clear ho0); obtain ⟨Ao129, co129, eo129⟩ := Kd.R_slice HO292.out; subst eo129; obtain ⟨hcz130_0, hcz130_1, hcz130_2, hfz130_0, hfz130_1, hfz130_2⟩ := bc3f w128 BK268.out; have hnb131 := NB262_261.out; have hnc131 := NB261_262.out; obtain ⟨hcz132_0, hcz132_1, hcz132_2, hfz132_0, hfz132_1, hfz132_2⟩ := bc3f w128 BK262.out)); try go_wp2_with (first | ((with_reducible refine gate_dst (N := 115) rfl ?_); (try (refine gate_guard (by rfl) ?_; dsimp only)); refine Kd.R_lit k54 _ 54 ?hg (N := 115) ?hd (xs := ([(⟨a1, a2, (wrap64 (t264 + 1)), a3⟩ : S54)] : List (S54))) (inner := [.int .i64 a1, .int .i64 a2, .int .i64 (wrap64 (t264 + 1)), .string a3]) (ok := fun _ => True) (okp := fun _ => True) ?hr ?hp (fun _ hk => hk) trivial (Below.refl _ _) (Nat.le_refl _) (by simp) ?_; (case hd => rfl); (case hg => rfl); (case hr => first | (go_simp; done) | (go_simp; rfl)); (case hp => exact (Reps.c4 (show Kd.M k54 _ _ _ (⟨a1, a2, (wrap64 (t264 + 1)), a3⟩ : S54) [.int .i64 a1, .int .i64 a2, .int .i64 (wrap64 (t264 + 1)), .string a3] from (k54_mkM _ _ _ (⟨a1, a2, (wrap64 (t264 + 1)), a3⟩ : S54) )) (Reps.none _ _))); intro v288 w125 ho126 hb hg_ hnew_; clear hg_ hnew_; (first | rw [← Ny287.out] at ho126 | (simp only [Int.reduceToNat] at ho126; rw [← Ny287.out] at ho126)); have HO289 := am (Kd.R_lower (Kd.R_newB (Kd.R_new' ho126 (Kd.R_lt u10_12)) (g := gb271) (o := .cells #[.int .i64 a1, .int .i64 a2, .int .i64 (wrap64 (t264 + 1)), .string a3] 54 (0, 0)) u10_3) (below_size q0)); replace HO_269002 := am (Kd.R_elder' u10_12 (Kd.R_base ho126) hb); replace BK261 := am (blk_below (g := gb261) (o := .cells #[.int .i64 a0_0, .int .i64 a0_1, .slice A0_2 l0_2.length c0_2] 30 (0, 0)) u10_1 hb); replace BK262 := am (blk_below (g := gb262) (o := .cells #[.int .i64 0, .int .i64 0, .slice none 0 0] 30 (0, 0)) u10_2 hb); replace BK268 := am (blk_below (g := gb268) (o := .cells #[.int .i64 t263, .int .i64 (wrap64 (t264 + 1)), .slice Ao121 x269002_57.length co121] 30 (0, 0)) u10_5 hb); replace BK271 := am (blk_below (g := gb271) (o := .cells #[.int .i64 a1, .int .i64 a2, .int .i64 (wrap64 (t264 + 1)), .string a3] 54 (0, 0)) u10_3 hb); replace HB := am (below_step q0 hb); clear hb ho126; obtain ⟨Ao127, co127, eo127⟩ := Kd.R_slice HO289.out; subst eo127) | (go_at_call 56; (with_reducible refine (impl_Session_56.calls (fun k_ => some k_ = (.slice Ao121 x269002_57.length co121 : Value).ownBlock) (.slice Ao121 x269002_57.length co121) x269002_57 x18_3 (fun k_ => some k_ = (.slice Ao127 y287.length co127 : Value).ownBlock) (.slice Ao127 y287.length co127) y287 t290 w _ ?side1 ?side2 ?side3 ?side4 ?side5 A116.out).mono ?_); (case side1 => exact q0); (case side2 => exact Kd.R_tight rfl HO_269002.out); (case side3 => exact fun k_ e_ => (HO_269002.out.1 k_ e_.symm).2); (case side4 => exact Kd.R_tight rfl HO289.out); (case side5 => exact fun k_ e_ => (HO289.out.1 k_ e_.symm).1.2); rintro e w128 ⟨v291, rfl, ho0, hb, hkp⟩; replace BK261 := am (blk_kept u10_1 hkp (fun hs_ => Or.elim hs_ (fun e_ => (fun e_ => (Kd.R_ne HO_269002.out BK261.out (by decide)) e_) e_) (fun e_ => (fun e_ => (Kd.R_ne HO289.out BK261.out (by decide)) e_) e_))); replace BK262 := am (blk_kept u10_2 hkp (fun hs_ => Or.elim hs_ (fun e_ => (fun e_ => (Kd.R_ne HO_269002.out BK262.out (by decide)) e_) e_) (fun e_ => (fun e_ => (Kd.R_ne HO289.out BK262.out (by decide)) e_) e_))); replace BK268 := am (blk_kept u10_5 hkp (fun hs_ => Or.elim hs_ (fun e_ => (fun e_ => (Kd.R_ne HO_269002.out BK268.out (by decide)) e_) e_) (fun e_ => (fun e_ => (Kd.R_ne HO289.out BK268.out (by decide)) e_) e_))); have HO292 := am (Kd.R_mono (ok' := fun k_ => k_ ≠ gb271) ho0 (fun k_ hk_ => Or.elim hk_ (fun hs_ => Or.elim hs_ (fun hs_ => fun e_ => (Kd.R_away HO_269002.out (fun _ hk => hk.1)) (by rw [← e_]; exact hs_)) (fun hs_ => fun e_ => (Kd.R_away HO289.out (fun _ hk => hk.2)) (by rw [← e_]; exact hs_))) (fun hn_ => (Kd.freshB (g := gb271) (o := .cells #[.int .i64 a1, .int .i64 a2, .int .i64 (wrap64 (t264 + 1)), .string a3] 54 (0, 0)) u10_3 k_ hn_)))); replace BK271 := am (blk_kept u10_3 hkp (fun hs_ => Or.elim hs_ (fun e_ => (fun e_ => (Kd.R_away HO_269002.out (fun _ hk => hk.1)) e_) e_) (fun e_ => (fun e_ => (Kd.R_away HO289.out (fun _ hk => hk.2)) e_) e_))); replace HB := am (hb); clear HO289 HO_269002; (try clear hb); (try clear hkp); (try clear ho0); obtain ⟨Ao129, co129, eo129⟩ := Kd.R_slice HO292.out; subst eo129; obtain ⟨hcz130_0, hcz130_1, hcz130_2, hfz130_0, hfz130_1, hfz130_2⟩ := bc3f w128 BK268.out; have hnb131 := NB262_261.out; have hnc131 := NB261_262.out; obtain ⟨hcz132_0, hcz132_1, hcz132_2, hfz132_0, hfz132_1, hfz132_2⟩ := bc3f w128 BK262.out)))
         refine bodyPost_ret (results_ct rfl _ _ gb262 30 #[.int .i64 t263, .int .i64 (wrap64 (t264 + 1)), .slice Ao129 t290.length co129] (0, 0) _ rfl u10_27 Tryd.underlying30 rfl kr) rfl ?_
         exact ⟨_, er, (by (with_reducible repeat (first | apply Kd.R_alloc | apply Kd.R_drewN | apply Kd.R_drew)); exact Kd.R_mono (Kd.R_far (p := ⟨gb262, 2, none⟩) (Kd.R_far (p := ⟨gb262, 1, none⟩) (Kd.R_far (p := ⟨gb262, 0, none⟩) (Kd.R_far (p := ⟨gb268, 2, none⟩) (Kd.R_types (Kd.R_types HO292.out BK268.out (by decide)) BK262.out (by decide)) (fun _ hk => hk.1.2) (.slice Ao129 t290.length co129)) (fun _ hk => hk.2) (.int .i64 t263)) (fun _ hk => hk.2) (.int .i64 (wrap64 (t264 + 1)))) (fun _ hk => hk.2) (.slice Ao129 t290.length co129)) (fun _ hk => trivial)), q0⟩
       rw [if_pos c92] at H
       have c92b0 : decide (x18_3 < (x269002_57.length : Int)) = true := decide_eq_true c92
       clear c92
       by_cases c93 : 0 ≤ x18_3
       rotate_left
       · rw [if_neg c93] at H
         exact absurd H (by simp)
       rw [if_pos c93] at H
       have c93b0 : decide (0 ≤ x18_3) = true := decide_eq_true c93
       clear c93
       have H9 := am H
       clear H
       have hnb94 := NB268_261.out
       have hnc94 := NB261_268.out
       have hnb95 := NB268_262.out
       have hnc95 := NB262_268.out
       have hnb96 := NB268_271.out
       have hnc96 := NB271_268.out
       obtain ⟨hcz97_0, hcz97_1, hcz97_2, hfz97_0, hfz97_1, hfz97_2⟩ := bc3f wr BK268.out
       obtain ⟨Ao98, co98, eo98⟩ := Kd.R_slice HO_269002.out
       subst eo98
       have p280 : 0 ≤ (x18_3 : Int) := of_decide_eq_true q3
       have q280 : x18_3 < (x269002_57.length : Int) := of_decide_eq_true q3
       obtain ⟨ad280, e280, hx280_0, hx280_1, hx280_2, hx280_3⟩ := at_T54 (Kd.R_reads' HO_269002.out).2.2 x18_3 p280 q280
       cases e280
       replace p280 := eq_true p280
       replace q280 := eq_true q280
       go_upto_if 108 with (fail)
       repeat (go_quiet (fail); go_upto_if 108 with (fail))
       have H := H9.out
       clear H9
       by_cases c99 : ((rd_T54 x269002_57 x18_3).f0) < a1
       · rw [if_pos c99] at H
         have c99b0 : decide (((rd_T54 x269002_57 x18_3).f0) < a1) = true := decide_eq_true c99
         clear c99
         (first | rw [c99b0] | (simp only [i64_w, i32_w]; rw [c99b0]) | skip)
         have H' := am H
         clear H
         go_wp2
         repeat (go_quiet (fail); try go_wp2)
         go_roundg k3
         case measure => have := HJ6.out; have := HJ57.out; have := HK3.out; omega
         case rel => exact ⟨(wrap64 (x18_3 + 1)), q4, H', ⟨(by have := HJ6.out; have := HJ57.out; have := HK3.out; omega)⟩, ⟨u10_12⟩, ⟨u10_1⟩, ⟨u10_2⟩, ⟨u10_5⟩, ⟨u10_3⟩, ⟨q0⟩⟩
       rw [if_neg c99] at H
       have c99b0 : decide (((rd_T54 x269002_57 x18_3).f0) < a1) = false := decide_eq_false c99
       clear c99
       (first | rw [c99b0] | (simp only [i64_w, i32_w]; rw [c99b0]) | skip)
       obtain ⟨y281, hy281⟩ : ∃ y_ : List (S54), y_ = (([(⟨a1, a2, (wrap64 (t264 + 1)), a3⟩ : S54)] : List (S54))) := ⟨_, rfl⟩
       replace H : ((impl_Session_56.f x269002_57 x18_3 y281).bind fun t284 => (some (t263, (wrap64 (t264 + 1)), t284, true))) = some (r1, r2, r3, r4) := by first | (rw [hy281]; with_reducible exact H) | (have H2_ := (Option.bind_some _ _).symm.trans H; rw [hy281]; with_reducible exact H2_) | (have H2_ := (Option.bind_some _ _).symm.trans H; with_reducible exact H2_) | with_reducible exact H | (rw [hy281]; exact H) | exact H
       have Ny281 := am hy281
       clear hy281
       replace H := Option.bind_eq_some_iff.mp H
       obtain ⟨t284, A1000, H⟩ := H
       replace H : (some (t263, (wrap64 (t264 + 1)), t284, true)) = some (r1, r2, r3, r4) := H
       have A100 := am A1000
       clear A1000
       simp only [Option.some.injEq, Prod.mk.injEq] at H
       obtain ⟨rfl, rfl, rfl, rfl⟩ := H
       have hnb101 := NB268_261.out
       have hnc101 := NB261_268.out
       have hnb102 := NB268_262.out
       have hnc102 := NB262_268.out
       have hnb103 := NB268_271.out
       have hnc103 := NB271_268.out
       obtain ⟨hcz104_0, hcz104_1, hcz104_2, hfz104_0, hfz104_1, hfz104_2⟩ := bc3f wr BK268.out
       have hnb105 := NB271_261.out
       have hnc105 := NB261_271.out
       have hnb106 := NB271_262.out
       have hnc106 := NB262_271.out
       obtain ⟨hcz107_0, hcz107_1, hcz107_2, hcz107_3, hfz107_0, hfz107_1, hfz107_2, hfz107_3⟩ := bc4f wr BK271.out
       go_wp2_with (first | ((with_reducible refine gate_dst (N := 115) rfl ?_); (try (refine gate_guard (by rfl) ?_; dsimp only)); refine Kd.R_lit k54 _ 54 ?hg (N := 115) ?hd (xs := ([(⟨a1, a2, (wrap64 (t264 + 1)), a3⟩ : S54)] : List (S54))) (inner := [.int .i64 a1, .int .i64 a2, .int .i64 (wrap64 (t264 + 1)), .string a3]) (ok := fun _ => True) (okp := fun _ => True) ?hr ?hp (fun _ hk => hk) trivial (Below.refl _ _) (Nat.le_refl _) (by simp) ?_; (case hd => rfl); (case hg => rfl); (case hr => first | (go_simp; done) | (go_simp; rfl)); (case hp => exact (Reps.c4 (show Kd.M k54 _ _ _ (⟨a1, a2, (wrap64 (t264 + 1)), a3⟩ : S54) [.int .i64 a1, .int .i64 a2, .int .i64 (wrap64 (t264 + 1)), .string a3] from (k54_mkM _ _ _ (⟨a1, a2, (wrap64 (t264 + 1)), a3⟩ : S54) )) (Reps.none _ _))); intro v282 w108 ho109 hb hg_ hnew_; clear hg_ hnew_; (first | rw [← Ny281.out] at ho109 | (simp only [Int.reduceToNat] at ho109; rw [← Ny281.out] at ho109)); have HO283 := am (Kd.R_lower (Kd.R_newB (Kd.R_new' ho109 (Kd.R_lt u10_12)) (g := gb271) (o := .cells #[.int .i64 a1, .int .i64 a2, .int .i64 (wrap64 (t264 + 1)), .string a3] 54 (0, 0)) u10_3) (below_size q0)); replace HO_269002 := am (Kd.R_elder' u10_12 (Kd.R_base ho109) hb); replace BK261 := am (blk_below (g := gb261) (o := .cells #[.int .i64 a0_0, .int .i64 a0_1, .slice A0_2 l0_2.length c0_2] 30 (0, 0)) u10_1 hb); replace BK262 := am (blk_below (g := gb262) (o := .cells #[.int .i64 0, .int .i64 0, .slice none 0 0] 30 (0, 0)) u10_2 hb); replace BK268 := am (blk_below (g := gb268) (o := .cells #[.int .i64 t263, .int .i64 (wrap64 (t264 + 1)), .slice (some ad280) x269002_57.length co98] 30 (0, 0)) u10_5 hb); replace BK271 := am (blk_below (g := gb271) (o := .cells #[.int .i64 a1, .int .i64 a2, .int .i64 (wrap64 (t264 + 1)), .string a3] 54 (0, 0)) u10_3 hb); replace HB := am (below_step q0 hb); clear hb ho109; obtain ⟨Ao110, co110, eo110⟩ := Kd.R_slice HO283.out; subst eo110) | (go_at_call 56; (with_reducible refine (impl_Session_56.calls (fun k_ => some k_ = (.slice (some ad280) x269002_57.length co98 : Value).ownBlock) (.slice (some ad280) x269002_57.length co98) x269002_57 x18_3 (fun k_ => some k_ = (.slice Ao110 y281.length co110 : Value).ownBlock) (.slice Ao110 y281.length co110) y281 t284 w _ ?side1 ?side2 ?side3 ?side4 ?side5 A100.out).mono ?_); (case side1 => exact q0); (case side2 => exact Kd.R_tight rfl HO_269002.out); (case side3 => exact fun k_ e_ => (HO_269002.out.1 k_ e_.symm).2); (case side4 => exact Kd.R_tight rfl HO283.out); (case side5 => exact fun k_ e_ => (HO283.out.1 k_ e_.symm).1.2); rintro e w111 ⟨v285, rfl, ho0, hb, hkp⟩; replace BK261 := am (blk_kept u10_1 hkp (fun hs_ => Or.elim hs_ (fun e_ => (fun e_ => (Kd.R_ne HO_269002.out BK261.out (by decide)) e_) e_) (fun e_ => (fun e_ => (Kd.R_ne HO283.out BK261.out (by decide)) e_) e_))); replace BK262 := am (blk_kept u10_2 hkp (fun hs_ => Or.elim hs_ (fun e_ => (fun e_ => (Kd.R_ne HO_269002.out BK262.out (by decide)) e_) e_) (fun e_ => (fun e_ => (Kd.R_ne HO283.out BK262.out (by decide)) e_) e_))); replace BK268 := am (blk_kept u10_5 hkp (fun hs_ => Or.elim hs_ (fun e_ => (fun e_ => (Kd.R_ne HO_269002.out BK268.out (by decide)) e_) e_) (fun e_ => (fun e_ => (Kd.R_ne HO283.out BK268.out (by decide)) e_) e_))); have HO286 := am (Kd.R_mono (ok' := fun k_ => k_ ≠ gb271) ho0 (fun k_ hk_ => Or.elim hk_ (fun hs_ => Or.elim hs_ (fun hs_ => fun e_ => (Kd.R_away HO_269002.out (fun _ hk => hk.1)) (by rw [← e_]; exact hs_)) (fun hs_ => fun e_ => (Kd.R_away HO283.out (fun _ hk => hk.2)) (by rw [← e_]; exact hs_))) (fun hn_ => (Kd.freshB (g := gb271) (o := .cells #[.int .i64 a1, .int .i64 a2, .int .i64 (wrap64 (t264 + 1)), .string a3] 54 (0, 0)) u10_3 k_ hn_)))); replace BK271 := am (blk_kept u10_3 hkp (fun hs_ => Or.elim hs_ (fun e_ => (fun e_ => (Kd.R_away HO_269002.out (fun _ hk => hk.1)) e_) e_) (fun e_ => (fun e_ => (Kd.R_away HO283.out (fun _ hk => hk.2)) e_) e_))); replace HB := am (hb); clear HO283 HO_269002; (try clear hb); (try clear hkp); (try clear ho0); obtain ⟨Ao112, co112, eo112⟩ := Kd.R_slice HO286.out; subst eo112; obtain ⟨hcz113_0, hcz113_1, hcz113_2, hfz113_0, hfz113_1, hfz113_2⟩ := bc3f w111 BK268.out; have hnb114 := NB262_261.out; have hnc114 := NB261_262.out; obtain ⟨hcz115_0, hcz115_1, hcz115_2, hfz115_0, hfz115_1, hfz115_2⟩ := bc3f w111 BK262.out))
       repeat (go_quiet (first | ((with_reducible refine gate_dst (N := 115) rfl ?_); (try (refine gate_guard (by rfl) ?_; dsimp only)); refine Kd.R_lit k54 _ 54 ?hg (N := 115) ?hd (xs := ([(⟨a1, a2, (wrap64 (t264 + 1)), a3⟩ : S54)] : List (S54))) (inner := [.int .i64 a1, .int .i64 a2, .int .i64 (wrap64 (t264 + 1)), .string a3]) (ok := fun _ => True) (okp := fun _ => True) ?hr ?hp (fun _ hk => hk) trivial (Below.refl _ _) (Nat.le_refl _) (by simp) ?_; (case hd => rfl); (case hg => rfl); (case hr => first | (go_simp; done) | (go_simp; rfl)); (case hp => exact (Reps.c4 (show Kd.M k54 _ _ _ (⟨a1, a2, (wrap64 (t264 + 1)), a3⟩ : S54) [.int .i64 a1, .int .i64 a2, .int .i64 (wrap64 (t264 + 1)), .string a3] from (k54_mkM _ _ _ (⟨a1, a2, (wrap64 (t264 + 1)), a3⟩ : S54) )) (Reps.none _ _))); intro v282 w108 ho109 hb hg_ hnew_; clear hg_ hnew_; (first | rw [← Ny281.out] at ho109 | (simp only [Int.reduceToNat] at ho109; rw [← Ny281.out] at ho109)); have HO283 := am (Kd.R_lower (Kd.R_newB (Kd.R_new' ho109 (Kd.R_lt u10_12)) (g := gb271) (o := .cells #[.int .i64 a1, .int .i64 a2, .int .i64 (wrap64 (t264 + 1)), .string a3] 54 (0, 0)) u10_3) (below_size q0)); replace HO_269002 := am (Kd.R_elder' u10_12 (Kd.R_base ho109) hb); replace BK261 := am (blk_below (g := gb261) (o := .cells #[.int .i64 a0_0, .int .i64 a0_1, .slice A0_2 l0_2.length c0_2] 30 (0, 0)) u10_1 hb); replace BK262 := am (blk_below (g := gb262) (o := .cells #[.int .i64 0, .int .i64 0, .slice none 0 0] 30 (0, 0)) u10_2 hb); replace BK268 := am (blk_below (g := gb268) (o := .cells #[.int .i64 t263, .int .i64 (wrap64 (t264 + 1)), .slice (some ad280) x269002_57.length co98] 30 (0, 0)) u10_5 hb); replace BK271 := am (blk_below (g := gb271) (o := .cells #[.int .i64 a1, .int .i64 a2, .int .i64 (wrap64 (t264 + 1)), .string a3] 54 (0, 0)) u10_3 hb); replace HB := am (below_step q0 hb); clear hb ho109; obtain ⟨Ao110, co110, eo110⟩ := Kd.R_slice HO283.out; subst eo110) | (go_at_call 56; (with_reducible refine (impl_Session_56.calls (fun k_ => some k_ = (.slice (some ad280) x269002_57.length co98 : Value).ownBlock) (.slice (some ad280) x269002_57.length co98) x269002_57 x18_3 (fun k_ => some k_ = (.slice Ao110 y281.length co110 : Value).ownBlock) (.slice Ao110 y281.length co110) y281 t284 w _ ?side1 ?side2 ?side3 ?side4 ?side5 A100.out).mono ?_); (case side1 => exact q0); (case side2 => exact Kd.R_tight rfl HO_269002.out); (case side3 => exact fun k_ e_ => (HO_269002.out.1 k_ e_.symm).2); (case side4 => exact Kd.R_tight rfl HO283.out); (case side5 => exact fun k_ e_ => (HO283.out.1 k_ e_.symm).1.2); rintro e w111 ⟨v285, rfl, ho0, hb, hkp⟩; replace BK261 := am (blk_kept u10_1 hkp (fun hs_ => Or.elim hs_ (fun e_ => (fun e_ => (Kd.R_ne HO_269002.out BK261.out (by decide)) e_) e_) (fun e_ => (fun e_ => (Kd.R_ne HO283.out BK261.out (by decide)) e_) e_))); replace BK262 := am (blk_kept u10_2 hkp (fun hs_ => Or.elim hs_ (fun e_ => (fun e_ => (Kd.R_ne HO_269002.out BK262.out (by decide)) e_) e_) (fun e_ => (fun e_ => (Kd.R_ne HO283.out BK262.out (by decide)) e_) e_))); replace BK268 := am (blk_kept u10_5 hkp (fun hs_ => Or.elim hs_ (fun e_ => (fun e_ => (Kd.R_ne HO_269002.out BK268.out (by decide)) e_) e_) (fun e_ => (fun e_ => (Kd.R_ne HO283.out BK268.out (by decide)) e_) e_))); have HO286 := am (Kd.R_mono (ok' := fun k_ => k_ ≠ gb271) ho0 (fun k_ hk_ => Or.elim hk_ (fun hs_ => Or.elim hs_ (fun hs_ => fun e_ => (Kd.R_away HO_269002.out (fun _ hk => hk.1)) (by rw [← e_]; exact hs_)) (fun hs_ => fun e_ => (Kd.R_away HO283.out (fun _ hk => hk.2)) (by rw [← e_]; exact hs_))) (fun hn_ => (Kd.freshB (g := gb271) (o := .cells #[.int .i64 a1, .int .i64 a2, .int .i64 (wrap64 (t264 + 1)), .string a3] 54 (0, 0)) u10_3 k_ hn_)))); replace BK271 := am (blk_kept u10_3 hkp (fun hs_ => Or.elim hs_ (fun e_ => (fun e_ => (Kd.R_away HO_269002.out (fun _ hk => hk.1)) e_) e_) (fun e_ => (fun e_ => (Kd.R_away HO283.out (fun _ hk => hk.2)) e_) e_))); replace HB := am (hb); clear HO283 HO_269002; (try clear hb); (try clear hkp); (try clear ho0); obtain ⟨Ao112, co112, eo112⟩ := Kd.R_slice HO286.out; subst eo112; obtain ⟨hcz113_0, hcz113_1, hcz113_2, hfz113_0, hfz113_1, hfz113_2⟩ := bc3f w111 BK268.out; have hnb114 := NB262_261.out; have hnc114 := NB261_262.out; obtain ⟨hcz115_0, hcz115_1, hcz115_2, hfz115_0, hfz115_1, hfz115_2⟩ := bc3f w111 BK262.out)); try go_wp2_with (first | ((with_reducible refine gate_dst (N := 115) rfl ?_); (try (refine gate_guard (by rfl) ?_; dsimp only)); refine Kd.R_lit k54 _ 54 ?hg (N := 115) ?hd (xs := ([(⟨a1, a2, (wrap64 (t264 + 1)), a3⟩ : S54)] : List (S54))) (inner := [.int .i64 a1, .int .i64 a2, .int .i64 (wrap64 (t264 + 1)), .string a3]) (ok := fun _ => True) (okp := fun _ => True) ?hr ?hp (fun _ hk => hk) trivial (Below.refl _ _) (Nat.le_refl _) (by simp) ?_; (case hd => rfl); (case hg => rfl); (case hr => first | (go_simp; done) | (go_simp; rfl)); (case hp => exact (Reps.c4 (show Kd.M k54 _ _ _ (⟨a1, a2, (wrap64 (t264 + 1)), a3⟩ : S54) [.int .i64 a1, .int .i64 a2, .int .i64 (wrap64 (t264 + 1)), .string a3] from (k54_mkM _ _ _ (⟨a1, a2, (wrap64 (t264 + 1)), a3⟩ : S54) )) (Reps.none _ _))); intro v282 w108 ho109 hb hg_ hnew_; clear hg_ hnew_; (first | rw [← Ny281.out] at ho109 | (simp only [Int.reduceToNat] at ho109; rw [← Ny281.out] at ho109)); have HO283 := am (Kd.R_lower (Kd.R_newB (Kd.R_new' ho109 (Kd.R_lt u10_12)) (g := gb271) (o := .cells #[.int .i64 a1, .int .i64 a2, .int .i64 (wrap64 (t264 + 1)), .string a3] 54 (0, 0)) u10_3) (below_size q0)); replace HO_269002 := am (Kd.R_elder' u10_12 (Kd.R_base ho109) hb); replace BK261 := am (blk_below (g := gb261) (o := .cells #[.int .i64 a0_0, .int .i64 a0_1, .slice A0_2 l0_2.length c0_2] 30 (0, 0)) u10_1 hb); replace BK262 := am (blk_below (g := gb262) (o := .cells #[.int .i64 0, .int .i64 0, .slice none 0 0] 30 (0, 0)) u10_2 hb); replace BK268 := am (blk_below (g := gb268) (o := .cells #[.int .i64 t263, .int .i64 (wrap64 (t264 + 1)), .slice (some ad280) x269002_57.length co98] 30 (0, 0)) u10_5 hb); replace BK271 := am (blk_below (g := gb271) (o := .cells #[.int .i64 a1, .int .i64 a2, .int .i64 (wrap64 (t264 + 1)), .string a3] 54 (0, 0)) u10_3 hb); replace HB := am (below_step q0 hb); clear hb ho109; obtain ⟨Ao110, co110, eo110⟩ := Kd.R_slice HO283.out; subst eo110) | (go_at_call 56; (with_reducible refine (impl_Session_56.calls (fun k_ => some k_ = (.slice (some ad280) x269002_57.length co98 : Value).ownBlock) (.slice (some ad280) x269002_57.length co98) x269002_57 x18_3 (fun k_ => some k_ = (.slice Ao110 y281.length co110 : Value).ownBlock) (.slice Ao110 y281.length co110) y281 t284 w _ ?side1 ?side2 ?side3 ?side4 ?side5 A100.out).mono ?_); (case side1 => exact q0); (case side2 => exact Kd.R_tight rfl HO_269002.out); (case side3 => exact fun k_ e_ => (HO_269002.out.1 k_ e_.symm).2); (case side4 => exact Kd.R_tight rfl HO283.out); (case side5 => exact fun k_ e_ => (HO283.out.1 k_ e_.symm).1.2); rintro e w111 ⟨v285, rfl, ho0, hb, hkp⟩; replace BK261 := am (blk_kept u10_1 hkp (fun hs_ => Or.elim hs_ (fun e_ => (fun e_ => (Kd.R_ne HO_269002.out BK261.out (by decide)) e_) e_) (fun e_ => (fun e_ => (Kd.R_ne HO283.out BK261.out (by decide)) e_) e_))); replace BK262 := am (blk_kept u10_2 hkp (fun hs_ => Or.elim hs_ (fun e_ => (fun e_ => (Kd.R_ne HO_269002.out BK262.out (by decide)) e_) e_) (fun e_ => (fun e_ => (Kd.R_ne HO283.out BK262.out (by decide)) e_) e_))); replace BK268 := am (blk_kept u10_5 hkp (fun hs_ => Or.elim hs_ (fun e_ => (fun e_ => (Kd.R_ne HO_269002.out BK268.out (by decide)) e_) e_) (fun e_ => (fun e_ => (Kd.R_ne HO283.out BK268.out (by decide)) e_) e_))); have HO286 := am (Kd.R_mono (ok' := fun k_ => k_ ≠ gb271) ho0 (fun k_ hk_ => Or.elim hk_ (fun hs_ => Or.elim hs_ (fun hs_ => fun e_ => (Kd.R_away HO_269002.out (fun _ hk => hk.1)) (by rw [← e_]; exact hs_)) (fun hs_ => fun e_ => (Kd.R_away HO283.out (fun _ hk => hk.2)) (by rw [← e_]; exact hs_))) (fun hn_ => (Kd.freshB (g := gb271) (o := .cells #[.int .i64 a1, .int .i64 a2, .int .i64 (wrap64 (t264 + 1)), .string a3] 54 (0, 0)) u10_3 k_ hn_)))); replace BK271 := am (blk_kept u10_3 hkp (fun hs_ => Or.elim hs_ (fun e_ => (fun e_ => (Kd.R_away HO_269002.out (fun _ hk => hk.1)) e_) e_) (fun e_ => (fun e_ => (Kd.R_away HO283.out (fun _ hk => hk.2)) e_) e_))); replace HB := am (hb); clear HO283 HO_269002; (try clear hb); (try clear hkp); (try clear ho0); obtain ⟨Ao112, co112, eo112⟩ := Kd.R_slice HO286.out; subst eo112; obtain ⟨hcz113_0, hcz113_1, hcz113_2, hfz113_0, hfz113_1, hfz113_2⟩ := bc3f w111 BK268.out; have hnb114 := NB262_261.out; have hnc114 := NB261_262.out; obtain ⟨hcz115_0, hcz115_1, hcz115_2, hfz115_0, hfz115_1, hfz115_2⟩ := bc3f w111 BK262.out)))
       refine bodyPost_ret (results_ct rfl _ _ gb262 30 #[.int .i64 t263, .int .i64 (wrap64 (t264 + 1)), .slice Ao112 t284.length co112] (0, 0) _ rfl u10_27 Tryd.underlying30 rfl kr) rfl ?_
       exact ⟨_, er, (by (with_reducible repeat (first | apply Kd.R_alloc | apply Kd.R_drewN | apply Kd.R_drew)); exact Kd.R_mono (Kd.R_far (p := ⟨gb262, 2, none⟩) (Kd.R_far (p := ⟨gb262, 1, none⟩) (Kd.R_far (p := ⟨gb262, 0, none⟩) (Kd.R_far (p := ⟨gb268, 2, none⟩) (Kd.R_types (Kd.R_types HO286.out BK268.out (by decide)) BK262.out (by decide)) (fun _ hk => hk.1.2) (.slice Ao112 t284.length co112)) (fun _ hk => hk.2) (.int .i64 t263)) (fun _ hk => hk.2) (.int .i64 (wrap64 (t264 + 1)))) (fun _ hk => hk.2) (.slice Ao112 t284.length co112)) (fun _ hk => trivial)), q0⟩

end Go.Proofs.YtjdpifafijcpbaaDoor.QFnOnce
