-- Printed by the session's own program wip/prx.py.
import Derived.Test.YtjdpifafijcpbaaDoorSqFnOnce
import Derived.Test.YtjdpifafijcpbaaDoorQFnOncex0
import Derived.Test.YtjdpifafijcpbaaDoorQFnOncex3
import Derived.Test.YtjdpifafijcpbaaDoorQFnOncex4
namespace Go.Proofs.YtjdpifafijcpbaaDoor.QFnOnce
open Go.RowKit Go.Proofs.YtjdpifafijcpbaaDoorW.PrintWords Go.Proofs.YtjdpifafijcpbaaDoorW.PrintLast Go.Proofs.YtjdpifafijcpbaaDoorW.PrintMore Go.Proofs.YtjdpifafijcpbaaDoor.SqFnOnce
attribute [local go_sem] max2_int min2_int max_two min_two max_three min_three max_four min_four Go.Proofs.YtjdpifafijcpbaaDoor.Set.isSome_setCell
set_option linter.unusedVariables false
set_option linter.unusedSimpArgs false

-- squeezed
theorem u5_1 {P : Prop} (h : P := by (with_reducible repeat (first | refine blk_drewN ?_ _ | refine blk_drew ?_ | refine blk_alloc ?_ _)); exact BK152.out) : P := h
theorem u5_3 {P : Prop} (h : P := by (with_reducible repeat (first | refine blk_drewN ?_ _ | refine blk_drew ?_ | refine blk_alloc ?_ _)); exact BK153.out) : P := h
theorem u5_5 {P : Prop} (h : P := by (with_reducible repeat (first | apply Kd.R_alloc | apply Kd.R_drewN | apply Kd.R_drew)); exact (Kd.R_mono (Kd.R_far (p := ⟨gb166, 1, none⟩) (Kd.R_far (p := ⟨gb166, 2, none⟩) (Kd.R_far (p := ⟨gb166, 1, none⟩) (Kd.R_far (p := ⟨gb166, 0, none⟩) (Kd.R_types HO179.out BK166.out (by decide)) (fun _ hk => hk.2) (.int .i64 t175)) (fun _ hk => hk.2) (.int .i64 t176)) (fun _ hk => hk.2) (.slice Ao84 t177.length co84)) (fun _ hk => hk.2) (.int .i64 (wrap64 (t176 + 1)))) (fun _ h_ => h_.1))) : P := h
theorem u5_6 {P : Prop} (h : P := by (with_reducible repeat (first | refine blk_drewN ?_ _ | refine blk_drew ?_ | refine blk_alloc ?_ _)); refine blk_put (cs := #[.int .i64 t161, .int .i64 t162, .slice none 0 0]) ?_ 2 _ rfl; (with_reducible repeat (first | refine blk_drewN ?_ _ | refine blk_drew ?_ | refine blk_alloc ?_ _)); refine blk_put (cs := #[.int .i64 t161, .int .i64 0, .slice none 0 0]) ?_ 1 _ rfl; (with_reducible repeat (first | refine blk_drewN ?_ _ | refine blk_drew ?_ | refine blk_alloc ?_ _)); refine blk_put (cs := #[.int .i64 0, .int .i64 0, .slice none 0 0]) ?_ 0 _ rfl; (with_reducible repeat (first | refine blk_drewN ?_ _ | refine blk_drew ?_ | refine blk_alloc ?_ _)); exact BK166.out) : P := h
theorem u5_7 {P : Prop} (h : P := by (with_reducible repeat (first | refine blk_drewN ?_ _ | refine blk_drew ?_ | refine blk_alloc ?_ _)); refine blk_far ?_ NB172_166.out _; (with_reducible repeat (first | refine blk_drewN ?_ _ | refine blk_drew ?_ | refine blk_alloc ?_ _)); refine blk_far ?_ NB172_166.out _; (with_reducible repeat (first | refine blk_drewN ?_ _ | refine blk_drew ?_ | refine blk_alloc ?_ _)); refine blk_far ?_ NB172_166.out _; (with_reducible repeat (first | refine blk_drewN ?_ _ | refine blk_drew ?_ | refine blk_alloc ?_ _)); refine blk_far ?_ NB172_166.out _; (with_reducible repeat (first | refine blk_drewN ?_ _ | refine blk_drew ?_ | refine blk_alloc ?_ _)); exact BK172.out) : P := h
theorem u5_8 {P : Prop} (h : P := by (with_reducible repeat (first | refine blk_drewN ?_ _ | refine blk_drew ?_ | refine blk_alloc ?_ _)); refine blk_far ?_ NB152_166.out _; (with_reducible repeat (first | refine blk_drewN ?_ _ | refine blk_drew ?_ | refine blk_alloc ?_ _)); refine blk_far ?_ NB152_166.out _; (with_reducible repeat (first | refine blk_drewN ?_ _ | refine blk_drew ?_ | refine blk_alloc ?_ _)); refine blk_far ?_ NB152_166.out _; (with_reducible repeat (first | refine blk_drewN ?_ _ | refine blk_drew ?_ | refine blk_alloc ?_ _)); exact BK152.out) : P := h
theorem u5_9 {P : Prop} (h : P := by (with_reducible repeat (first | refine blk_drewN ?_ _ | refine blk_drew ?_ | refine blk_alloc ?_ _)); refine blk_far ?_ NB153_166.out _; (with_reducible repeat (first | refine blk_drewN ?_ _ | refine blk_drew ?_ | refine blk_alloc ?_ _)); refine blk_far ?_ NB153_166.out _; (with_reducible repeat (first | refine blk_drewN ?_ _ | refine blk_drew ?_ | refine blk_alloc ?_ _)); refine blk_far ?_ NB153_166.out _; (with_reducible repeat (first | refine blk_drewN ?_ _ | refine blk_drew ?_ | refine blk_alloc ?_ _)); exact BK153.out) : P := h
theorem u5_10 {P : Prop} (h : P := by (with_reducible repeat (first | apply Kd.R_alloc | apply Kd.R_drewN | apply Kd.R_drew)); exact (Kd.R_mono (Kd.R_far (p := ⟨gb166, 1, none⟩) (Kd.R_far (p := ⟨gb166, 2, none⟩) (Kd.R_far (p := ⟨gb166, 1, none⟩) (Kd.R_far (p := ⟨gb166, 0, none⟩) (Kd.R_types HO_167002.out BK166.out (by decide)) (fun _ hk => hk.2) (.int .i64 t175)) (fun _ hk => hk.2) (.int .i64 t176)) (fun _ hk => hk.2) (.slice Ao84 t177.length co84)) (fun _ hk => hk.2) (.int .i64 (wrap64 (t176 + 1)))) (fun _ h_ => h_.1))) : P := h
theorem u5_12 {P : Prop} (h : P := by (with_reducible repeat (first | apply Kd.R_alloc | apply Kd.R_drewN | apply Kd.R_drew)); exact (Kd.R_mono (Kd.R_far (p := ⟨gb166, 1, none⟩) (Kd.R_types HO_167002.out BK166.out (by decide)) (fun _ hk => hk.2) (.int .i64 (wrap64 (t162 + 1)))) (fun _ h_ => h_.1))) : P := h
theorem u5_14 {P : Prop} (h : P := by (with_reducible repeat (first | apply Kd.R_alloc | apply Kd.R_drewN | apply Kd.R_drew)); exact (Kd.R_mono (Kd.R_far (p := ⟨gb166, 2, none⟩) (Kd.R_far (p := ⟨gb166, 1, none⟩) (Kd.R_far (p := ⟨gb166, 0, none⟩) (Kd.R_types HO165.out BK166.out (by decide)) (fun _ hk => hk.2) (.int .i64 t161)) (fun _ hk => hk.2) (.int .i64 t162)) (fun _ hk => hk.2) (.slice Ao32 t163.length co32)) (fun _ h_ => h_.1))) : P := h
theorem u5_16 {P : Prop} (h : P := by (with_reducible repeat (first | refine blk_drewN ?_ _ | refine blk_drew ?_ | refine blk_alloc ?_ _)); refine blk_put (cs := #[.int .i64 t175, .int .i64 t176, .slice Ao84 t177.length co84]) ?_ 1 _ rfl; (with_reducible repeat (first | refine blk_drewN ?_ _ | refine blk_drew ?_ | refine blk_alloc ?_ _)); refine blk_put (cs := #[.int .i64 t175, .int .i64 t176, .slice Ao32 t163.length co32]) ?_ 2 _ rfl; (with_reducible repeat (first | refine blk_drewN ?_ _ | refine blk_drew ?_ | refine blk_alloc ?_ _)); refine blk_put (cs := #[.int .i64 t175, .int .i64 t162, .slice Ao32 t163.length co32]) ?_ 1 _ rfl; (with_reducible repeat (first | refine blk_drewN ?_ _ | refine blk_drew ?_ | refine blk_alloc ?_ _)); refine blk_put (cs := #[.int .i64 t161, .int .i64 t162, .slice Ao32 t163.length co32]) ?_ 0 _ rfl; (with_reducible repeat (first | refine blk_drewN ?_ _ | refine blk_drew ?_ | refine blk_alloc ?_ _)); exact BK166.out) : P := h
theorem u5_17 {P : Prop} (h : P := by (with_reducible repeat (first | refine blk_drewN ?_ _ | refine blk_drew ?_ | refine blk_alloc ?_ _)); exact BK166.out) : P := h
theorem u5_18 {P : Prop} (h : P := by (with_reducible repeat (first | refine blk_drewN ?_ _ | refine blk_drew ?_ | refine blk_alloc ?_ _)); refine blk_far ?_ NB152_172.out _; (with_reducible repeat (first | refine blk_drewN ?_ _ | refine blk_drew ?_ | refine blk_alloc ?_ _)); refine blk_far ?_ NB152_172.out _; (with_reducible repeat (first | refine blk_drewN ?_ _ | refine blk_drew ?_ | refine blk_alloc ?_ _)); refine blk_far ?_ NB152_172.out _; (with_reducible repeat (first | refine blk_drewN ?_ _ | refine blk_drew ?_ | refine blk_alloc ?_ _)); refine blk_far ?_ NB152_172.out _; (with_reducible repeat (first | refine blk_drewN ?_ _ | refine blk_drew ?_ | refine blk_alloc ?_ _)); exact BK152.out) : P := h
theorem u5_19 {P : Prop} (h : P := by (with_reducible repeat (first | refine blk_drewN ?_ _ | refine blk_drew ?_ | refine blk_alloc ?_ _)); refine blk_far ?_ NB153_172.out _; (with_reducible repeat (first | refine blk_drewN ?_ _ | refine blk_drew ?_ | refine blk_alloc ?_ _)); refine blk_far ?_ NB153_172.out _; (with_reducible repeat (first | refine blk_drewN ?_ _ | refine blk_drew ?_ | refine blk_alloc ?_ _)); refine blk_far ?_ NB153_172.out _; (with_reducible repeat (first | refine blk_drewN ?_ _ | refine blk_drew ?_ | refine blk_alloc ?_ _)); refine blk_far ?_ NB153_172.out _; (with_reducible repeat (first | refine blk_drewN ?_ _ | refine blk_drew ?_ | refine blk_alloc ?_ _)); exact BK153.out) : P := h
theorem u5_20 {P : Prop} (h : P := by (with_reducible repeat (first | refine blk_drewN ?_ _ | refine blk_drew ?_ | refine blk_alloc ?_ _)); refine blk_far ?_ NB166_172.out _; (with_reducible repeat (first | refine blk_drewN ?_ _ | refine blk_drew ?_ | refine blk_alloc ?_ _)); refine blk_far ?_ NB166_172.out _; (with_reducible repeat (first | refine blk_drewN ?_ _ | refine blk_drew ?_ | refine blk_alloc ?_ _)); refine blk_far ?_ NB166_172.out _; (with_reducible repeat (first | refine blk_drewN ?_ _ | refine blk_drew ?_ | refine blk_alloc ?_ _)); refine blk_far ?_ NB166_172.out _; (with_reducible repeat (first | refine blk_drewN ?_ _ | refine blk_drew ?_ | refine blk_alloc ?_ _)); exact BK166.out) : P := h
theorem u5_21 {P : Prop} (h : P := by (with_reducible repeat (first | refine blk_drewN ?_ _ | refine blk_drew ?_ | refine blk_alloc ?_ _)); refine blk_far ?_ NB152_166.out _; (with_reducible repeat (first | refine blk_drewN ?_ _ | refine blk_drew ?_ | refine blk_alloc ?_ _)); refine blk_far ?_ NB152_166.out _; (with_reducible repeat (first | refine blk_drewN ?_ _ | refine blk_drew ?_ | refine blk_alloc ?_ _)); refine blk_far ?_ NB152_166.out _; (with_reducible repeat (first | refine blk_drewN ?_ _ | refine blk_drew ?_ | refine blk_alloc ?_ _)); refine blk_far ?_ NB152_166.out _; (with_reducible repeat (first | refine blk_drewN ?_ _ | refine blk_drew ?_ | refine blk_alloc ?_ _)); exact BK152.out) : P := h
theorem u5_22 {P : Prop} (h : P := by (with_reducible repeat (first | refine blk_drewN ?_ _ | refine blk_drew ?_ | refine blk_alloc ?_ _)); refine blk_far ?_ NB153_166.out _; (with_reducible repeat (first | refine blk_drewN ?_ _ | refine blk_drew ?_ | refine blk_alloc ?_ _)); refine blk_far ?_ NB153_166.out _; (with_reducible repeat (first | refine blk_drewN ?_ _ | refine blk_drew ?_ | refine blk_alloc ?_ _)); refine blk_far ?_ NB153_166.out _; (with_reducible repeat (first | refine blk_drewN ?_ _ | refine blk_drew ?_ | refine blk_alloc ?_ _)); refine blk_far ?_ NB153_166.out _; (with_reducible repeat (first | refine blk_drewN ?_ _ | refine blk_drew ?_ | refine blk_alloc ?_ _)); exact BK153.out) : P := h
theorem u5_23 {P : Prop} (h : P := by (with_reducible repeat (first | apply Kd.R_alloc | apply Kd.R_drewN | apply Kd.R_drew)); exact HO_167002.out) : P := h
theorem u5_24 {P : Prop} (h : P := by (with_reducible repeat (first | refine blk_drewN ?_ _ | refine blk_drew ?_ | refine blk_alloc ?_ _)); exact BK172.out) : P := h
theorem u5_25 {P : Prop} (h : P := by (with_reducible repeat (first | apply Kd.R_alloc | apply Kd.R_drewN | apply Kd.R_drew)); exact HO165.out) : P := h
theorem u5_26 {P : Prop} (h : P := by (with_reducible repeat (first | refine blk_drewN ?_ _ | refine blk_drew ?_ | refine blk_alloc ?_ _)); refine blk_put (cs := #[.int .i64 t161, .int .i64 t162, .slice Ao32 t163.length co32]) ?_ 1 _ rfl; (with_reducible repeat (first | refine blk_drewN ?_ _ | refine blk_drew ?_ | refine blk_alloc ?_ _)); exact BK166.out) : P := h
theorem u5_28 {P : Prop} (h : P := by (with_reducible repeat (first | refine blk_drewN ?_ _ | refine blk_drew ?_ | refine blk_alloc ?_ _)); refine blk_far ?_ NB152_166.out _; (with_reducible repeat (first | refine blk_drewN ?_ _ | refine blk_drew ?_ | refine blk_alloc ?_ _)); exact BK152.out) : P := h
theorem u5_29 {P : Prop} (h : P := by (with_reducible repeat (first | refine blk_drewN ?_ _ | refine blk_drew ?_ | refine blk_alloc ?_ _)); refine blk_far ?_ NB153_166.out _; (with_reducible repeat (first | refine blk_drewN ?_ _ | refine blk_drew ?_ | refine blk_alloc ?_ _)); exact BK153.out) : P := h
theorem u5_30 {P : Prop} (h : P := by refine (Kd.R_reads' (e := 54) (base := w.heap.size) (ok := fun k_ => ((True ∧ some k_ ≠ (.slice Ao32 t163.length co32 : Value).ownBlock) ∧ k_ ≠ gb172)) (n := t177.length) (c := co84) ?_).2.2; exact u5_5) : P := h
theorem u5_32 {P : Prop} (h : P := by repeat (first | exact (Kd.R_reads' HO_167002.out).2.2 | (with_reducible refine Kd.C_alloc ?_ _) | (with_reducible refine Kd.C_drewN ?_ _) | (with_reducible refine Kd.C_drew ?_))) : P := h
theorem u5_33 {P : Prop} (h : P := by refine (Kd.R_reads' (e := 54) (base := w.heap.size) (ok := fun k_ => True) (n := t163.length) (c := co32) ?_).2.2; exact u5_12) : P := h
theorem u5_34 {P : Prop} (h : P := by exact Kd.C_below HR0_2.out q0) : P := h
/-! ### spec_Keep: function 30 -/
mutual
def spec_Keep.j0 : Nat → Int → Int → ByteArray → Bool → Int → Int → List (S54) → Option (Int × Int × (List (S54)) × Bool)
 | 0, _, _, _, _, _, _, _ => none
 | k + 1, x1, x2, x3, x33, x153000, x153001, x153002 => if x33 = true then ((spec_l09Copy.f k x153000 x153001 x153002).bind fun bt156 => (some (bt156.1, bt156.2.1, bt156.2.2, false))) else ((spec_l09Copy.f k x153000 x153001 x153002).bind fun bt161 => ((spec_l09Find.f k x153000 x153001 x153002 x1).bind fun bt167 => (if bt167.1 = 0 then (spec_Keep.j1 k x1 x2 x3 ((x153002.length : Int) == x153000) x153000 x153001 x153002 bt161.1 bt161.2.1 bt161.2.2) else (spec_Keep.j1 k x1 x2 x3 false x153000 x153001 x153002 bt161.1 bt161.2.1 bt161.2.2))))
def spec_Keep.j1 : Nat → Int → Int → ByteArray → Bool → Int → Int → List (S54) → Int → Int → List (S54) → Option (Int × Int × (List (S54)) × Bool)
 | 0, _, _, _, _, _, _, _, _, _, _ => none
 | k + 1, x1, x2, x3, x50, x153000, x153001, x153002, x167000, x167001, x167002 => if x50 = true then (if 0 < (x153002.length : Int) then (spec_Keep.l0 k x1 x2 x3 0 x153000 x153001 x153002 x167000 x167001 x167002 ((rd_T54 x153002 0).f0) ((rd_T54 x153002 0).f1) ((rd_T54 x153002 0).f2) ((rd_T54 x153002 0).f3)) else (none)) else ((spec_l09Put.f k x167000 (wrap64 (x167001 + 1)) x167002 x1 x1 x2 (wrap64 (x167001 + 1)) x3).bind fun bt185 => (some (bt185.1, bt185.2.1, bt185.2.2, true)))
def spec_Keep.l0 : Nat → Int → Int → ByteArray → Int → Int → Int → List (S54) → Int → Int → List (S54) → Int → Int → Int → ByteArray → Option (Int × Int × (List (S54)) × Bool)
 | 0, _, _, _, _, _, _, _, _, _, _, _, _, _, _ => none
 | k + 1, x1, x2, x3, x14, x153000, x153001, x153002, x167000, x167001, x167002, x173000, x173001, x173002, x173003 => if x14 < (x153002.length : Int) then (if 0 ≤ x14 then (if ((rd_T54 x153002 x14).f2) < x173002 then (spec_Keep.l0 k x1 x2 x3 (wrap64 (x14 + 1)) x153000 x153001 x153002 x167000 x167001 x167002 ((rd_T54 x153002 x14).f0) ((rd_T54 x153002 x14).f1) ((rd_T54 x153002 x14).f2) ((rd_T54 x153002 x14).f3)) else (spec_Keep.l0 k x1 x2 x3 (wrap64 (x14 + 1)) x153000 x153001 x153002 x167000 x167001 x167002 x173000 x173001 x173002 x173003)) else (none)) else ((spec_l09Put.f k x167000 x167001 x167002 x173000 0 0 0 (⟨#[]⟩ : ByteArray)).bind fun bt175 => ((spec_l09Put.f k bt175.1 (wrap64 (bt175.2.1 + 1)) bt175.2.2 x1 x1 x2 (wrap64 (bt175.2.1 + 1)) x3).bind fun bt180 => (some (bt180.1, bt180.2.1, bt180.2.2, true))))
end
def spec_Keep.f (k : Nat) (a0_0 : Int) (a0_1 : Int) (l0_2 : List (S54)) (a1 : Int) (a2 : Int) (a3 : ByteArray) : Option (Int × Int × (List (S54)) × Bool) := (spec_Look.f k a0_0 a0_1 l0_2 a1 a2).bind fun bt154 => (if bt154.1 = 0 then (if (a3.size : Int) > 40 then (spec_Keep.j0 k a1 a2 a3 true a0_0 a0_1 l0_2) else (spec_Keep.j0 k a1 a2 a3 (decide (a0_1 ≥ 1000000)) a0_0 a0_1 l0_2)) else (spec_Keep.j0 k a1 a2 a3 true a0_0 a0_1 l0_2))
theorem spec_Keep.mono_l : ∀ k, (∀ y0 y1 y2 y3 y4 y5 y6, LeO (spec_Keep.j0 k y0 y1 y2 y3 y4 y5 y6) (spec_Keep.j0 (k + 1) y0 y1 y2 y3 y4 y5 y6)) ∧ (∀ y0 y1 y2 y3 y4 y5 y6 y7 y8 y9, LeO (spec_Keep.j1 k y0 y1 y2 y3 y4 y5 y6 y7 y8 y9) (spec_Keep.j1 (k + 1) y0 y1 y2 y3 y4 y5 y6 y7 y8 y9)) ∧ (∀ y0 y1 y2 y3 y4 y5 y6 y7 y8 y9 y10 y11 y12 y13, LeO (spec_Keep.l0 k y0 y1 y2 y3 y4 y5 y6 y7 y8 y9 y10 y11 y12 y13) (spec_Keep.l0 (k + 1) y0 y1 y2 y3 y4 y5 y6 y7 y8 y9 y10 y11 y12 y13))
 | 0 => ⟨fun _ _ _ _ _ _ _ r h => by simp [spec_Keep.j0] at h, fun _ _ _ _ _ _ _ _ _ _ r h => by simp [spec_Keep.j1] at h, fun _ _ _ _ _ _ _ _ _ _ _ _ _ _ r h => by simp [spec_Keep.l0] at h⟩
 | k + 1 => by
   obtain ⟨ih0, ih1, ih2⟩ := spec_Keep.mono_l k
   refine ⟨?_, ?_, ?_⟩ <;> intros <;> (first | unfold spec_Keep.j0 | unfold spec_Keep.j1 | unfold spec_Keep.l0) <;> repeat' first
   | (with_reducible exact ih0 _ _ _ _ _ _ _)
   | (with_reducible exact ih1 _ _ _ _ _ _ _ _ _ _)
   | (with_reducible exact ih2 _ _ _ _ _ _ _ _ _ _ _ _ _ _)
   | (with_reducible exact spec_Look.mono _ _ _ _ _ _)
   | (with_reducible exact spec_l09Copy.mono _ _ _ _)
   | (with_reducible exact spec_l09Find.mono _ _ _ _ _)
   | (with_reducible exact spec_l09Put.mono _ _ _ _ _ _ _ _ _)
   | (with_reducible exact LeO.refl _)
   | (with_reducible exact LeO.none _)
   | (with_reducible refine LeO.ite ?_ ?_)
   | (with_reducible refine LeO.bind ?_ (fun _ => ?_))
   | exact ih0 _ _ _ _ _ _ _
   | exact ih1 _ _ _ _ _ _ _ _ _ _
   | exact ih2 _ _ _ _ _ _ _ _ _ _ _ _ _ _
   | exact spec_Look.mono _ _ _ _ _ _
   | exact spec_l09Copy.mono _ _ _ _
   | exact spec_l09Find.mono _ _ _ _ _
   | exact spec_l09Put.mono _ _ _ _ _ _ _ _ _
   | exact LeO.none _
   | refine LeO.ite ?_ ?_
   | refine LeO.bind ?_ (fun _ => ?_)
theorem spec_Keep.mono : ∀ a0 a1 a2 a3 a4 a5 k, LeO (spec_Keep.f k a0 a1 a2 a3 a4 a5) (spec_Keep.f (k + 1) a0 a1 a2 a3 a4 a5) := by
 intro a0 a1 a2 a3 a4 a5 k
 obtain ⟨ih0, ih1, ih2⟩ := spec_Keep.mono_l k
 unfold spec_Keep.f
 repeat' first
     | (with_reducible exact ih0 _ _ _ _ _ _ _)
     | (with_reducible exact ih1 _ _ _ _ _ _ _ _ _ _)
     | (with_reducible exact ih2 _ _ _ _ _ _ _ _ _ _ _ _ _ _)
     | (with_reducible exact spec_Look.mono _ _ _ _ _ _)
     | (with_reducible exact spec_l09Copy.mono _ _ _ _)
     | (with_reducible exact spec_l09Find.mono _ _ _ _ _)
     | (with_reducible exact spec_l09Put.mono _ _ _ _ _ _ _ _ _)
     | (with_reducible exact LeO.refl _)
     | (with_reducible exact LeO.none _)
     | (with_reducible refine LeO.ite ?_ ?_)
     | (with_reducible refine LeO.bind ?_ (fun _ => ?_))
     | exact ih0 _ _ _ _ _ _ _
     | exact ih1 _ _ _ _ _ _ _ _ _ _
     | exact ih2 _ _ _ _ _ _ _ _ _ _ _ _ _ _
     | exact spec_Look.mono _ _ _ _ _ _
     | exact spec_l09Copy.mono _ _ _ _
     | exact spec_l09Find.mono _ _ _ _ _
     | exact spec_l09Put.mono _ _ _ _ _ _ _ _ _
     | exact LeO.none _
     | refine LeO.ite ?_ ?_
     | refine LeO.bind ?_ (fun _ => ?_)
set_option maxHeartbeats 8000000 in
set_option maxRecDepth 100000 in
theorem spec_Keep.calls (k : Nat) (a0_0 : Int) (a0_1 : Int) (A0_2 : Option Addr) (c0_2 : Nat) (l0_2 : List (S54)) (a1 : Int) (a2 : Int) (a3 : ByteArray) (r1 : Int) (r2 : Int) (r3 : List (S54)) (r4 : Bool) (w : World) (hr0_2 : Kd.C k54 w A0_2 l0_2.length l0_2) (hc0_2 : l0_2.length ≤ c0_2) (h : spec_Keep.f k a0_0 a0_1 l0_2 a1 a2 a3 = some (r1, r2, r3, r4)) :
   Calls Tryd.prog 30 #[.agg #[.int .i64 a0_0, .int .i64 a0_1, .slice A0_2 l0_2.length c0_2], .int .i64 a1, .int .i64 a2, .string a3] w fun e w' => ∃ v2_ : Value, e = .returned (.tuple #[.agg #[.int .i64 r1, .int .i64 r2, v2_], .bool r4]) ∧ Kd.R k54 54 w' w.heap.size (fun _ => True) v2_ r3 ∧ Below w.heap.size w w' := by
 have hu30 := Tryd.underlying30
 have hu54 := Tryd.underlying54
 have hfl54_0 : ∀ (q0_ q1_ q2_ q3_ : Value) (W : World), (Instr.field 54 (.agg #[q0_, q1_, q2_, q3_]) 0).run Tryd.prog W = .ok (q0_) W := fun q0_ q1_ q2_ q3_ W => by first | rfl | kernel_rfl
 have HR0_2 := am hr0_2
 have HC0_2 := am hc0_2
 clear hr0_2 hc0_2
 have HB := am (Below.refl w.heap.size w)
 have H : ((spec_Look.f k a0_0 a0_1 l0_2 a1 a2).bind fun bt154 => (if bt154.1 = 0 then (if (a3.size : Int) > 40 then (spec_Keep.j0 k a1 a2 a3 true a0_0 a0_1 l0_2) else (spec_Keep.j0 k a1 a2 a3 (decide (a0_1 ≥ 1000000)) a0_0 a0_1 l0_2)) else (spec_Keep.j0 k a1 a2 a3 true a0_0 a0_1 l0_2))) = some (r1, r2, r3, r4) := h
 clear h
 replace H := Option.bind_eq_some_iff.mp H
 obtain ⟨⟨t154, t155⟩, A50, H⟩ := H
 (try dsimp only at H)
 have A5 := am A50
 clear A50
 have HC6 := am H
 clear H
 go_enter Tryd.func30, Tryd.ntmps30
 go_upto_region 2 with (first | ((with_reducible refine gate_dst (N := 4) rfl ?_); (try (refine gate_guard (by rfl) ?_; dsimp only)); refine box_event ?hg (N := 4) ?hd (cs := #[.int .i64 a0_0, .int .i64 a0_1, .slice A0_2 l0_2.length c0_2]) (t := 30) ?hr ?_; (case hd => rfl); (case hg => rfl); (case hr => first | (go_simp; done) | (go_simp; rfl)); intro gb152 hg w7 hbox hb; have BK152 := am (hbox); have GW152 := am ((by rw [hg]; exact (below_size q0) : w.heap.size ≤ gb152)); have GE152 := am ((by rw [hg]; exact (below_size q0) : w.heap.size ≤ gb152)); replace HB := am (below_step q0 hb); clear hb hbox hg) | ((with_reducible refine gate_dst (N := 8) rfl ?_); (try (refine gate_guard (by rfl) ?_; dsimp only)); refine box_event ?hg (N := 8) ?hd (cs := #[.int .i64 0, .int .i64 0, .slice none 0 0]) (t := 30) ?hr ?_; (case hd => rfl); (case hg => rfl); (case hr => first | (go_simp; done) | (go_simp; rfl)); intro gb153 hg w8 hbox hb; have BK153 := am (hbox); have GW153 := am ((by rw [hg]; exact (below_size q0) : w.heap.size ≤ gb153)); have GE153 := am ((by rw [hg]; exact (below_size q0) : w.heap.size ≤ gb153)); replace HB := am (below_step q0 hb); have NB152_153 := am ((by rw [hg]; exact Nat.ne_of_lt (blk_lt (g := gb152) (o := .cells #[.int .i64 a0_0, .int .i64 a0_1, .slice A0_2 l0_2.length c0_2] 30 (0, 0)) u5_1) : gb152 ≠ gb153)); have NB153_152 := am ((by rw [hg]; exact Nat.ne_of_gt (blk_lt (g := gb152) (o := .cells #[.int .i64 a0_0, .int .i64 a0_1, .slice A0_2 l0_2.length c0_2] 30 (0, 0)) u5_1) : gb153 ≠ gb152)); replace BK152 := am (blk_below (g := gb152) (o := .cells #[.int .i64 a0_0, .int .i64 a0_1, .slice A0_2 l0_2.length c0_2] 30 (0, 0)) u5_1 hb); clear hb hbox hg; have hnb9 := NB152_153.out; have hnc9 := NB153_152.out; obtain ⟨hcz10_0, hcz10_1, hcz10_2, hfz10_0, hfz10_1, hfz10_2⟩ := bc3f w8 BK152.out) | (go_at_call 29; (with_reducible refine (spec_Look.calls k a0_0 a0_1 _ _ l0_2 a1 a2 t154 t155 _ ?side1 ?side2 A5.out).mono ?_); (case side1 => exact q5); (case side2 => exact HC0_2.out); rintro e w11 ⟨rfl, hb⟩; replace BK152 := am (blk_below (g := gb152) (o := .cells #[.int .i64 a0_0, .int .i64 a0_1, .slice A0_2 l0_2.length c0_2] 30 (0, 0)) u5_1 hb); replace BK153 := am (blk_below (g := gb153) (o := .cells #[.int .i64 0, .int .i64 0, .slice none 0 0] 30 (0, 0)) u5_3 hb); replace HB := am (below_step q0 hb); (try clear hb); (try clear hb2); (try clear hk); (try clear hi)))
 repeat (go_quiet (first | ((with_reducible refine gate_dst (N := 4) rfl ?_); (try (refine gate_guard (by rfl) ?_; dsimp only)); refine box_event ?hg (N := 4) ?hd (cs := #[.int .i64 a0_0, .int .i64 a0_1, .slice A0_2 l0_2.length c0_2]) (t := 30) ?hr ?_; (case hd => rfl); (case hg => rfl); (case hr => first | (go_simp; done) | (go_simp; rfl)); intro gb152 hg w7 hbox hb; have BK152 := am (hbox); have GW152 := am ((by rw [hg]; exact (below_size q0) : w.heap.size ≤ gb152)); have GE152 := am ((by rw [hg]; exact (below_size q0) : w.heap.size ≤ gb152)); replace HB := am (below_step q0 hb); clear hb hbox hg) | ((with_reducible refine gate_dst (N := 8) rfl ?_); (try (refine gate_guard (by rfl) ?_; dsimp only)); refine box_event ?hg (N := 8) ?hd (cs := #[.int .i64 0, .int .i64 0, .slice none 0 0]) (t := 30) ?hr ?_; (case hd => rfl); (case hg => rfl); (case hr => first | (go_simp; done) | (go_simp; rfl)); intro gb153 hg w8 hbox hb; have BK153 := am (hbox); have GW153 := am ((by rw [hg]; exact (below_size q0) : w.heap.size ≤ gb153)); have GE153 := am ((by rw [hg]; exact (below_size q0) : w.heap.size ≤ gb153)); replace HB := am (below_step q0 hb); have NB152_153 := am ((by rw [hg]; exact Nat.ne_of_lt (blk_lt (g := gb152) (o := .cells #[.int .i64 a0_0, .int .i64 a0_1, .slice A0_2 l0_2.length c0_2] 30 (0, 0)) u5_1) : gb152 ≠ gb153)); have NB153_152 := am ((by rw [hg]; exact Nat.ne_of_gt (blk_lt (g := gb152) (o := .cells #[.int .i64 a0_0, .int .i64 a0_1, .slice A0_2 l0_2.length c0_2] 30 (0, 0)) u5_1) : gb153 ≠ gb152)); replace BK152 := am (blk_below (g := gb152) (o := .cells #[.int .i64 a0_0, .int .i64 a0_1, .slice A0_2 l0_2.length c0_2] 30 (0, 0)) u5_1 hb); clear hb hbox hg; have hnb9 := NB152_153.out; have hnc9 := NB153_152.out; obtain ⟨hcz10_0, hcz10_1, hcz10_2, hfz10_0, hfz10_1, hfz10_2⟩ := bc3f w8 BK152.out) | (go_at_call 29; (with_reducible refine (spec_Look.calls k a0_0 a0_1 _ _ l0_2 a1 a2 t154 t155 _ ?side1 ?side2 A5.out).mono ?_); (case side1 => exact q5); (case side2 => exact HC0_2.out); rintro e w11 ⟨rfl, hb⟩; replace BK152 := am (blk_below (g := gb152) (o := .cells #[.int .i64 a0_0, .int .i64 a0_1, .slice A0_2 l0_2.length c0_2] 30 (0, 0)) u5_1 hb); replace BK153 := am (blk_below (g := gb153) (o := .cells #[.int .i64 0, .int .i64 0, .slice none 0 0] 30 (0, 0)) u5_3 hb); replace HB := am (below_step q0 hb); (try clear hb); (try clear hb2); (try clear hk); (try clear hi))); go_upto_region 2 with (first | ((with_reducible refine gate_dst (N := 4) rfl ?_); (try (refine gate_guard (by rfl) ?_; dsimp only)); refine box_event ?hg (N := 4) ?hd (cs := #[.int .i64 a0_0, .int .i64 a0_1, .slice A0_2 l0_2.length c0_2]) (t := 30) ?hr ?_; (case hd => rfl); (case hg => rfl); (case hr => first | (go_simp; done) | (go_simp; rfl)); intro gb152 hg w7 hbox hb; have BK152 := am (hbox); have GW152 := am ((by rw [hg]; exact (below_size q0) : w.heap.size ≤ gb152)); have GE152 := am ((by rw [hg]; exact (below_size q0) : w.heap.size ≤ gb152)); replace HB := am (below_step q0 hb); clear hb hbox hg) | ((with_reducible refine gate_dst (N := 8) rfl ?_); (try (refine gate_guard (by rfl) ?_; dsimp only)); refine box_event ?hg (N := 8) ?hd (cs := #[.int .i64 0, .int .i64 0, .slice none 0 0]) (t := 30) ?hr ?_; (case hd => rfl); (case hg => rfl); (case hr => first | (go_simp; done) | (go_simp; rfl)); intro gb153 hg w8 hbox hb; have BK153 := am (hbox); have GW153 := am ((by rw [hg]; exact (below_size q0) : w.heap.size ≤ gb153)); have GE153 := am ((by rw [hg]; exact (below_size q0) : w.heap.size ≤ gb153)); replace HB := am (below_step q0 hb); have NB152_153 := am ((by rw [hg]; exact Nat.ne_of_lt (blk_lt (g := gb152) (o := .cells #[.int .i64 a0_0, .int .i64 a0_1, .slice A0_2 l0_2.length c0_2] 30 (0, 0)) u5_1) : gb152 ≠ gb153)); have NB153_152 := am ((by rw [hg]; exact Nat.ne_of_gt (blk_lt (g := gb152) (o := .cells #[.int .i64 a0_0, .int .i64 a0_1, .slice A0_2 l0_2.length c0_2] 30 (0, 0)) u5_1) : gb153 ≠ gb152)); replace BK152 := am (blk_below (g := gb152) (o := .cells #[.int .i64 a0_0, .int .i64 a0_1, .slice A0_2 l0_2.length c0_2] 30 (0, 0)) u5_1 hb); clear hb hbox hg; have hnb9 := NB152_153.out; have hnc9 := NB153_152.out; obtain ⟨hcz10_0, hcz10_1, hcz10_2, hfz10_0, hfz10_1, hfz10_2⟩ := bc3f w8 BK152.out) | (go_at_call 29; (with_reducible refine (spec_Look.calls k a0_0 a0_1 _ _ l0_2 a1 a2 t154 t155 _ ?side1 ?side2 A5.out).mono ?_); (case side1 => exact q5); (case side2 => exact HC0_2.out); rintro e w11 ⟨rfl, hb⟩; replace BK152 := am (blk_below (g := gb152) (o := .cells #[.int .i64 a0_0, .int .i64 a0_1, .slice A0_2 l0_2.length c0_2] 30 (0, 0)) u5_1 hb); replace BK153 := am (blk_below (g := gb153) (o := .cells #[.int .i64 0, .int .i64 0, .slice none 0 0] 30 (0, 0)) u5_3 hb); replace HB := am (below_step q0 hb); (try clear hb); (try clear hb2); (try clear hk); (try clear hi))))
 (try simp only [Act.put, la, lb, lc])
 go_cut [33] (fun v33 wc => ∃ (kq : Nat) (x33_5 : Bool), v33 = .bool x33_5 ∧ Aside0 (spec_Keep.j0 kq a1 a2 a3 x33_5 a0_0 a0_1 l0_2 = some (r1, r2, r3, r4)) ∧ Aside0 (kq ≤ k) ∧ Aside0 (wc.heap[gb152]? = some (.cells #[.int .i64 a0_0, .int .i64 a0_1, (.slice A0_2 l0_2.length c0_2)] 30 (0, 0))) ∧ Aside0 (wc.heap[gb153]? = some (.cells #[.int .i64 0, .int .i64 0, (.slice none 0 0)] 30 (0, 0))) ∧ Aside0 (Below w.heap.size w wc))
 case first =>
   have H := HC6.out
   clear HC6
   by_cases c12 : t154 = 0
   rotate_left
   · rw [if_neg c12] at H
     have c12b0 : (t154 == 0) = false := beq_eq_false_iff_ne.mpr c12
     have c12b1 : (t154 != 0) = true := bne_iff_ne.mpr c12
     (first | rw [c12b0] | (simp only [i64_w, i32_w]; rw [c12b0]) | skip)
     have H' := am H
     clear H
     go_wp2
     repeat (go_quiet (fail); try go_wp2)
     go_meet
     case rel => exact ⟨_, (true), q4, H', ⟨by first | omega | exact Nat.le_refl _⟩, ⟨u5_1⟩, ⟨u5_3⟩, ⟨q0⟩⟩
   rw [if_pos c12] at H
   have c12b0 : (t154 == 0) = true := beq_iff_eq.mpr c12
   have c12b1 : (t154 != 0) = false := bne_eq_false_iff_eq.mpr c12
   clear c12
   (first | rw [c12b0] | (simp only [i64_w, i32_w]; rw [c12b0]) | skip)
   by_cases c13 : (a3.size : Int) > 40
   · rw [if_pos c13] at H
     have c13b0 : decide (40 < (a3.size : Int)) = true := decide_eq_true c13
     have c13b1 : decide (40 < a3.size) = true := decide_eq_true (by omega)
     clear c13
     have H' := am H
     clear H
     go_wp2
     repeat (go_quiet (fail); try go_wp2)
     go_meet
     case rel => exact ⟨_, (true), q4, H', ⟨by first | omega | exact Nat.le_refl _⟩, ⟨u5_1⟩, ⟨u5_3⟩, ⟨q0⟩⟩
   rw [if_neg c13] at H
   have c13b0 : decide (40 < (a3.size : Int)) = false := decide_eq_false c13
   have c13b1 : decide (40 < a3.size) = false := decide_eq_false (by omega)
   clear c13
   have H' := am H
   clear H
   have hnb14 := NB152_153.out
   have hnc14 := NB153_152.out
   obtain ⟨hcz15_0, hcz15_1, hcz15_2, hfz15_0, hfz15_1, hfz15_2⟩ := bc3f w11 BK152.out
   go_wp2
   repeat (go_quiet (fail); try go_wp2)
   go_meet
   case rel => exact ⟨_, (decide (a0_1 ≥ 1000000)), q4, H', ⟨by first | omega | exact Nat.le_refl _⟩, ⟨u5_1⟩, ⟨u5_3⟩, ⟨q0⟩⟩
 clear HC6
 try clear hcz10_0
 try clear hcz10_1
 try clear hcz10_2
 try clear hfz10_0
 try clear hfz10_1
 try clear hfz10_2
 obtain ⟨kq, x33_5, rfl, HA, HJ5, BK152, BK153, HB⟩ := hcut
 cases kq with
 | zero => exact absurd HA.out (by simp [spec_Keep.j0])
 | succ kj5 =>
   have H := HA.out
   clear HA
   simp only [spec_Keep.j0] at H
   by_cases c16 : x33_5 = true
   · subst c16
     rw [if_pos rfl] at H
     replace H := Option.bind_eq_some_iff.mp H
     obtain ⟨⟨t156, t157, t158⟩, A170, H⟩ := H
     replace H : (some (t156, t157, t158, false)) = some (r1, r2, r3, r4) := H
     have A17 := am A170
     clear A170
     simp only [Option.some.injEq, Prod.mk.injEq] at H
     obtain ⟨rfl, rfl, rfl, rfl⟩ := H
     have hnb18 := NB152_153.out
     have hnc18 := NB153_152.out
     obtain ⟨hcz19_0, hcz19_1, hcz19_2, hfz19_0, hfz19_1, hfz19_2⟩ := bc3f wc BK152.out
     go_wp2_with (first | (first | (go_at_call 28; (with_reducible refine (spec_l09Copy.calls kj5 a0_0 a0_1 _ _ l0_2 t156 t157 t158 _ ?side1 ?side2 A17.out).mono ?_); (case side1 => exact q5); (case side2 => exact HC0_2.out); rintro e w20 ⟨v159, rfl, ho0, hb⟩; have HO160 := am (Kd.R_lower ho0 (below_size q0)); replace BK152 := am (blk_below (g := gb152) (o := .cells #[.int .i64 a0_0, .int .i64 a0_1, .slice A0_2 l0_2.length c0_2] 30 (0, 0)) u5_1 hb); replace BK153 := am (blk_below (g := gb153) (o := .cells #[.int .i64 0, .int .i64 0, .slice none 0 0] 30 (0, 0)) u5_3 hb); replace HB := am (below_step q0 hb); (try clear hb); (try clear hb2); (try clear hk); (try clear hi); (try clear ho0); obtain ⟨hcz21_0, hcz21_1, hcz21_2, hfz21_0, hfz21_1, hfz21_2⟩ := bc3f w20 BK153.out; obtain ⟨Ao22, co22, eo22⟩ := Kd.R_slice HO160.out; subst eo22)) | go_quiet (first | (go_at_call 28; (with_reducible refine (spec_l09Copy.calls kj5 a0_0 a0_1 _ _ l0_2 t156 t157 t158 _ ?side1 ?side2 A17.out).mono ?_); (case side1 => exact q5); (case side2 => exact HC0_2.out); rintro e w20 ⟨v159, rfl, ho0, hb⟩; have HO160 := am (Kd.R_lower ho0 (below_size q0)); replace BK152 := am (blk_below (g := gb152) (o := .cells #[.int .i64 a0_0, .int .i64 a0_1, .slice A0_2 l0_2.length c0_2] 30 (0, 0)) u5_1 hb); replace BK153 := am (blk_below (g := gb153) (o := .cells #[.int .i64 0, .int .i64 0, .slice none 0 0] 30 (0, 0)) u5_3 hb); replace HB := am (below_step q0 hb); (try clear hb); (try clear hb2); (try clear hk); (try clear hi); (try clear ho0); obtain ⟨hcz21_0, hcz21_1, hcz21_2, hfz21_0, hfz21_1, hfz21_2⟩ := bc3f w20 BK153.out; obtain ⟨Ao22, co22, eo22⟩ := Kd.R_slice HO160.out; subst eo22)))
     refine bodyPost_ret (results_ct rfl _ _ gb153 30 #[.int .i64 t156, .int .i64 t157, .slice Ao22 t158.length co22] (0, 0) _ rfl (by (with_reducible repeat (first | refine blk_drewN ?_ _ | refine blk_drew ?_ | refine blk_alloc ?_ _)); refine blk_put (cs := #[.int .i64 t156, .int .i64 t157, .slice none 0 0]) ?_ 2 _ rfl; (with_reducible repeat (first | refine blk_drewN ?_ _ | refine blk_drew ?_ | refine blk_alloc ?_ _)); refine blk_put (cs := #[.int .i64 t156, .int .i64 0, .slice none 0 0]) ?_ 1 _ rfl; (with_reducible repeat (first | refine blk_drewN ?_ _ | refine blk_drew ?_ | refine blk_alloc ?_ _)); refine blk_put (cs := #[.int .i64 0, .int .i64 0, .slice none 0 0]) ?_ 0 _ rfl; (with_reducible repeat (first | refine blk_drewN ?_ _ | refine blk_drew ?_ | refine blk_alloc ?_ _)); exact BK153.out) Tryd.underlying30 rfl kr) rfl ?_
     exact ⟨_, er, (by (with_reducible repeat (first | apply Kd.R_alloc | apply Kd.R_drewN | apply Kd.R_drew)); exact Kd.R_mono (Kd.R_far (p := ⟨gb153, 2, none⟩) (Kd.R_far (p := ⟨gb153, 1, none⟩) (Kd.R_far (p := ⟨gb153, 0, none⟩) (Kd.R_types HO160.out BK153.out (by decide)) (fun _ hk => hk.2) (.int .i64 t156)) (fun _ hk => hk.2) (.int .i64 t157)) (fun _ hk => hk.2) (.slice Ao22 t158.length co22)) (fun _ hk => trivial)), q0⟩
   replace c16 := Bool.eq_false_iff.mpr c16
   subst c16
   rw [nf] at H
   replace H := Option.bind_eq_some_iff.mp H
   obtain ⟨⟨t161, t162, t163⟩, A230, H⟩ := H
   (try dsimp only at H)
   have A23 := am A230
   clear A230
   have HC24 := am H
   clear H
   have hnb25 := NB152_153.out
   have hnc25 := NB153_152.out
   obtain ⟨hcz26_0, hcz26_1, hcz26_2, hfz26_0, hfz26_1, hfz26_2⟩ := bc3f wc BK152.out
   go_upto_region 5 with (first | (go_at_call 28; (with_reducible refine (spec_l09Copy.calls kj5 a0_0 a0_1 _ _ l0_2 t161 t162 t163 _ ?side1 ?side2 A23.out).mono ?_); (case side1 => exact q5); (case side2 => exact HC0_2.out); rintro e w27 ⟨v164, rfl, ho0, hb⟩; have HO165 := am (Kd.R_lower ho0 (below_size q0)); replace BK152 := am (blk_below (g := gb152) (o := .cells #[.int .i64 a0_0, .int .i64 a0_1, .slice A0_2 l0_2.length c0_2] 30 (0, 0)) u5_1 hb); replace BK153 := am (blk_below (g := gb153) (o := .cells #[.int .i64 0, .int .i64 0, .slice none 0 0] 30 (0, 0)) u5_3 hb); replace HB := am (below_step q0 hb); (try clear hb); (try clear hb2); (try clear hk); (try clear hi); (try clear ho0)) | ((with_reducible refine gate_dst (N := 12) rfl ?_); (try (refine gate_guard (by rfl) ?_; dsimp only)); refine box_event ?hg (N := 12) ?hd (cs := #[.int .i64 0, .int .i64 0, .slice none 0 0]) (t := 30) ?hr ?_; (case hd => rfl); (case hg => rfl); (case hr => first | (go_simp; done) | (go_simp; rfl)); intro gb166 hg w28 hbox hb; replace HO165 := am (Kd.R_below u5_25 hb); have BK166 := am (hbox); have GW166 := am ((by rw [hg]; exact (below_size q0) : w.heap.size ≤ gb166)); have GE166 := am ((by rw [hg]; exact (below_size q0) : w.heap.size ≤ gb166)); replace HB := am (below_step q0 hb); have NB152_166 := am ((by rw [hg]; exact Nat.ne_of_lt (blk_lt (g := gb152) (o := .cells #[.int .i64 a0_0, .int .i64 a0_1, .slice A0_2 l0_2.length c0_2] 30 (0, 0)) u5_1) : gb152 ≠ gb166)); have NB166_152 := am ((by rw [hg]; exact Nat.ne_of_gt (blk_lt (g := gb152) (o := .cells #[.int .i64 a0_0, .int .i64 a0_1, .slice A0_2 l0_2.length c0_2] 30 (0, 0)) u5_1) : gb166 ≠ gb152)); replace BK152 := am (blk_below (g := gb152) (o := .cells #[.int .i64 a0_0, .int .i64 a0_1, .slice A0_2 l0_2.length c0_2] 30 (0, 0)) u5_1 hb); have NB153_166 := am ((by rw [hg]; exact Nat.ne_of_lt (blk_lt (g := gb153) (o := .cells #[.int .i64 0, .int .i64 0, .slice none 0 0] 30 (0, 0)) u5_3) : gb153 ≠ gb166)); have NB166_153 := am ((by rw [hg]; exact Nat.ne_of_gt (blk_lt (g := gb153) (o := .cells #[.int .i64 0, .int .i64 0, .slice none 0 0] 30 (0, 0)) u5_3) : gb166 ≠ gb153)); replace BK153 := am (blk_below (g := gb153) (o := .cells #[.int .i64 0, .int .i64 0, .slice none 0 0] 30 (0, 0)) u5_3 hb); clear hb hbox hg; have hnb29 := NB166_152.out; have hnc29 := NB152_166.out; have hnb30 := NB166_153.out; have hnc30 := NB153_166.out; obtain ⟨hcz31_0, hcz31_1, hcz31_2, hfz31_0, hfz31_1, hfz31_2⟩ := bc3f w28 BK166.out; obtain ⟨Ao32, co32, eo32⟩ := Kd.R_slice HO165.out; subst eo32))
   repeat (go_quiet (first | (go_at_call 28; (with_reducible refine (spec_l09Copy.calls kj5 a0_0 a0_1 _ _ l0_2 t161 t162 t163 _ ?side1 ?side2 A23.out).mono ?_); (case side1 => exact q5); (case side2 => exact HC0_2.out); rintro e w27 ⟨v164, rfl, ho0, hb⟩; have HO165 := am (Kd.R_lower ho0 (below_size q0)); replace BK152 := am (blk_below (g := gb152) (o := .cells #[.int .i64 a0_0, .int .i64 a0_1, .slice A0_2 l0_2.length c0_2] 30 (0, 0)) u5_1 hb); replace BK153 := am (blk_below (g := gb153) (o := .cells #[.int .i64 0, .int .i64 0, .slice none 0 0] 30 (0, 0)) u5_3 hb); replace HB := am (below_step q0 hb); (try clear hb); (try clear hb2); (try clear hk); (try clear hi); (try clear ho0)) | ((with_reducible refine gate_dst (N := 12) rfl ?_); (try (refine gate_guard (by rfl) ?_; dsimp only)); refine box_event ?hg (N := 12) ?hd (cs := #[.int .i64 0, .int .i64 0, .slice none 0 0]) (t := 30) ?hr ?_; (case hd => rfl); (case hg => rfl); (case hr => first | (go_simp; done) | (go_simp; rfl)); intro gb166 hg w28 hbox hb; replace HO165 := am (Kd.R_below u5_25 hb); have BK166 := am (hbox); have GW166 := am ((by rw [hg]; exact (below_size q0) : w.heap.size ≤ gb166)); have GE166 := am ((by rw [hg]; exact (below_size q0) : w.heap.size ≤ gb166)); replace HB := am (below_step q0 hb); have NB152_166 := am ((by rw [hg]; exact Nat.ne_of_lt (blk_lt (g := gb152) (o := .cells #[.int .i64 a0_0, .int .i64 a0_1, .slice A0_2 l0_2.length c0_2] 30 (0, 0)) u5_1) : gb152 ≠ gb166)); have NB166_152 := am ((by rw [hg]; exact Nat.ne_of_gt (blk_lt (g := gb152) (o := .cells #[.int .i64 a0_0, .int .i64 a0_1, .slice A0_2 l0_2.length c0_2] 30 (0, 0)) u5_1) : gb166 ≠ gb152)); replace BK152 := am (blk_below (g := gb152) (o := .cells #[.int .i64 a0_0, .int .i64 a0_1, .slice A0_2 l0_2.length c0_2] 30 (0, 0)) u5_1 hb); have NB153_166 := am ((by rw [hg]; exact Nat.ne_of_lt (blk_lt (g := gb153) (o := .cells #[.int .i64 0, .int .i64 0, .slice none 0 0] 30 (0, 0)) u5_3) : gb153 ≠ gb166)); have NB166_153 := am ((by rw [hg]; exact Nat.ne_of_gt (blk_lt (g := gb153) (o := .cells #[.int .i64 0, .int .i64 0, .slice none 0 0] 30 (0, 0)) u5_3) : gb166 ≠ gb153)); replace BK153 := am (blk_below (g := gb153) (o := .cells #[.int .i64 0, .int .i64 0, .slice none 0 0] 30 (0, 0)) u5_3 hb); clear hb hbox hg; have hnb29 := NB166_152.out; have hnc29 := NB152_166.out; have hnb30 := NB166_153.out; have hnc30 := NB153_166.out; obtain ⟨hcz31_0, hcz31_1, hcz31_2, hfz31_0, hfz31_1, hfz31_2⟩ := bc3f w28 BK166.out; obtain ⟨Ao32, co32, eo32⟩ := Kd.R_slice HO165.out; subst eo32)); go_upto_region 5 with (first | (go_at_call 28; (with_reducible refine (spec_l09Copy.calls kj5 a0_0 a0_1 _ _ l0_2 t161 t162 t163 _ ?side1 ?side2 A23.out).mono ?_); (case side1 => exact q5); (case side2 => exact HC0_2.out); rintro e w27 ⟨v164, rfl, ho0, hb⟩; have HO165 := am (Kd.R_lower ho0 (below_size q0)); replace BK152 := am (blk_below (g := gb152) (o := .cells #[.int .i64 a0_0, .int .i64 a0_1, .slice A0_2 l0_2.length c0_2] 30 (0, 0)) u5_1 hb); replace BK153 := am (blk_below (g := gb153) (o := .cells #[.int .i64 0, .int .i64 0, .slice none 0 0] 30 (0, 0)) u5_3 hb); replace HB := am (below_step q0 hb); (try clear hb); (try clear hb2); (try clear hk); (try clear hi); (try clear ho0)) | ((with_reducible refine gate_dst (N := 12) rfl ?_); (try (refine gate_guard (by rfl) ?_; dsimp only)); refine box_event ?hg (N := 12) ?hd (cs := #[.int .i64 0, .int .i64 0, .slice none 0 0]) (t := 30) ?hr ?_; (case hd => rfl); (case hg => rfl); (case hr => first | (go_simp; done) | (go_simp; rfl)); intro gb166 hg w28 hbox hb; replace HO165 := am (Kd.R_below u5_25 hb); have BK166 := am (hbox); have GW166 := am ((by rw [hg]; exact (below_size q0) : w.heap.size ≤ gb166)); have GE166 := am ((by rw [hg]; exact (below_size q0) : w.heap.size ≤ gb166)); replace HB := am (below_step q0 hb); have NB152_166 := am ((by rw [hg]; exact Nat.ne_of_lt (blk_lt (g := gb152) (o := .cells #[.int .i64 a0_0, .int .i64 a0_1, .slice A0_2 l0_2.length c0_2] 30 (0, 0)) u5_1) : gb152 ≠ gb166)); have NB166_152 := am ((by rw [hg]; exact Nat.ne_of_gt (blk_lt (g := gb152) (o := .cells #[.int .i64 a0_0, .int .i64 a0_1, .slice A0_2 l0_2.length c0_2] 30 (0, 0)) u5_1) : gb166 ≠ gb152)); replace BK152 := am (blk_below (g := gb152) (o := .cells #[.int .i64 a0_0, .int .i64 a0_1, .slice A0_2 l0_2.length c0_2] 30 (0, 0)) u5_1 hb); have NB153_166 := am ((by rw [hg]; exact Nat.ne_of_lt (blk_lt (g := gb153) (o := .cells #[.int .i64 0, .int .i64 0, .slice none 0 0] 30 (0, 0)) u5_3) : gb153 ≠ gb166)); have NB166_153 := am ((by rw [hg]; exact Nat.ne_of_gt (blk_lt (g := gb153) (o := .cells #[.int .i64 0, .int .i64 0, .slice none 0 0] 30 (0, 0)) u5_3) : gb166 ≠ gb153)); replace BK153 := am (blk_below (g := gb153) (o := .cells #[.int .i64 0, .int .i64 0, .slice none 0 0] 30 (0, 0)) u5_3 hb); clear hb hbox hg; have hnb29 := NB166_152.out; have hnc29 := NB152_166.out; have hnb30 := NB166_153.out; have hnc30 := NB153_166.out; obtain ⟨hcz31_0, hcz31_1, hcz31_2, hfz31_0, hfz31_1, hfz31_2⟩ := bc3f w28 BK166.out; obtain ⟨Ao32, co32, eo32⟩ := Kd.R_slice HO165.out; subst eo32)))
   (try simp only [Act.put, la, lb, lc])
   go_cut [50] (fun v50 wc => ∃ (kq : Nat) (x50_23 : Bool), v50 = .bool x50_23 ∧ Aside0 (spec_Keep.j1 kq a1 a2 a3 x50_23 a0_0 a0_1 l0_2 t161 t162 t163 = some (r1, r2, r3, r4)) ∧ Aside0 (kq ≤ kj5) ∧ Aside0 (Kd.R k54 54 wc w.heap.size (fun _ => True) (.slice Ao32 t163.length co32) t163) ∧ Aside0 (wc.heap[gb152]? = some (.cells #[.int .i64 a0_0, .int .i64 a0_1, (.slice A0_2 l0_2.length c0_2)] 30 (0, 0))) ∧ Aside0 (wc.heap[gb153]? = some (.cells #[.int .i64 0, .int .i64 0, (.slice none 0 0)] 30 (0, 0))) ∧ Aside0 (wc.heap[gb166]? = some (.cells #[.int .i64 t161, .int .i64 t162, (.slice Ao32 t163.length co32)] 30 (0, 0))) ∧ Aside0 (Below w.heap.size w wc))
   case first =>
     have H := HC24.out
     clear HC24
     replace H := Option.bind_eq_some_iff.mp H
     obtain ⟨⟨t167, t168, t169, t170⟩, A330, H⟩ := H
     (try dsimp only at H)
     have A33 := am A330
     clear A330
     by_cases c34 : t167 = 0
     rotate_left
     · rw [if_neg c34] at H
       have c34b0 : (t167 == 0) = false := beq_eq_false_iff_ne.mpr c34
       have c34b1 : (t167 != 0) = true := bne_iff_ne.mpr c34
       (first | rw [c34b0] | (simp only [i64_w, i32_w]; rw [c34b0]) | skip)
       have H' := am H
       clear H
       have hnb40 := NB152_153.out
       have hnc40 := NB153_152.out
       have hnb41 := NB152_166.out
       have hnc41 := NB166_152.out
       obtain ⟨hcz42_0, hcz42_1, hcz42_2, hfz42_0, hfz42_1, hfz42_2⟩ := bc3f w28 BK152.out
       go_wp2_with (first | (first | (go_at_call 51; (with_reducible refine (spec_l09Find.calls kj5 a0_0 a0_1 _ _ l0_2 a1 t167 t168 t169 t170 _ ?side1 ?side2 A33.out).mono ?_); (case side1 => exact u5_34); (case side2 => exact HC0_2.out); rintro e w43 ⟨rfl, hb⟩; replace HO165 := am (Kd.R_below u5_14 hb); replace BK152 := am (blk_below (g := gb152) (o := .cells #[.int .i64 a0_0, .int .i64 a0_1, .slice A0_2 l0_2.length c0_2] 30 (0, 0)) u5_8 hb); replace BK153 := am (blk_below (g := gb153) (o := .cells #[.int .i64 0, .int .i64 0, .slice none 0 0] 30 (0, 0)) u5_9 hb); replace BK166 := am (blk_below (g := gb166) (o := .cells #[.int .i64 t161, .int .i64 t162, .slice Ao32 t163.length co32] 30 (0, 0)) u5_6 hb); replace HB := am (below_step q0 hb); (try clear hb); (try clear hb2); (try clear hk); (try clear hi))) | go_quiet (first | (go_at_call 51; (with_reducible refine (spec_l09Find.calls kj5 a0_0 a0_1 _ _ l0_2 a1 t167 t168 t169 t170 _ ?side1 ?side2 A33.out).mono ?_); (case side1 => exact u5_34); (case side2 => exact HC0_2.out); rintro e w43 ⟨rfl, hb⟩; replace HO165 := am (Kd.R_below u5_14 hb); replace BK152 := am (blk_below (g := gb152) (o := .cells #[.int .i64 a0_0, .int .i64 a0_1, .slice A0_2 l0_2.length c0_2] 30 (0, 0)) u5_8 hb); replace BK153 := am (blk_below (g := gb153) (o := .cells #[.int .i64 0, .int .i64 0, .slice none 0 0] 30 (0, 0)) u5_9 hb); replace BK166 := am (blk_below (g := gb166) (o := .cells #[.int .i64 t161, .int .i64 t162, .slice Ao32 t163.length co32] 30 (0, 0)) u5_6 hb); replace HB := am (below_step q0 hb); (try clear hb); (try clear hb2); (try clear hk); (try clear hi))))
       go_meet
       case rel => exact ⟨_, (false), q4, H', ⟨(by have := HJ5.out; first | omega | exact Nat.le_refl _)⟩, ⟨u5_25⟩, ⟨u5_1⟩, ⟨u5_3⟩, ⟨u5_17⟩, ⟨q0⟩⟩
     rw [if_pos c34] at H
     have c34b0 : (t167 == 0) = true := beq_iff_eq.mpr c34
     have c34b1 : (t167 != 0) = false := bne_eq_false_iff_eq.mpr c34
     clear c34
     (first | rw [c34b0] | (simp only [i64_w, i32_w]; rw [c34b0]) | skip)
     have H' := am H
     clear H
     have hnb35 := NB152_153.out
     have hnc35 := NB153_152.out
     have hnb36 := NB152_166.out
     have hnc36 := NB166_152.out
     obtain ⟨hcz37_0, hcz37_1, hcz37_2, hfz37_0, hfz37_1, hfz37_2⟩ := bc3f w28 BK152.out
     go_wp2_with (first | (first | (go_at_call 51; (with_reducible refine (spec_l09Find.calls kj5 a0_0 a0_1 _ _ l0_2 a1 t167 t168 t169 t170 _ ?side1 ?side2 A33.out).mono ?_); (case side1 => exact u5_34); (case side2 => exact HC0_2.out); rintro e w38 ⟨rfl, hb⟩; replace HO165 := am (Kd.R_below u5_14 hb); replace BK152 := am (blk_below (g := gb152) (o := .cells #[.int .i64 a0_0, .int .i64 a0_1, .slice A0_2 l0_2.length c0_2] 30 (0, 0)) u5_8 hb); replace BK153 := am (blk_below (g := gb153) (o := .cells #[.int .i64 0, .int .i64 0, .slice none 0 0] 30 (0, 0)) u5_9 hb); replace BK166 := am (blk_below (g := gb166) (o := .cells #[.int .i64 t161, .int .i64 t162, .slice Ao32 t163.length co32] 30 (0, 0)) u5_6 hb); replace HB := am (below_step q0 hb); (try clear hb); (try clear hb2); (try clear hk); (try clear hi); obtain ⟨hcz39_0, hcz39_1, hcz39_2, hfz39_0, hfz39_1, hfz39_2⟩ := bc3f w38 BK152.out)) | go_quiet (first | (go_at_call 51; (with_reducible refine (spec_l09Find.calls kj5 a0_0 a0_1 _ _ l0_2 a1 t167 t168 t169 t170 _ ?side1 ?side2 A33.out).mono ?_); (case side1 => exact u5_34); (case side2 => exact HC0_2.out); rintro e w38 ⟨rfl, hb⟩; replace HO165 := am (Kd.R_below u5_14 hb); replace BK152 := am (blk_below (g := gb152) (o := .cells #[.int .i64 a0_0, .int .i64 a0_1, .slice A0_2 l0_2.length c0_2] 30 (0, 0)) u5_8 hb); replace BK153 := am (blk_below (g := gb153) (o := .cells #[.int .i64 0, .int .i64 0, .slice none 0 0] 30 (0, 0)) u5_9 hb); replace BK166 := am (blk_below (g := gb166) (o := .cells #[.int .i64 t161, .int .i64 t162, .slice Ao32 t163.length co32] 30 (0, 0)) u5_6 hb); replace HB := am (below_step q0 hb); (try clear hb); (try clear hb2); (try clear hk); (try clear hi); obtain ⟨hcz39_0, hcz39_1, hcz39_2, hfz39_0, hfz39_1, hfz39_2⟩ := bc3f w38 BK152.out)))
     go_meet
     case rel => exact ⟨_, (((l0_2.length : Int) == a0_0)), q4, H', ⟨(by have := HJ5.out; first | omega | exact Nat.le_refl _)⟩, ⟨u5_25⟩, ⟨u5_1⟩, ⟨u5_3⟩, ⟨u5_17⟩, ⟨q0⟩⟩
   clear HC24
   try clear c16
   try clear hcz10_0
   try clear hcz10_1
   try clear hcz10_2
   try clear hcz26_0
   try clear hcz26_1
   try clear hcz26_2
   try clear hcz31_0
   try clear hcz31_1
   try clear hcz31_2
   try clear hfz10_0
   try clear hfz10_1
   try clear hfz10_2
   try clear hfz26_0
   try clear hfz26_1
   try clear hfz26_2
   try clear hfz31_0
   try clear hfz31_1
   try clear hfz31_2
   obtain ⟨kq, x50_23, rfl, HA, HJ23, HO_167002, BK152, BK153, BK166, HB⟩ := hcut
   cases kq with
   | zero => exact absurd HA.out (by simp [spec_Keep.j1])
   | succ kj23 =>
     have H := HA.out
     clear HA
     simp only [spec_Keep.j1] at H
     by_cases c44 : x50_23 = true
     rotate_left
     · replace c44 := Bool.eq_false_iff.mpr c44
       subst c44
       rw [nf] at H
       replace H := Option.bind_eq_some_iff.mp H
       obtain ⟨⟨t185, t186, t187⟩, A880, H⟩ := H
       replace H : (some (t185, t186, t187, true)) = some (r1, r2, r3, r4) := H
       have A88 := am A880
       clear A880
       simp only [Option.some.injEq, Prod.mk.injEq] at H
       obtain ⟨rfl, rfl, rfl, rfl⟩ := H
       have hnb89 := NB166_152.out
       have hnc89 := NB152_166.out
       have hnb90 := NB166_153.out
       have hnc90 := NB153_166.out
       obtain ⟨hcz91_0, hcz91_1, hcz91_2, hfz91_0, hfz91_1, hfz91_2⟩ := bc3f wc BK166.out
       go_wp2_with (first | (first | (go_at_call 52; (with_reducible refine (spec_l09Put.calls kj23 t161 (wrap64 (t162 + 1)) _ _ t163 a1 a1 a2 (wrap64 (t162 + 1)) a3 t185 t186 t187 _ ?side1 ?side2 A88.out).mono ?_); (case side1 => exact u5_33); (case side2 => exact (Kd.R_reads' HO_167002.out).2.1); rintro e w92 ⟨v188, rfl, ho0, hb⟩; have HO189 := am (Kd.R_lower (Kd.R_new' ho0 (Kd.R_lt u5_12)) (below_size q0)); replace HO_167002 := am (Kd.R_elder' u5_12 (Kd.R_base ho0) hb); replace BK152 := am (blk_below (g := gb152) (o := .cells #[.int .i64 a0_0, .int .i64 a0_1, .slice A0_2 l0_2.length c0_2] 30 (0, 0)) u5_28 hb); replace BK153 := am (blk_below (g := gb153) (o := .cells #[.int .i64 0, .int .i64 0, .slice none 0 0] 30 (0, 0)) u5_29 hb); replace BK166 := am (blk_below (g := gb166) (o := .cells #[.int .i64 t161, .int .i64 (wrap64 (t162 + 1)), .slice Ao32 t163.length co32] 30 (0, 0)) u5_26 hb); replace HB := am (below_step q0 hb); (try clear hb); (try clear hb2); (try clear hk); (try clear hi); (try clear ho0); have hnb93 := NB153_152.out; have hnc93 := NB152_153.out; obtain ⟨hcz94_0, hcz94_1, hcz94_2, hfz94_0, hfz94_1, hfz94_2⟩ := bc3f w92 BK153.out; obtain ⟨Ao95, co95, eo95⟩ := Kd.R_slice HO189.out; subst eo95)) | go_quiet (first | (go_at_call 52; (with_reducible refine (spec_l09Put.calls kj23 t161 (wrap64 (t162 + 1)) _ _ t163 a1 a1 a2 (wrap64 (t162 + 1)) a3 t185 t186 t187 _ ?side1 ?side2 A88.out).mono ?_); (case side1 => exact u5_33); (case side2 => exact (Kd.R_reads' HO_167002.out).2.1); rintro e w92 ⟨v188, rfl, ho0, hb⟩; have HO189 := am (Kd.R_lower (Kd.R_new' ho0 (Kd.R_lt u5_12)) (below_size q0)); replace HO_167002 := am (Kd.R_elder' u5_12 (Kd.R_base ho0) hb); replace BK152 := am (blk_below (g := gb152) (o := .cells #[.int .i64 a0_0, .int .i64 a0_1, .slice A0_2 l0_2.length c0_2] 30 (0, 0)) u5_28 hb); replace BK153 := am (blk_below (g := gb153) (o := .cells #[.int .i64 0, .int .i64 0, .slice none 0 0] 30 (0, 0)) u5_29 hb); replace BK166 := am (blk_below (g := gb166) (o := .cells #[.int .i64 t161, .int .i64 (wrap64 (t162 + 1)), .slice Ao32 t163.length co32] 30 (0, 0)) u5_26 hb); replace HB := am (below_step q0 hb); (try clear hb); (try clear hb2); (try clear hk); (try clear hi); (try clear ho0); have hnb93 := NB153_152.out; have hnc93 := NB152_153.out; obtain ⟨hcz94_0, hcz94_1, hcz94_2, hfz94_0, hfz94_1, hfz94_2⟩ := bc3f w92 BK153.out; obtain ⟨Ao95, co95, eo95⟩ := Kd.R_slice HO189.out; subst eo95)))
       refine bodyPost_ret (results_ct rfl _ _ gb153 30 #[.int .i64 t185, .int .i64 t186, .slice Ao95 t187.length co95] (0, 0) _ rfl (by (with_reducible repeat (first | refine blk_drewN ?_ _ | refine blk_drew ?_ | refine blk_alloc ?_ _)); refine blk_put (cs := #[.int .i64 t185, .int .i64 t186, .slice none 0 0]) ?_ 2 _ rfl; (with_reducible repeat (first | refine blk_drewN ?_ _ | refine blk_drew ?_ | refine blk_alloc ?_ _)); refine blk_put (cs := #[.int .i64 t185, .int .i64 0, .slice none 0 0]) ?_ 1 _ rfl; (with_reducible repeat (first | refine blk_drewN ?_ _ | refine blk_drew ?_ | refine blk_alloc ?_ _)); refine blk_put (cs := #[.int .i64 0, .int .i64 0, .slice none 0 0]) ?_ 0 _ rfl; (with_reducible repeat (first | refine blk_drewN ?_ _ | refine blk_drew ?_ | refine blk_alloc ?_ _)); exact BK153.out) Tryd.underlying30 rfl kr) rfl ?_
       exact ⟨_, er, (by (with_reducible repeat (first | apply Kd.R_alloc | apply Kd.R_drewN | apply Kd.R_drew)); exact Kd.R_mono (Kd.R_far (p := ⟨gb153, 2, none⟩) (Kd.R_far (p := ⟨gb153, 1, none⟩) (Kd.R_far (p := ⟨gb153, 0, none⟩) (Kd.R_types HO189.out BK153.out (by decide)) (fun _ hk => hk.2) (.int .i64 t185)) (fun _ hk => hk.2) (.int .i64 t186)) (fun _ hk => hk.2) (.slice Ao95 t187.length co95)) (fun _ hk => trivial)), q0⟩
     subst c44
     rw [if_pos rfl] at H
     by_cases c45 : 0 < (l0_2.length : Int)
     rotate_left
     · rw [if_neg c45] at H
       exact absurd H (by simp)
     rw [if_pos c45] at H
     have c45b0 : decide (0 < (l0_2.length : Int)) = true := decide_eq_true c45
     have c45b1 : decide (0 < l0_2.length) = true := decide_eq_true (by omega)
     clear c45
     have H' := am H
     clear H
     have hnb46 := NB152_153.out
     have hnc46 := NB153_152.out
     have hnb47 := NB152_166.out
     have hnc47 := NB166_152.out
     obtain ⟨hcz48_0, hcz48_1, hcz48_2, hfz48_0, hfz48_1, hfz48_2⟩ := bc3f wc BK152.out
     have p171 : 0 ≤ (0 : Int) := (by omega)
     have q171 : 0 < (l0_2.length : Int) := of_decide_eq_true q3
     obtain ⟨ad171, e171, hx171_0, hx171_1, hx171_2, hx171_3⟩ := at_T54 HR0_2.out 0 p171 q171
     cases e171
     have qi171 : (0 < l0_2.length) = True := eq_true (by omega)
     (try rw [show ((0 : Int)).toNat = 0 from rfl] at hx171_0)
     (try rw [show 0 * 4 = 0 from rfl] at hx171_0)
     (try rw [Addr.add_zero'] at hx171_0)
     (try rw [show ((0 : Int)).toNat = 0 from rfl] at hx171_1)
     (try rw [show 0 * 4 = 0 from rfl] at hx171_1)
     (try rw [Addr.add_zero'] at hx171_1)
     (try rw [show ((0 : Int)).toNat = 0 from rfl] at hx171_2)
     (try rw [show 0 * 4 = 0 from rfl] at hx171_2)
     (try rw [Addr.add_zero'] at hx171_2)
     (try rw [show ((0 : Int)).toNat = 0 from rfl] at hx171_3)
     (try rw [show 0 * 4 = 0 from rfl] at hx171_3)
     (try rw [Addr.add_zero'] at hx171_3)
     replace hx171_0 := cm HB.out hx171_0
     replace hx171_1 := cm HB.out hx171_1
     replace hx171_2 := cm HB.out hx171_2
     replace hx171_3 := cm HB.out hx171_3
     replace p171 := eq_true p171
     replace q171 := eq_true q171
     go_wp2_with (first | (first | ((with_reducible refine gate_dst (N := 13) rfl ?_); (try (refine gate_guard (by rfl) ?_; dsimp only)); refine box_event ?hg (N := 13) ?hd (cs := #[.int .i64 0, .int .i64 0, .int .i64 0, .string (⟨#[]⟩ : ByteArray)]) (t := 54) ?hr ?_; (case hd => rfl); (case hg => rfl); (case hr => first | (go_simp; done) | (go_simp; rfl)); intro gb172 hg w49 hbox hb; replace HO_167002 := am (Kd.R_below (Kd.R_elderB u5_23 gb172 (Nat.le_of_eq hg.symm)) hb); have BK172 := am (hbox); have GW172 := am ((by rw [hg]; exact (below_size q0) : w.heap.size ≤ gb172)); have GE172 := am ((by rw [hg]; exact (below_size q0) : w.heap.size ≤ gb172)); replace HB := am (below_step q0 hb); have NB152_172 := am ((by rw [hg]; exact Nat.ne_of_lt (blk_lt (g := gb152) (o := .cells #[.int .i64 a0_0, .int .i64 a0_1, .slice (some ad171) l0_2.length c0_2] 30 (0, 0)) u5_1) : gb152 ≠ gb172)); have NB172_152 := am ((by rw [hg]; exact Nat.ne_of_gt (blk_lt (g := gb152) (o := .cells #[.int .i64 a0_0, .int .i64 a0_1, .slice (some ad171) l0_2.length c0_2] 30 (0, 0)) u5_1) : gb172 ≠ gb152)); replace BK152 := am (blk_below (g := gb152) (o := .cells #[.int .i64 a0_0, .int .i64 a0_1, .slice (some ad171) l0_2.length c0_2] 30 (0, 0)) u5_1 hb); have NB153_172 := am ((by rw [hg]; exact Nat.ne_of_lt (blk_lt (g := gb153) (o := .cells #[.int .i64 0, .int .i64 0, .slice none 0 0] 30 (0, 0)) u5_3) : gb153 ≠ gb172)); have NB172_153 := am ((by rw [hg]; exact Nat.ne_of_gt (blk_lt (g := gb153) (o := .cells #[.int .i64 0, .int .i64 0, .slice none 0 0] 30 (0, 0)) u5_3) : gb172 ≠ gb153)); replace BK153 := am (blk_below (g := gb153) (o := .cells #[.int .i64 0, .int .i64 0, .slice none 0 0] 30 (0, 0)) u5_3 hb); have NB166_172 := am ((by rw [hg]; exact Nat.ne_of_lt (blk_lt (g := gb166) (o := .cells #[.int .i64 t161, .int .i64 t162, .slice Ao32 t163.length co32] 30 (0, 0)) u5_17) : gb166 ≠ gb172)); have NB172_166 := am ((by rw [hg]; exact Nat.ne_of_gt (blk_lt (g := gb166) (o := .cells #[.int .i64 t161, .int .i64 t162, .slice Ao32 t163.length co32] 30 (0, 0)) u5_17) : gb172 ≠ gb166)); replace BK166 := am (blk_below (g := gb166) (o := .cells #[.int .i64 t161, .int .i64 t162, .slice Ao32 t163.length co32] 30 (0, 0)) u5_17 hb); clear hb hbox hg; have hnb50 := NB172_152.out; have hnc50 := NB152_172.out; have hnb51 := NB172_153.out; have hnc51 := NB153_172.out; have hnb52 := NB172_166.out; have hnc52 := NB166_172.out; obtain ⟨hcz53_0, hcz53_1, hcz53_2, hcz53_3, hfz53_0, hfz53_1, hfz53_2, hfz53_3⟩ := bc4f w49 BK172.out)) | go_quiet (fail))
     go_loopg [14] kj23 (fun kq v14 w' => ∃ (x14_3 : Int) (x173000_3 : Int) (x173001_3 : Int) (x173002_3 : Int) (x173003_3 : ByteArray), v14 = .int .i64 x14_3 ∧ Aside0 (spec_Keep.l0 kq a1 a2 a3 x14_3 a0_0 a0_1 l0_2 t161 t162 t163 x173000_3 x173001_3 x173002_3 x173003_3 = some (r1, r2, r3, r4)) ∧ Aside0 (kq ≤ kj23) ∧ Aside0 (Kd.R k54 54 w' w.heap.size (fun k_ => k_ ≠ gb172) (.slice Ao32 t163.length co32) t163) ∧ Aside0 (w'.heap[gb152]? = some (.cells #[.int .i64 a0_0, .int .i64 a0_1, (.slice (some ad171) l0_2.length c0_2)] 30 (0, 0))) ∧ Aside0 (w'.heap[gb153]? = some (.cells #[.int .i64 0, .int .i64 0, (.slice none 0 0)] 30 (0, 0))) ∧ Aside0 (w'.heap[gb166]? = some (.cells #[.int .i64 t161, .int .i64 t162, (.slice Ao32 t163.length co32)] 30 (0, 0))) ∧ Aside0 (w'.heap[gb172]? = some (.cells #[.int .i64 x173000_3, .int .i64 x173001_3, .int .i64 x173002_3, .string x173003_3] 54 (0, 0))) ∧ Aside0 (Below w.heap.size w w'))
     case atStart => exact ⟨(0), ((rd_T54 l0_2 0).f0), ((rd_T54 l0_2 0).f1), ((rd_T54 l0_2 0).f2), ((rd_T54 l0_2 0).f3), q4, H', ⟨Nat.le_refl _⟩, ⟨(by (with_reducible repeat (first | apply Kd.R_alloc | apply Kd.R_drewN | apply Kd.R_drew)); exact Kd.R_mono (Kd.R_far (p := ⟨gb172, 3, none⟩) (Kd.R_far (p := ⟨gb172, 2, none⟩) (Kd.R_far (p := ⟨gb172, 1, none⟩) (Kd.R_far (p := ⟨gb172, 0, none⟩) (Kd.R_mono HO_167002.out (fun k_ hk => (⟨hk, hk.2⟩ : _ ∧ k_ ≠ gb172))) (fun _ hk => hk.2) (.int .i64 ((rd_T54 l0_2 0).f0))) (fun _ hk => hk.2) (.int .i64 ((rd_T54 l0_2 0).f1))) (fun _ hk => hk.2) (.int .i64 ((rd_T54 l0_2 0).f2))) (fun _ hk => hk.2) (.string ((rd_T54 l0_2 0).f3))) (fun _ hk => hk.1.2))⟩, ⟨u5_18⟩, ⟨u5_19⟩, ⟨u5_20⟩, ⟨(by (with_reducible repeat (first | refine blk_drewN ?_ _ | refine blk_drew ?_ | refine blk_alloc ?_ _)); refine blk_put (cs := #[.int .i64 ((rd_T54 l0_2 0).f0), .int .i64 ((rd_T54 l0_2 0).f1), .int .i64 ((rd_T54 l0_2 0).f2), .string (⟨#[]⟩ : ByteArray)]) ?_ 3 _ rfl; (with_reducible repeat (first | refine blk_drewN ?_ _ | refine blk_drew ?_ | refine blk_alloc ?_ _)); refine blk_put (cs := #[.int .i64 ((rd_T54 l0_2 0).f0), .int .i64 ((rd_T54 l0_2 0).f1), .int .i64 0, .string (⟨#[]⟩ : ByteArray)]) ?_ 2 _ rfl; (with_reducible repeat (first | refine blk_drewN ?_ _ | refine blk_drew ?_ | refine blk_alloc ?_ _)); refine blk_put (cs := #[.int .i64 ((rd_T54 l0_2 0).f0), .int .i64 0, .int .i64 0, .string (⟨#[]⟩ : ByteArray)]) ?_ 1 _ rfl; (with_reducible repeat (first | refine blk_drewN ?_ _ | refine blk_drew ?_ | refine blk_alloc ?_ _)); refine blk_put (cs := #[.int .i64 0, .int .i64 0, .int .i64 0, .string (⟨#[]⟩ : ByteArray)]) ?_ 0 _ rfl; (with_reducible repeat (first | refine blk_drewN ?_ _ | refine blk_drew ?_ | refine blk_alloc ?_ _)); exact BK172.out)⟩, ⟨q0⟩⟩
     clear H'
     try clear c16
     try clear c44
     try clear c45
     try clear c45b0
     try clear c45b1
     try clear hcz10_0
     try clear hcz10_1
     try clear hcz10_2
     try clear hcz26_0
     try clear hcz26_1
     try clear hcz26_2
     try clear hcz31_0
     try clear hcz31_1
     try clear hcz31_2
     try clear hcz48_0
     try clear hcz48_1
     try clear hcz48_2
     try clear hcz53_0
     try clear hcz53_1
     try clear hcz53_2
     try clear hcz53_3
     try clear hfz10_0
     try clear hfz10_1
     try clear hfz10_2
     try clear hfz26_0
     try clear hfz26_1
     try clear hfz26_2
     try clear hfz31_0
     try clear hfz31_1
     try clear hfz31_2
     try clear hfz48_0
     try clear hfz48_1
     try clear hfz48_2
     try clear hfz53_0
     try clear hfz53_1
     try clear hfz53_2
     try clear hfz53_3
     try clear hx171_0
     try clear hx171_1
     try clear hx171_2
     try clear hx171_3
     try clear p171
     try clear q171
     obtain ⟨x14_3, x173000_3, x173001_3, x173002_3, x173003_3, rfl, HA, HK3, HO_167002, BK152, BK153, BK166, BK172, HB⟩ := hrel
     cases gk with
     | zero => exact absurd HA.out (by simp [spec_Keep.l0])
     | succ k3 =>
       have H := HA.out
       clear HA
       simp only [spec_Keep.l0] at H
       by_cases c54 : x14_3 < (l0_2.length : Int)
       · rw [if_pos c54] at H
         have c54b0 : decide (x14_3 < (l0_2.length : Int)) = true := decide_eq_true c54
         clear c54
         by_cases c55 : 0 ≤ x14_3
         rotate_left
         · rw [if_neg c55] at H
           exact absurd H (by simp)
         rw [if_pos c55] at H
         have c55b0 : decide (0 ≤ x14_3) = true := decide_eq_true c55
         clear c55
         have H9 := am H
         clear H
         have hnb56 := NB152_153.out
         have hnc56 := NB153_152.out
         have hnb57 := NB152_166.out
         have hnc57 := NB166_152.out
         have hnb58 := NB152_172.out
         have hnc58 := NB172_152.out
         obtain ⟨hcz59_0, hcz59_1, hcz59_2, hfz59_0, hfz59_1, hfz59_2⟩ := bc3f wr BK152.out
         have p173 : 0 ≤ (x14_3 : Int) := of_decide_eq_true q3
         have q173 : x14_3 < (l0_2.length : Int) := of_decide_eq_true q3
         obtain ⟨ad173, e173, hx173_0, hx173_1, hx173_2, hx173_3⟩ := at_T54 HR0_2.out x14_3 p173 q173
         obtain rfl : ad171 = ad173 := (by injection e173)
         replace hx173_0 := cm HB.out hx173_0
         replace hx173_1 := cm HB.out hx173_1
         replace hx173_2 := cm HB.out hx173_2
         replace hx173_3 := cm HB.out hx173_3
         replace p173 := eq_true p173
         replace q173 := eq_true q173
         have hnb60 := NB172_153.out
         have hnc60 := NB153_172.out
         have hnb61 := NB172_166.out
         have hnc61 := NB166_172.out
         obtain ⟨hcz62_0, hcz62_1, hcz62_2, hcz62_3, hfz62_0, hfz62_1, hfz62_2, hfz62_3⟩ := bc4f wr BK172.out
         go_upto_if 70 with (fail)
         repeat (go_quiet (fail); go_upto_if 70 with (fail))
         have H := H9.out
         clear H9
         by_cases c63 : ((rd_T54 l0_2 x14_3).f2) < x173002_3
         rotate_left
         · rw [if_neg c63] at H
           have c63b0 : decide (((rd_T54 l0_2 x14_3).f2) < x173002_3) = false := decide_eq_false c63
           clear c63
           (first | rw [c63b0] | (simp only [i64_w, i32_w]; rw [c63b0]) | skip)
           have H' := am H
           clear H
           go_wp2
           repeat (go_quiet (fail); try go_wp2)
           go_roundg k3
           case measure => have := HJ5.out; have := HJ23.out; have := HK3.out; omega
           case rel => exact ⟨(wrap64 (x14_3 + 1)), (x173000_3), (x173001_3), (x173002_3), (x173003_3), q4, H', ⟨(by have := HJ5.out; have := HJ23.out; have := HK3.out; omega)⟩, ⟨u5_23⟩, ⟨u5_1⟩, ⟨u5_3⟩, ⟨u5_17⟩, ⟨u5_24⟩, ⟨q0⟩⟩
         rw [if_pos c63] at H
         have c63b0 : decide (((rd_T54 l0_2 x14_3).f2) < x173002_3) = true := decide_eq_true c63
         clear c63
         (first | rw [c63b0] | (simp only [i64_w, i32_w]; rw [c63b0]) | skip)
         have H' := am H
         clear H
         have hnb64 := NB152_153.out
         have hnc64 := NB153_152.out
         have hnb65 := NB152_166.out
         have hnc65 := NB166_152.out
         have hnb66 := NB152_172.out
         have hnc66 := NB172_152.out
         obtain ⟨hcz67_0, hcz67_1, hcz67_2, hfz67_0, hfz67_1, hfz67_2⟩ := bc3f wr BK152.out
         have p174 : 0 ≤ (x14_3 : Int) := of_decide_eq_true q3
         have q174 : x14_3 < (l0_2.length : Int) := of_decide_eq_true q3
         obtain ⟨ad174, e174, hx174_0, hx174_1, hx174_2, hx174_3⟩ := at_T54 HR0_2.out x14_3 p174 q174
         obtain rfl : ad171 = ad174 := (by injection e174)
         replace hx174_0 := cm HB.out hx174_0
         replace hx174_1 := cm HB.out hx174_1
         replace hx174_2 := cm HB.out hx174_2
         replace hx174_3 := cm HB.out hx174_3
         replace p174 := eq_true p174
         replace q174 := eq_true q174
         have hnb68 := NB172_153.out
         have hnc68 := NB153_172.out
         have hnb69 := NB172_166.out
         have hnc69 := NB166_172.out
         obtain ⟨hcz70_0, hcz70_1, hcz70_2, hcz70_3, hfz70_0, hfz70_1, hfz70_2, hfz70_3⟩ := bc4f wr BK172.out
         go_wp2
         repeat (go_quiet (fail); try go_wp2)
         go_roundg k3
         case measure => have := HJ5.out; have := HJ23.out; have := HK3.out; omega
         case rel => exact ⟨(wrap64 (x14_3 + 1)), ((rd_T54 l0_2 x14_3).f0), ((rd_T54 l0_2 x14_3).f1), ((rd_T54 l0_2 x14_3).f2), ((rd_T54 l0_2 x14_3).f3), q4, H', ⟨(by have := HJ5.out; have := HJ23.out; have := HK3.out; omega)⟩, ⟨(by (with_reducible repeat (first | apply Kd.R_alloc | apply Kd.R_drewN | apply Kd.R_drew)); exact Kd.R_mono (Kd.R_far (p := ⟨gb172, 3, none⟩) (Kd.R_far (p := ⟨gb172, 2, none⟩) (Kd.R_far (p := ⟨gb172, 1, none⟩) (Kd.R_far (p := ⟨gb172, 0, none⟩) (Kd.R_mono HO_167002.out (fun k_ hk => (⟨hk, hk⟩ : _ ∧ k_ ≠ gb172))) (fun _ hk => hk.2) (.int .i64 ((rd_T54 l0_2 x14_3).f0))) (fun _ hk => hk.2) (.int .i64 ((rd_T54 l0_2 x14_3).f1))) (fun _ hk => hk.2) (.int .i64 ((rd_T54 l0_2 x14_3).f2))) (fun _ hk => hk.2) (.string ((rd_T54 l0_2 x14_3).f3))) (fun _ hk => hk.1))⟩, ⟨u5_18⟩, ⟨u5_19⟩, ⟨u5_20⟩, ⟨(by (with_reducible repeat (first | refine blk_drewN ?_ _ | refine blk_drew ?_ | refine blk_alloc ?_ _)); refine blk_put (cs := #[.int .i64 ((rd_T54 l0_2 x14_3).f0), .int .i64 ((rd_T54 l0_2 x14_3).f1), .int .i64 ((rd_T54 l0_2 x14_3).f2), .string x173003_3]) ?_ 3 _ rfl; (with_reducible repeat (first | refine blk_drewN ?_ _ | refine blk_drew ?_ | refine blk_alloc ?_ _)); refine blk_put (cs := #[.int .i64 ((rd_T54 l0_2 x14_3).f0), .int .i64 ((rd_T54 l0_2 x14_3).f1), .int .i64 x173002_3, .string x173003_3]) ?_ 2 _ rfl; (with_reducible repeat (first | refine blk_drewN ?_ _ | refine blk_drew ?_ | refine blk_alloc ?_ _)); refine blk_put (cs := #[.int .i64 ((rd_T54 l0_2 x14_3).f0), .int .i64 x173001_3, .int .i64 x173002_3, .string x173003_3]) ?_ 1 _ rfl; (with_reducible repeat (first | refine blk_drewN ?_ _ | refine blk_drew ?_ | refine blk_alloc ?_ _)); refine blk_put (cs := #[.int .i64 x173000_3, .int .i64 x173001_3, .int .i64 x173002_3, .string x173003_3]) ?_ 0 _ rfl; (with_reducible repeat (first | refine blk_drewN ?_ _ | refine blk_drew ?_ | refine blk_alloc ?_ _)); exact BK172.out)⟩, ⟨q0⟩⟩
       rw [if_neg c54] at H
       have c54b0 : decide (x14_3 < (l0_2.length : Int)) = false := decide_eq_false c54
       clear c54
       replace H := Option.bind_eq_some_iff.mp H
       obtain ⟨⟨t175, t176, t177⟩, A710, H⟩ := H
       (try dsimp only at H)
       have A71 := am A710
       clear A710
       replace H := Option.bind_eq_some_iff.mp H
       obtain ⟨⟨t180, t181, t182⟩, A720, H⟩ := H
       replace H : (some (t180, t181, t182, true)) = some (r1, r2, r3, r4) := H
       have A72 := am A720
       clear A720
       simp only [Option.some.injEq, Prod.mk.injEq] at H
       obtain ⟨rfl, rfl, rfl, rfl⟩ := H
       have hnb73 := NB152_153.out
       have hnc73 := NB153_152.out
       have hnb74 := NB152_166.out
       have hnc74 := NB166_152.out
       have hnb75 := NB152_172.out
       have hnc75 := NB172_152.out
       obtain ⟨hcz76_0, hcz76_1, hcz76_2, hfz76_0, hfz76_1, hfz76_2⟩ := bc3f wr BK152.out
       have hnb77 := NB166_153.out
       have hnc77 := NB153_166.out
       have hnb78 := NB166_172.out
       have hnc78 := NB172_166.out
       obtain ⟨hcz79_0, hcz79_1, hcz79_2, hfz79_0, hfz79_1, hfz79_2⟩ := bc3f wr BK166.out
       have hnb80 := NB172_153.out
       have hnc80 := NB153_172.out
       obtain ⟨hcz81_0, hcz81_1, hcz81_2, hcz81_3, hfz81_0, hfz81_1, hfz81_2, hfz81_3⟩ := bc4f wr BK172.out
       go_wp2_with (first | (first | (go_at_call 52; (with_reducible refine (spec_l09Put.calls k3 t161 t162 _ _ t163 x173000_3 0 0 0 (⟨#[]⟩ : ByteArray) t175 t176 t177 _ ?side1 ?side2 A71.out).mono ?_); (case side1 => exact u5_32); (case side2 => exact (Kd.R_reads' HO_167002.out).2.1); rintro e w82 ⟨v178, rfl, ho0, hb⟩; have HO179 := am (Kd.R_lower (Kd.R_newB (Kd.R_new' ho0 (Kd.R_lt u5_23)) (g := gb172) (o := .cells #[.int .i64 x173000_3, .int .i64 x173001_3, .int .i64 x173002_3, .string x173003_3] 54 (0, 0)) u5_24) (below_size q0)); replace HO_167002 := am (Kd.R_elder' u5_23 (Kd.R_base ho0) hb); replace BK152 := am (blk_below (g := gb152) (o := .cells #[.int .i64 a0_0, .int .i64 a0_1, .slice (some ad171) l0_2.length c0_2] 30 (0, 0)) u5_1 hb); replace BK153 := am (blk_below (g := gb153) (o := .cells #[.int .i64 0, .int .i64 0, .slice none 0 0] 30 (0, 0)) u5_3 hb); replace BK166 := am (blk_below (g := gb166) (o := .cells #[.int .i64 t161, .int .i64 t162, .slice Ao32 t163.length co32] 30 (0, 0)) u5_17 hb); replace BK172 := am (blk_below (g := gb172) (o := .cells #[.int .i64 x173000_3, .int .i64 x173001_3, .int .i64 x173002_3, .string x173003_3] 54 (0, 0)) u5_24 hb); replace HB := am (below_step q0 hb); (try clear hb); (try clear hb2); (try clear hk); (try clear hi); (try clear ho0); obtain ⟨hcz83_0, hcz83_1, hcz83_2, hfz83_0, hfz83_1, hfz83_2⟩ := bc3f w82 BK166.out; obtain ⟨Ao84, co84, eo84⟩ := Kd.R_slice HO179.out; subst eo84) | (go_at_call 52; (with_reducible refine (spec_l09Put.calls k3 t175 (wrap64 (t176 + 1)) _ _ t177 a1 a1 a2 (wrap64 (t176 + 1)) a3 t180 t181 t182 _ ?side1 ?side2 A72.out).mono ?_); (case side1 => exact u5_30); (case side2 => exact (Kd.R_reads' HO179.out).2.1); rintro e w85 ⟨v183, rfl, ho0, hb⟩; have HO184 := am (Kd.R_lower (Kd.R_newB (Kd.R_new' (Kd.R_new' ho0 (Kd.R_lt u5_10)) (Kd.R_lt u5_5)) (g := gb172) (o := .cells #[.int .i64 x173000_3, .int .i64 x173001_3, .int .i64 x173002_3, .string x173003_3] 54 (0, 0)) u5_7) (below_size q0)); replace HO_167002 := am (Kd.R_elder' u5_10 (Kd.R_base ho0) hb); replace HO179 := am (Kd.R_elder' u5_5 (Kd.R_base ho0) hb); replace BK152 := am (blk_below (g := gb152) (o := .cells #[.int .i64 a0_0, .int .i64 a0_1, .slice (some ad171) l0_2.length c0_2] 30 (0, 0)) u5_21 hb); replace BK153 := am (blk_below (g := gb153) (o := .cells #[.int .i64 0, .int .i64 0, .slice none 0 0] 30 (0, 0)) u5_22 hb); replace BK166 := am (blk_below (g := gb166) (o := .cells #[.int .i64 t175, .int .i64 (wrap64 (t176 + 1)), .slice Ao84 t177.length co84] 30 (0, 0)) u5_16 hb); replace BK172 := am (blk_below (g := gb172) (o := .cells #[.int .i64 x173000_3, .int .i64 x173001_3, .int .i64 x173002_3, .string x173003_3] 54 (0, 0)) u5_7 hb); replace HB := am (below_step q0 hb); (try clear hb); (try clear hb2); (try clear hk); (try clear hi); (try clear ho0); obtain ⟨hcz86_0, hcz86_1, hcz86_2, hfz86_0, hfz86_1, hfz86_2⟩ := bc3f w85 BK153.out; obtain ⟨Ao87, co87, eo87⟩ := Kd.R_slice HO184.out; subst eo87)) | go_quiet (first | (go_at_call 52; (with_reducible refine (spec_l09Put.calls k3 t161 t162 _ _ t163 x173000_3 0 0 0 (⟨#[]⟩ : ByteArray) t175 t176 t177 _ ?side1 ?side2 A71.out).mono ?_); (case side1 => exact u5_32); (case side2 => exact (Kd.R_reads' HO_167002.out).2.1); rintro e w82 ⟨v178, rfl, ho0, hb⟩; have HO179 := am (Kd.R_lower (Kd.R_newB (Kd.R_new' ho0 (Kd.R_lt u5_23)) (g := gb172) (o := .cells #[.int .i64 x173000_3, .int .i64 x173001_3, .int .i64 x173002_3, .string x173003_3] 54 (0, 0)) u5_24) (below_size q0)); replace HO_167002 := am (Kd.R_elder' u5_23 (Kd.R_base ho0) hb); replace BK152 := am (blk_below (g := gb152) (o := .cells #[.int .i64 a0_0, .int .i64 a0_1, .slice (some ad171) l0_2.length c0_2] 30 (0, 0)) u5_1 hb); replace BK153 := am (blk_below (g := gb153) (o := .cells #[.int .i64 0, .int .i64 0, .slice none 0 0] 30 (0, 0)) u5_3 hb); replace BK166 := am (blk_below (g := gb166) (o := .cells #[.int .i64 t161, .int .i64 t162, .slice Ao32 t163.length co32] 30 (0, 0)) u5_17 hb); replace BK172 := am (blk_below (g := gb172) (o := .cells #[.int .i64 x173000_3, .int .i64 x173001_3, .int .i64 x173002_3, .string x173003_3] 54 (0, 0)) u5_24 hb); replace HB := am (below_step q0 hb); (try clear hb); (try clear hb2); (try clear hk); (try clear hi); (try clear ho0); obtain ⟨hcz83_0, hcz83_1, hcz83_2, hfz83_0, hfz83_1, hfz83_2⟩ := bc3f w82 BK166.out; obtain ⟨Ao84, co84, eo84⟩ := Kd.R_slice HO179.out; subst eo84) | (go_at_call 52; (with_reducible refine (spec_l09Put.calls k3 t175 (wrap64 (t176 + 1)) _ _ t177 a1 a1 a2 (wrap64 (t176 + 1)) a3 t180 t181 t182 _ ?side1 ?side2 A72.out).mono ?_); (case side1 => exact u5_30); (case side2 => exact (Kd.R_reads' HO179.out).2.1); rintro e w85 ⟨v183, rfl, ho0, hb⟩; have HO184 := am (Kd.R_lower (Kd.R_newB (Kd.R_new' (Kd.R_new' ho0 (Kd.R_lt u5_10)) (Kd.R_lt u5_5)) (g := gb172) (o := .cells #[.int .i64 x173000_3, .int .i64 x173001_3, .int .i64 x173002_3, .string x173003_3] 54 (0, 0)) u5_7) (below_size q0)); replace HO_167002 := am (Kd.R_elder' u5_10 (Kd.R_base ho0) hb); replace HO179 := am (Kd.R_elder' u5_5 (Kd.R_base ho0) hb); replace BK152 := am (blk_below (g := gb152) (o := .cells #[.int .i64 a0_0, .int .i64 a0_1, .slice (some ad171) l0_2.length c0_2] 30 (0, 0)) u5_21 hb); replace BK153 := am (blk_below (g := gb153) (o := .cells #[.int .i64 0, .int .i64 0, .slice none 0 0] 30 (0, 0)) u5_22 hb); replace BK166 := am (blk_below (g := gb166) (o := .cells #[.int .i64 t175, .int .i64 (wrap64 (t176 + 1)), .slice Ao84 t177.length co84] 30 (0, 0)) u5_16 hb); replace BK172 := am (blk_below (g := gb172) (o := .cells #[.int .i64 x173000_3, .int .i64 x173001_3, .int .i64 x173002_3, .string x173003_3] 54 (0, 0)) u5_7 hb); replace HB := am (below_step q0 hb); (try clear hb); (try clear hb2); (try clear hk); (try clear hi); (try clear ho0); obtain ⟨hcz86_0, hcz86_1, hcz86_2, hfz86_0, hfz86_1, hfz86_2⟩ := bc3f w85 BK153.out; obtain ⟨Ao87, co87, eo87⟩ := Kd.R_slice HO184.out; subst eo87)))
       refine bodyPost_ret (results_ct rfl _ _ gb153 30 #[.int .i64 t180, .int .i64 t181, .slice Ao87 t182.length co87] (0, 0) _ rfl (by (with_reducible repeat (first | refine blk_drewN ?_ _ | refine blk_drew ?_ | refine blk_alloc ?_ _)); refine blk_put (cs := #[.int .i64 t180, .int .i64 t181, .slice none 0 0]) ?_ 2 _ rfl; (with_reducible repeat (first | refine blk_drewN ?_ _ | refine blk_drew ?_ | refine blk_alloc ?_ _)); refine blk_put (cs := #[.int .i64 t180, .int .i64 0, .slice none 0 0]) ?_ 1 _ rfl; (with_reducible repeat (first | refine blk_drewN ?_ _ | refine blk_drew ?_ | refine blk_alloc ?_ _)); refine blk_put (cs := #[.int .i64 0, .int .i64 0, .slice none 0 0]) ?_ 0 _ rfl; (with_reducible repeat (first | refine blk_drewN ?_ _ | refine blk_drew ?_ | refine blk_alloc ?_ _)); exact BK153.out) Tryd.underlying30 rfl kr) rfl ?_
       exact ⟨_, er, (by (with_reducible repeat (first | apply Kd.R_alloc | apply Kd.R_drewN | apply Kd.R_drew)); exact Kd.R_mono (Kd.R_far (p := ⟨gb153, 2, none⟩) (Kd.R_far (p := ⟨gb153, 1, none⟩) (Kd.R_far (p := ⟨gb153, 0, none⟩) (Kd.R_types HO184.out BK153.out (by decide)) (fun _ hk => hk.2) (.int .i64 t180)) (fun _ hk => hk.2) (.int .i64 t181)) (fun _ hk => hk.2) (.slice Ao87 t182.length co87)) (fun _ hk => trivial)), q0⟩

end Go.Proofs.YtjdpifafijcpbaaDoor.QFnOnce
