-- Printed by the session's own program wip/prx.py.
import Derived.Test.YtjdpifafijcpbaaDoorSqFnExactOnceEach
import Derived.Test.YtjdpifafijcpbaaDoorQFnExactOnceEachx0
import Derived.Test.YtjdpifafijcpbaaDoorQFnExactOnceEachx3
import Derived.Test.YtjdpifafijcpbaaDoorQFnExactOnceEachx4
namespace Go.Proofs.YtjdpifafijcpbaaDoor.QFnExactOnceEach
open Go.RowKit Go.Proofs.YtjdpifafijcpbaaDoorW.PrintWords Go.Proofs.YtjdpifafijcpbaaDoorW.PrintLast Go.Proofs.YtjdpifafijcpbaaDoorW.PrintMore Go.Proofs.YtjdpifafijcpbaaDoor.SqFnExactOnceEach
attribute [local go_sem] max2_int min2_int max_two min_two max_three min_three max_four min_four Go.Proofs.YtjdpifafijcpbaaDoor.Set.isSome_setCell
set_option linter.unusedVariables false
set_option linter.unusedSimpArgs false

-- squeezed
theorem u5_1 {P : Prop} (h : P := by (with_reducible repeat (first | refine blk_drewN ?_ _ | refine blk_drew ?_ | refine blk_alloc ?_ _)); exact BK160.out) : P := h
theorem u5_3 {P : Prop} (h : P := by (with_reducible repeat (first | refine blk_drewN ?_ _ | refine blk_drew ?_ | refine blk_alloc ?_ _)); exact BK161.out) : P := h
theorem u5_5 {P : Prop} (h : P := by (with_reducible repeat (first | apply Kd.R_alloc | apply Kd.R_drewN | apply Kd.R_drew)); exact (Kd.R_mono (Kd.R_far (p := ⟨gb174, 1, none⟩) (Kd.R_far (p := ⟨gb174, 2, none⟩) (Kd.R_far (p := ⟨gb174, 1, none⟩) (Kd.R_far (p := ⟨gb174, 0, none⟩) (Kd.R_types HO187.out BK174.out (by decide)) (fun _ hk => hk.2) (.int .i64 t183)) (fun _ hk => hk.2) (.int .i64 t184)) (fun _ hk => hk.2) (.slice Ao84 t185.length co84)) (fun _ hk => hk.2) (.int .i64 (wrap64 (t184 + 1)))) (fun _ h_ => h_.1))) : P := h
theorem u5_6 {P : Prop} (h : P := by (with_reducible repeat (first | refine blk_drewN ?_ _ | refine blk_drew ?_ | refine blk_alloc ?_ _)); refine blk_put (cs := #[.int .i64 t169, .int .i64 t170, .slice none 0 0]) ?_ 2 _ rfl; (with_reducible repeat (first | refine blk_drewN ?_ _ | refine blk_drew ?_ | refine blk_alloc ?_ _)); refine blk_put (cs := #[.int .i64 t169, .int .i64 0, .slice none 0 0]) ?_ 1 _ rfl; (with_reducible repeat (first | refine blk_drewN ?_ _ | refine blk_drew ?_ | refine blk_alloc ?_ _)); refine blk_put (cs := #[.int .i64 0, .int .i64 0, .slice none 0 0]) ?_ 0 _ rfl; (with_reducible repeat (first | refine blk_drewN ?_ _ | refine blk_drew ?_ | refine blk_alloc ?_ _)); exact BK174.out) : P := h
theorem u5_7 {P : Prop} (h : P := by (with_reducible repeat (first | refine blk_drewN ?_ _ | refine blk_drew ?_ | refine blk_alloc ?_ _)); refine blk_far ?_ NB180_174.out _; (with_reducible repeat (first | refine blk_drewN ?_ _ | refine blk_drew ?_ | refine blk_alloc ?_ _)); refine blk_far ?_ NB180_174.out _; (with_reducible repeat (first | refine blk_drewN ?_ _ | refine blk_drew ?_ | refine blk_alloc ?_ _)); refine blk_far ?_ NB180_174.out _; (with_reducible repeat (first | refine blk_drewN ?_ _ | refine blk_drew ?_ | refine blk_alloc ?_ _)); refine blk_far ?_ NB180_174.out _; (with_reducible repeat (first | refine blk_drewN ?_ _ | refine blk_drew ?_ | refine blk_alloc ?_ _)); exact BK180.out) : P := h
theorem u5_8 {P : Prop} (h : P := by (with_reducible repeat (first | refine blk_drewN ?_ _ | refine blk_drew ?_ | refine blk_alloc ?_ _)); refine blk_far ?_ NB160_174.out _; (with_reducible repeat (first | refine blk_drewN ?_ _ | refine blk_drew ?_ | refine blk_alloc ?_ _)); refine blk_far ?_ NB160_174.out _; (with_reducible repeat (first | refine blk_drewN ?_ _ | refine blk_drew ?_ | refine blk_alloc ?_ _)); refine blk_far ?_ NB160_174.out _; (with_reducible repeat (first | refine blk_drewN ?_ _ | refine blk_drew ?_ | refine blk_alloc ?_ _)); exact BK160.out) : P := h
theorem u5_9 {P : Prop} (h : P := by (with_reducible repeat (first | refine blk_drewN ?_ _ | refine blk_drew ?_ | refine blk_alloc ?_ _)); refine blk_far ?_ NB161_174.out _; (with_reducible repeat (first | refine blk_drewN ?_ _ | refine blk_drew ?_ | refine blk_alloc ?_ _)); refine blk_far ?_ NB161_174.out _; (with_reducible repeat (first | refine blk_drewN ?_ _ | refine blk_drew ?_ | refine blk_alloc ?_ _)); refine blk_far ?_ NB161_174.out _; (with_reducible repeat (first | refine blk_drewN ?_ _ | refine blk_drew ?_ | refine blk_alloc ?_ _)); exact BK161.out) : P := h
theorem u5_10 {P : Prop} (h : P := by (with_reducible repeat (first | apply Kd.R_alloc | apply Kd.R_drewN | apply Kd.R_drew)); exact (Kd.R_mono (Kd.R_far (p := ⟨gb174, 1, none⟩) (Kd.R_far (p := ⟨gb174, 2, none⟩) (Kd.R_far (p := ⟨gb174, 1, none⟩) (Kd.R_far (p := ⟨gb174, 0, none⟩) (Kd.R_types HO_175002.out BK174.out (by decide)) (fun _ hk => hk.2) (.int .i64 t183)) (fun _ hk => hk.2) (.int .i64 t184)) (fun _ hk => hk.2) (.slice Ao84 t185.length co84)) (fun _ hk => hk.2) (.int .i64 (wrap64 (t184 + 1)))) (fun _ h_ => h_.1))) : P := h
theorem u5_12 {P : Prop} (h : P := by (with_reducible repeat (first | apply Kd.R_alloc | apply Kd.R_drewN | apply Kd.R_drew)); exact (Kd.R_mono (Kd.R_far (p := ⟨gb174, 1, none⟩) (Kd.R_types HO_175002.out BK174.out (by decide)) (fun _ hk => hk.2) (.int .i64 (wrap64 (t170 + 1)))) (fun _ h_ => h_.1))) : P := h
theorem u5_14 {P : Prop} (h : P := by (with_reducible repeat (first | apply Kd.R_alloc | apply Kd.R_drewN | apply Kd.R_drew)); exact (Kd.R_mono (Kd.R_far (p := ⟨gb174, 2, none⟩) (Kd.R_far (p := ⟨gb174, 1, none⟩) (Kd.R_far (p := ⟨gb174, 0, none⟩) (Kd.R_types HO173.out BK174.out (by decide)) (fun _ hk => hk.2) (.int .i64 t169)) (fun _ hk => hk.2) (.int .i64 t170)) (fun _ hk => hk.2) (.slice Ao32 t171.length co32)) (fun _ h_ => h_.1))) : P := h
theorem u5_16 {P : Prop} (h : P := by (with_reducible repeat (first | refine blk_drewN ?_ _ | refine blk_drew ?_ | refine blk_alloc ?_ _)); refine blk_put (cs := #[.int .i64 t183, .int .i64 t184, .slice Ao84 t185.length co84]) ?_ 1 _ rfl; (with_reducible repeat (first | refine blk_drewN ?_ _ | refine blk_drew ?_ | refine blk_alloc ?_ _)); refine blk_put (cs := #[.int .i64 t183, .int .i64 t184, .slice Ao32 t171.length co32]) ?_ 2 _ rfl; (with_reducible repeat (first | refine blk_drewN ?_ _ | refine blk_drew ?_ | refine blk_alloc ?_ _)); refine blk_put (cs := #[.int .i64 t183, .int .i64 t170, .slice Ao32 t171.length co32]) ?_ 1 _ rfl; (with_reducible repeat (first | refine blk_drewN ?_ _ | refine blk_drew ?_ | refine blk_alloc ?_ _)); refine blk_put (cs := #[.int .i64 t169, .int .i64 t170, .slice Ao32 t171.length co32]) ?_ 0 _ rfl; (with_reducible repeat (first | refine blk_drewN ?_ _ | refine blk_drew ?_ | refine blk_alloc ?_ _)); exact BK174.out) : P := h
theorem u5_17 {P : Prop} (h : P := by (with_reducible repeat (first | refine blk_drewN ?_ _ | refine blk_drew ?_ | refine blk_alloc ?_ _)); exact BK174.out) : P := h
theorem u5_18 {P : Prop} (h : P := by (with_reducible repeat (first | refine blk_drewN ?_ _ | refine blk_drew ?_ | refine blk_alloc ?_ _)); refine blk_far ?_ NB160_180.out _; (with_reducible repeat (first | refine blk_drewN ?_ _ | refine blk_drew ?_ | refine blk_alloc ?_ _)); refine blk_far ?_ NB160_180.out _; (with_reducible repeat (first | refine blk_drewN ?_ _ | refine blk_drew ?_ | refine blk_alloc ?_ _)); refine blk_far ?_ NB160_180.out _; (with_reducible repeat (first | refine blk_drewN ?_ _ | refine blk_drew ?_ | refine blk_alloc ?_ _)); refine blk_far ?_ NB160_180.out _; (with_reducible repeat (first | refine blk_drewN ?_ _ | refine blk_drew ?_ | refine blk_alloc ?_ _)); exact BK160.out) : P := h
theorem u5_19 {P : Prop} (h : P := by (with_reducible repeat (first | refine blk_drewN ?_ _ | refine blk_drew ?_ | refine blk_alloc ?_ _)); refine blk_far ?_ NB161_180.out _; (with_reducible repeat (first | refine blk_drewN ?_ _ | refine blk_drew ?_ | refine blk_alloc ?_ _)); refine blk_far ?_ NB161_180.out _; (with_reducible repeat (first | refine blk_drewN ?_ _ | refine blk_drew ?_ | refine blk_alloc ?_ _)); refine blk_far ?_ NB161_180.out _; (with_reducible repeat (first | refine blk_drewN ?_ _ | refine blk_drew ?_ | refine blk_alloc ?_ _)); refine blk_far ?_ NB161_180.out _; (with_reducible repeat (first | refine blk_drewN ?_ _ | refine blk_drew ?_ | refine blk_alloc ?_ _)); exact BK161.out) : P := h
theorem u5_20 {P : Prop} (h : P := by (with_reducible repeat (first | refine blk_drewN ?_ _ | refine blk_drew ?_ | refine blk_alloc ?_ _)); refine blk_far ?_ NB174_180.out _; (with_reducible repeat (first | refine blk_drewN ?_ _ | refine blk_drew ?_ | refine blk_alloc ?_ _)); refine blk_far ?_ NB174_180.out _; (with_reducible repeat (first | refine blk_drewN ?_ _ | refine blk_drew ?_ | refine blk_alloc ?_ _)); refine blk_far ?_ NB174_180.out _; (with_reducible repeat (first | refine blk_drewN ?_ _ | refine blk_drew ?_ | refine blk_alloc ?_ _)); refine blk_far ?_ NB174_180.out _; (with_reducible repeat (first | refine blk_drewN ?_ _ | refine blk_drew ?_ | refine blk_alloc ?_ _)); exact BK174.out) : P := h
theorem u5_21 {P : Prop} (h : P := by (with_reducible repeat (first | refine blk_drewN ?_ _ | refine blk_drew ?_ | refine blk_alloc ?_ _)); refine blk_far ?_ NB160_174.out _; (with_reducible repeat (first | refine blk_drewN ?_ _ | refine blk_drew ?_ | refine blk_alloc ?_ _)); refine blk_far ?_ NB160_174.out _; (with_reducible repeat (first | refine blk_drewN ?_ _ | refine blk_drew ?_ | refine blk_alloc ?_ _)); refine blk_far ?_ NB160_174.out _; (with_reducible repeat (first | refine blk_drewN ?_ _ | refine blk_drew ?_ | refine blk_alloc ?_ _)); refine blk_far ?_ NB160_174.out _; (with_reducible repeat (first | refine blk_drewN ?_ _ | refine blk_drew ?_ | refine blk_alloc ?_ _)); exact BK160.out) : P := h
theorem u5_22 {P : Prop} (h : P := by (with_reducible repeat (first | refine blk_drewN ?_ _ | refine blk_drew ?_ | refine blk_alloc ?_ _)); refine blk_far ?_ NB161_174.out _; (with_reducible repeat (first | refine blk_drewN ?_ _ | refine blk_drew ?_ | refine blk_alloc ?_ _)); refine blk_far ?_ NB161_174.out _; (with_reducible repeat (first | refine blk_drewN ?_ _ | refine blk_drew ?_ | refine blk_alloc ?_ _)); refine blk_far ?_ NB161_174.out _; (with_reducible repeat (first | refine blk_drewN ?_ _ | refine blk_drew ?_ | refine blk_alloc ?_ _)); refine blk_far ?_ NB161_174.out _; (with_reducible repeat (first | refine blk_drewN ?_ _ | refine blk_drew ?_ | refine blk_alloc ?_ _)); exact BK161.out) : P := h
theorem u5_23 {P : Prop} (h : P := by (with_reducible repeat (first | apply Kd.R_alloc | apply Kd.R_drewN | apply Kd.R_drew)); exact HO_175002.out) : P := h
theorem u5_24 {P : Prop} (h : P := by (with_reducible repeat (first | refine blk_drewN ?_ _ | refine blk_drew ?_ | refine blk_alloc ?_ _)); exact BK180.out) : P := h
theorem u5_25 {P : Prop} (h : P := by (with_reducible repeat (first | apply Kd.R_alloc | apply Kd.R_drewN | apply Kd.R_drew)); exact HO173.out) : P := h
theorem u5_26 {P : Prop} (h : P := by (with_reducible repeat (first | refine blk_drewN ?_ _ | refine blk_drew ?_ | refine blk_alloc ?_ _)); refine blk_put (cs := #[.int .i64 t169, .int .i64 t170, .slice Ao32 t171.length co32]) ?_ 1 _ rfl; (with_reducible repeat (first | refine blk_drewN ?_ _ | refine blk_drew ?_ | refine blk_alloc ?_ _)); exact BK174.out) : P := h
theorem u5_28 {P : Prop} (h : P := by (with_reducible repeat (first | refine blk_drewN ?_ _ | refine blk_drew ?_ | refine blk_alloc ?_ _)); refine blk_far ?_ NB160_174.out _; (with_reducible repeat (first | refine blk_drewN ?_ _ | refine blk_drew ?_ | refine blk_alloc ?_ _)); exact BK160.out) : P := h
theorem u5_29 {P : Prop} (h : P := by (with_reducible repeat (first | refine blk_drewN ?_ _ | refine blk_drew ?_ | refine blk_alloc ?_ _)); refine blk_far ?_ NB161_174.out _; (with_reducible repeat (first | refine blk_drewN ?_ _ | refine blk_drew ?_ | refine blk_alloc ?_ _)); exact BK161.out) : P := h
theorem u5_30 {P : Prop} (h : P := by refine (Kd.R_reads' (e := 54) (base := w.heap.size) (ok := fun k_ => ((True ∧ some k_ ≠ (.slice Ao32 t171.length co32 : Value).ownBlock) ∧ k_ ≠ gb180)) (n := t185.length) (c := co84) ?_).2.2; exact u5_5) : P := h
theorem u5_32 {P : Prop} (h : P := by repeat (first | exact (Kd.R_reads' HO_175002.out).2.2 | (with_reducible refine Kd.C_alloc ?_ _) | (with_reducible refine Kd.C_drewN ?_ _) | (with_reducible refine Kd.C_drew ?_))) : P := h
theorem u5_33 {P : Prop} (h : P := by refine (Kd.R_reads' (e := 54) (base := w.heap.size) (ok := fun k_ => True) (n := t171.length) (c := co32) ?_).2.2; exact u5_12) : P := h
theorem u5_34 {P : Prop} (h : P := by exact Kd.C_below HR0_2.out q1) : P := h
/-! ### spec_Keep: function 30 -/
mutual
def spec_Keep.j0 : Nat → Int → Int → ByteArray → Bool → Int → Int → List (S54) → Option (Int × Int × (List (S54)) × Bool)
 | 0, _, _, _, _, _, _, _ => none
 | k + 1, x1, x2, x3, x33, x161000, x161001, x161002 => if x33 = true then ((spec_l09Copy.f k x161000 x161001 x161002).bind fun bt164 => (some (bt164.1, bt164.2.1, bt164.2.2, false))) else ((spec_l09Copy.f k x161000 x161001 x161002).bind fun bt169 => ((spec_l09Find.f k x161000 x161001 x161002 x1).bind fun bt175 => (if bt175.1 = 0 then (spec_Keep.j1 k x1 x2 x3 ((x161002.length : Int) == x161000) x161000 x161001 x161002 bt169.1 bt169.2.1 bt169.2.2) else (spec_Keep.j1 k x1 x2 x3 false x161000 x161001 x161002 bt169.1 bt169.2.1 bt169.2.2))))
def spec_Keep.j1 : Nat → Int → Int → ByteArray → Bool → Int → Int → List (S54) → Int → Int → List (S54) → Option (Int × Int × (List (S54)) × Bool)
 | 0, _, _, _, _, _, _, _, _, _, _ => none
 | k + 1, x1, x2, x3, x50, x161000, x161001, x161002, x175000, x175001, x175002 => if x50 = true then (if 0 < (x161002.length : Int) then (spec_Keep.l0 k x1 x2 x3 0 x161000 x161001 x161002 x175000 x175001 x175002 ((rd_T54 x161002 0).f0) ((rd_T54 x161002 0).f1) ((rd_T54 x161002 0).f2) ((rd_T54 x161002 0).f3)) else (none)) else ((spec_l09Put.f k x175000 (wrap64 (x175001 + 1)) x175002 x1 x1 x2 (wrap64 (x175001 + 1)) x3).bind fun bt193 => (some (bt193.1, bt193.2.1, bt193.2.2, true)))
def spec_Keep.l0 : Nat → Int → Int → ByteArray → Int → Int → Int → List (S54) → Int → Int → List (S54) → Int → Int → Int → ByteArray → Option (Int × Int × (List (S54)) × Bool)
 | 0, _, _, _, _, _, _, _, _, _, _, _, _, _, _ => none
 | k + 1, x1, x2, x3, x14, x161000, x161001, x161002, x175000, x175001, x175002, x181000, x181001, x181002, x181003 => if x14 < (x161002.length : Int) then (if 0 ≤ x14 then (if ((rd_T54 x161002 x14).f2) < x181002 then (spec_Keep.l0 k x1 x2 x3 (wrap64 (x14 + 1)) x161000 x161001 x161002 x175000 x175001 x175002 ((rd_T54 x161002 x14).f0) ((rd_T54 x161002 x14).f1) ((rd_T54 x161002 x14).f2) ((rd_T54 x161002 x14).f3)) else (spec_Keep.l0 k x1 x2 x3 (wrap64 (x14 + 1)) x161000 x161001 x161002 x175000 x175001 x175002 x181000 x181001 x181002 x181003)) else (none)) else ((spec_l09Put.f k x175000 x175001 x175002 x181000 0 0 0 (⟨#[]⟩ : ByteArray)).bind fun bt183 => ((spec_l09Put.f k bt183.1 (wrap64 (bt183.2.1 + 1)) bt183.2.2 x1 x1 x2 (wrap64 (bt183.2.1 + 1)) x3).bind fun bt188 => (some (bt188.1, bt188.2.1, bt188.2.2, true))))
end
def spec_Keep.f (k : Nat) (a0_0 : Int) (a0_1 : Int) (l0_2 : List (S54)) (a1 : Int) (a2 : Int) (a3 : ByteArray) : Option (Int × Int × (List (S54)) × Bool) := (spec_Look.f k a0_0 a0_1 l0_2 a1 a2).bind fun bt162 => (if bt162.1 = 0 then (if (a3.size : Int) > 40 then (spec_Keep.j0 k a1 a2 a3 true a0_0 a0_1 l0_2) else (spec_Keep.j0 k a1 a2 a3 (decide (a0_1 ≥ 1000000)) a0_0 a0_1 l0_2)) else (spec_Keep.j0 k a1 a2 a3 true a0_0 a0_1 l0_2))
theorem spec_Keep.mono_l : ∀ k, (∀ y0 y1 y2 y3 y4 y5 y6, LeO (spec_Keep.j0 k y0 y1 y2 y3 y4 y5 y6) (spec_Keep.j0 (k + 1) y0 y1 y2 y3 y4 y5 y6)) ∧ (∀ y0 y1 y2 y3 y4 y5 y6 y7 y8 y9, LeO (spec_Keep.j1 k y0 y1 y2 y3 y4 y5 y6 y7 y8 y9) (spec_Keep.j1 (k + 1) y0 y1 y2 y3 y4 y5 y6 y7 y8 y9)) ∧ (∀ y0 y1 y2 y3 y4 y5 y6 y7 y8 y9 y10 y11 y12 y13, LeO (spec_Keep.l0 k y0 y1 y2 y3 y4 y5 y6 y7 y8 y9 y10 y11 y12 y13) (spec_Keep.l0 (k + 1) y0 y1 y2 y3 y4 y5 y6 y7 y8 y9 y10 y11 y12 y13))
 | 0 => ⟨fun _ _ _ _ _ _ _ r h => by simp [spec_Keep.j0] at h, fun _ _ _ _ _ _ _ _ _ _ r h => by simp [spec_Keep.j1] at h, fun _ _ _ _ _ _ _ _ _ _ _ _ _ _ r h => by simp [spec_Keep.l0] at h⟩
 | k + 1 => by
   obtain ⟨ih0, ih1, ih2⟩ := spec_Keep.mono_l k
   refine ⟨?_, ?_, ?_⟩ <;> intros <;> (first | unfold spec_Keep.j0 | unfold spec_Keep.j1 | unfold spec_Keep.l0) <;> repeat' first
   | (with_reducible exact ih0 _ _ _ _ _ _ _)
   | (with_reducible exact ih1 _ _ _ _ _ _ _ _ _ _)
   | (with_reducible exact ih2 _ _ _ _ _ _ _ _ _ _ _ _ _ _)
   | (with_reducible exact spec_Look.mono _ _ _ _ _ _)
   | (with_reducible exact spec_l09Copy.mono _ _ _ _)
   | (with_reducible exact spec_l09Find.mono _ _ _ _ _)
   | (with_reducible exact spec_l09Put.mono _ _ _ _ _ _ _ _ _)
   | (with_reducible exact LeO.refl _)
   | (with_reducible exact LeO.none _)
   | (with_reducible refine LeO.ite ?_ ?_)
   | (with_reducible refine LeO.bind ?_ (fun _ => ?_))
   | exact ih0 _ _ _ _ _ _ _
   | exact ih1 _ _ _ _ _ _ _ _ _ _
   | exact ih2 _ _ _ _ _ _ _ _ _ _ _ _ _ _
   | exact spec_Look.mono _ _ _ _ _ _
   | exact spec_l09Copy.mono _ _ _ _
   | exact spec_l09Find.mono _ _ _ _ _
   | exact spec_l09Put.mono _ _ _ _ _ _ _ _ _
   | exact LeO.none _
   | refine LeO.ite ?_ ?_
   | refine LeO.bind ?_ (fun _ => ?_)
theorem spec_Keep.mono : ∀ a0 a1 a2 a3 a4 a5 k, LeO (spec_Keep.f k a0 a1 a2 a3 a4 a5) (spec_Keep.f (k + 1) a0 a1 a2 a3 a4 a5) := by
 intro a0 a1 a2 a3 a4 a5 k
 obtain ⟨ih0, ih1, ih2⟩ := spec_Keep.mono_l k
 unfold spec_Keep.f
 repeat' first
     | (with_reducible exact ih0 _ _ _ _ _ _ _)
     | (with_reducible exact ih1 _ _ _ _ _ _ _ _ _ _)
     | (with_reducible exact ih2 _ _ _ _ _ _ _ _ _ _ _ _ _ _)
     | (with_reducible exact spec_Look.mono _ _ _ _ _ _)
     | (with_reducible exact spec_l09Copy.mono _ _ _ _)
     | (with_reducible exact spec_l09Find.mono _ _ _ _ _)
     | (with_reducible exact spec_l09Put.mono _ _ _ _ _ _ _ _ _)
     | (with_reducible exact LeO.refl _)
     | (with_reducible exact LeO.none _)
     | (with_reducible refine LeO.ite ?_ ?_)
     | (with_reducible refine LeO.bind ?_ (fun _ => ?_))
     | exact ih0 _ _ _ _ _ _ _
     | exact ih1 _ _ _ _ _ _ _ _ _ _
     | exact ih2 _ _ _ _ _ _ _ _ _ _ _ _ _ _
     | exact spec_Look.mono _ _ _ _ _ _
     | exact spec_l09Copy.mono _ _ _ _
     | exact spec_l09Find.mono _ _ _ _ _
     | exact spec_l09Put.mono _ _ _ _ _ _ _ _ _
     | exact LeO.none _
     | refine LeO.ite ?_ ?_
     | refine LeO.bind ?_ (fun _ => ?_)
set_option maxHeartbeats 8000000 in
set_option maxRecDepth 100000 in
theorem spec_Keep.calls (k : Nat) (a0_0 : Int) (a0_1 : Int) (A0_2 : Option Addr) (c0_2 : Nat) (l0_2 : List (S54)) (a1 : Int) (a2 : Int) (a3 : ByteArray) (r1 : Int) (r2 : Int) (r3 : List (S54)) (r4 : Bool) (w : World) (hr0_2 : Kd.C k54 w A0_2 l0_2.length l0_2) (hc0_2 : l0_2.length ≤ c0_2) (h : spec_Keep.f k a0_0 a0_1 l0_2 a1 a2 a3 = some (r1, r2, r3, r4)) :
   Calls Tryd.prog 30 #[.agg #[.int .i64 a0_0, .int .i64 a0_1, .slice A0_2 l0_2.length c0_2], .int .i64 a1, .int .i64 a2, .string a3] w fun e w' => ∃ v2_ : Value, e = .returned (.tuple #[.agg #[.int .i64 r1, .int .i64 r2, v2_], .bool r4]) ∧ Kd.R k54 54 w' w.heap.size (fun _ => True) v2_ r3 ∧ Below w.heap.size w w' := by
 have hu30 := Tryd.underlying30
 have hu54 := Tryd.underlying54
 have hfl54_0 : ∀ (q0_ q1_ q2_ q3_ : Value) (W : World), (Instr.field 54 (.agg #[q0_, q1_, q2_, q3_]) 0).run Tryd.prog W = .ok (q0_) W := fun q0_ q1_ q2_ q3_ W => by first | rfl | kernel_rfl
 have HR0_2 := am hr0_2
 have HC0_2 := am hc0_2
 clear hr0_2 hc0_2
 have HB := am (Below.refl w.heap.size w)
 have H : ((spec_Look.f k a0_0 a0_1 l0_2 a1 a2).bind fun bt162 => (if bt162.1 = 0 then (if (a3.size : Int) > 40 then (spec_Keep.j0 k a1 a2 a3 true a0_0 a0_1 l0_2) else (spec_Keep.j0 k a1 a2 a3 (decide (a0_1 ≥ 1000000)) a0_0 a0_1 l0_2)) else (spec_Keep.j0 k a1 a2 a3 true a0_0 a0_1 l0_2))) = some (r1, r2, r3, r4) := h
 clear h
 replace H := Option.bind_eq_some_iff.mp H
 obtain ⟨⟨t162, t163⟩, A50, H⟩ := H
 (try dsimp only at H)
 have A5 := am A50
 clear A50
 have HC6 := am H
 clear H
 go_enter Tryd.func30, Tryd.ntmps30
 go_upto_region 2 with (first | ((with_reducible refine gate_dst (N := 4) rfl ?_); (try (refine gate_guard (by rfl) ?_; dsimp only)); refine box_event ?hg (N := 4) ?hd (cs := #[.int .i64 a0_0, .int .i64 a0_1, .slice A0_2 l0_2.length c0_2]) (t := 30) ?hr ?_; (case hd => rfl); (case hg => rfl); (case hr => first | (go_simp; done) | (go_simp; rfl)); intro gb160 hg w7 hbox hb; have BK160 := am (hbox); have GW160 := am ((by rw [hg]; exact (below_size q1) : w.heap.size ≤ gb160)); have GE160 := am ((by rw [hg]; exact (below_size q1) : w.heap.size ≤ gb160)); replace HB := am (below_step q1 hb); clear hb hbox hg) | ((with_reducible refine gate_dst (N := 8) rfl ?_); (try (refine gate_guard (by rfl) ?_; dsimp only)); refine box_event ?hg (N := 8) ?hd (cs := #[.int .i64 0, .int .i64 0, .slice none 0 0]) (t := 30) ?hr ?_; (case hd => rfl); (case hg => rfl); (case hr => first | (go_simp; done) | (go_simp; rfl)); intro gb161 hg w8 hbox hb; have BK161 := am (hbox); have GW161 := am ((by rw [hg]; exact (below_size q1) : w.heap.size ≤ gb161)); have GE161 := am ((by rw [hg]; exact (below_size q1) : w.heap.size ≤ gb161)); replace HB := am (below_step q1 hb); have NB160_161 := am ((by rw [hg]; exact Nat.ne_of_lt (blk_lt (g := gb160) (o := .cells #[.int .i64 a0_0, .int .i64 a0_1, .slice A0_2 l0_2.length c0_2] 30 (0, 0)) u5_1) : gb160 ≠ gb161)); have NB161_160 := am ((by rw [hg]; exact Nat.ne_of_gt (blk_lt (g := gb160) (o := .cells #[.int .i64 a0_0, .int .i64 a0_1, .slice A0_2 l0_2.length c0_2] 30 (0, 0)) u5_1) : gb161 ≠ gb160)); replace BK160 := am (blk_below (g := gb160) (o := .cells #[.int .i64 a0_0, .int .i64 a0_1, .slice A0_2 l0_2.length c0_2] 30 (0, 0)) u5_1 hb); clear hb hbox hg; have hnb9 := NB160_161.out; have hnc9 := NB161_160.out; obtain ⟨hcz10_0, hcz10_1, hcz10_2, hfz10_0, hfz10_1, hfz10_2⟩ := bc3f w8 BK160.out) | (go_at_call 29; (with_reducible refine (spec_Look.calls k a0_0 a0_1 _ _ l0_2 a1 a2 t162 t163 _ ?side1 ?side2 A5.out).mono ?_); (case side1 => exact q5); (case side2 => exact HC0_2.out); rintro e w11 ⟨rfl, hb⟩; replace BK160 := am (blk_below (g := gb160) (o := .cells #[.int .i64 a0_0, .int .i64 a0_1, .slice A0_2 l0_2.length c0_2] 30 (0, 0)) u5_1 hb); replace BK161 := am (blk_below (g := gb161) (o := .cells #[.int .i64 0, .int .i64 0, .slice none 0 0] 30 (0, 0)) u5_3 hb); replace HB := am (below_step q1 hb); (try clear hb); (try clear hb2); (try clear hk); (try clear hi)))
 repeat (go_quiet (first | ((with_reducible refine gate_dst (N := 4) rfl ?_); (try (refine gate_guard (by rfl) ?_; dsimp only)); refine box_event ?hg (N := 4) ?hd (cs := #[.int .i64 a0_0, .int .i64 a0_1, .slice A0_2 l0_2.length c0_2]) (t := 30) ?hr ?_; (case hd => rfl); (case hg => rfl); (case hr => first | (go_simp; done) | (go_simp; rfl)); intro gb160 hg w7 hbox hb; have BK160 := am (hbox); have GW160 := am ((by rw [hg]; exact (below_size q1) : w.heap.size ≤ gb160)); have GE160 := am ((by rw [hg]; exact (below_size q1) : w.heap.size ≤ gb160)); replace HB := am (below_step q1 hb); clear hb hbox hg) | ((with_reducible refine gate_dst (N := 8) rfl ?_); (try (refine gate_guard (by rfl) ?_; dsimp only)); refine box_event ?hg (N := 8) ?hd (cs := #[.int .i64 0, .int .i64 0, .slice none 0 0]) (t := 30) ?hr ?_; (case hd => rfl); (case hg => rfl); (case hr => first | (go_simp; done) | (go_simp; rfl)); intro gb161 hg w8 hbox hb; have BK161 := am (hbox); have GW161 := am ((by rw [hg]; exact (below_size q1) : w.heap.size ≤ gb161)); have GE161 := am ((by rw [hg]; exact (below_size q1) : w.heap.size ≤ gb161)); replace HB := am (below_step q1 hb); have NB160_161 := am ((by rw [hg]; exact Nat.ne_of_lt (blk_lt (g := gb160) (o := .cells #[.int .i64 a0_0, .int .i64 a0_1, .slice A0_2 l0_2.length c0_2] 30 (0, 0)) u5_1) : gb160 ≠ gb161)); have NB161_160 := am ((by rw [hg]; exact Nat.ne_of_gt (blk_lt (g := gb160) (o := .cells #[.int .i64 a0_0, .int .i64 a0_1, .slice A0_2 l0_2.length c0_2] 30 (0, 0)) u5_1) : gb161 ≠ gb160)); replace BK160 := am (blk_below (g := gb160) (o := .cells #[.int .i64 a0_0, .int .i64 a0_1, .slice A0_2 l0_2.length c0_2] 30 (0, 0)) u5_1 hb); clear hb hbox hg; have hnb9 := NB160_161.out; have hnc9 := NB161_160.out; obtain ⟨hcz10_0, hcz10_1, hcz10_2, hfz10_0, hfz10_1, hfz10_2⟩ := bc3f w8 BK160.out) | (go_at_call 29; (with_reducible refine (spec_Look.calls k a0_0 a0_1 _ _ l0_2 a1 a2 t162 t163 _ ?side1 ?side2 A5.out).mono ?_); (case side1 => exact q5); (case side2 => exact HC0_2.out); rintro e w11 ⟨rfl, hb⟩; replace BK160 := am (blk_below (g := gb160) (o := .cells #[.int .i64 a0_0, .int .i64 a0_1, .slice A0_2 l0_2.length c0_2] 30 (0, 0)) u5_1 hb); replace BK161 := am (blk_below (g := gb161) (o := .cells #[.int .i64 0, .int .i64 0, .slice none 0 0] 30 (0, 0)) u5_3 hb); replace HB := am (below_step q1 hb); (try clear hb); (try clear hb2); (try clear hk); (try clear hi))); go_upto_region 2 with (first | ((with_reducible refine gate_dst (N := 4) rfl ?_); (try (refine gate_guard (by rfl) ?_; dsimp only)); refine box_event ?hg (N := 4) ?hd (cs := #[.int .i64 a0_0, .int .i64 a0_1, .slice A0_2 l0_2.length c0_2]) (t := 30) ?hr ?_; (case hd => rfl); (case hg => rfl); (case hr => first | (go_simp; done) | (go_simp; rfl)); intro gb160 hg w7 hbox hb; have BK160 := am (hbox); have GW160 := am ((by rw [hg]; exact (below_size q1) : w.heap.size ≤ gb160)); have GE160 := am ((by rw [hg]; exact (below_size q1) : w.heap.size ≤ gb160)); replace HB := am (below_step q1 hb); clear hb hbox hg) | ((with_reducible refine gate_dst (N := 8) rfl ?_); (try (refine gate_guard (by rfl) ?_; dsimp only)); refine box_event ?hg (N := 8) ?hd (cs := #[.int .i64 0, .int .i64 0, .slice none 0 0]) (t := 30) ?hr ?_; (case hd => rfl); (case hg => rfl); (case hr => first | (go_simp; done) | (go_simp; rfl)); intro gb161 hg w8 hbox hb; have BK161 := am (hbox); have GW161 := am ((by rw [hg]; exact (below_size q1) : w.heap.size ≤ gb161)); have GE161 := am ((by rw [hg]; exact (below_size q1) : w.heap.size ≤ gb161)); replace HB := am (below_step q1 hb); have NB160_161 := am ((by rw [hg]; exact Nat.ne_of_lt (blk_lt (g := gb160) (o := .cells #[.int .i64 a0_0, .int .i64 a0_1, .slice A0_2 l0_2.length c0_2] 30 (0, 0)) u5_1) : gb160 ≠ gb161)); have NB161_160 := am ((by rw [hg]; exact Nat.ne_of_gt (blk_lt (g := gb160) (o := .cells #[.int .i64 a0_0, .int .i64 a0_1, .slice A0_2 l0_2.length c0_2] 30 (0, 0)) u5_1) : gb161 ≠ gb160)); replace BK160 := am (blk_below (g := gb160) (o := .cells #[.int .i64 a0_0, .int .i64 a0_1, .slice A0_2 l0_2.length c0_2] 30 (0, 0)) u5_1 hb); clear hb hbox hg; have hnb9 := NB160_161.out; have hnc9 := NB161_160.out; obtain ⟨hcz10_0, hcz10_1, hcz10_2, hfz10_0, hfz10_1, hfz10_2⟩ := bc3f w8 BK160.out) | (go_at_call 29; (with_reducible refine (spec_Look.calls k a0_0 a0_1 _ _ l0_2 a1 a2 t162 t163 _ ?side1 ?side2 A5.out).mono ?_); (case side1 => exact q5); (case side2 => exact HC0_2.out); rintro e w11 ⟨rfl, hb⟩; replace BK160 := am (blk_below (g := gb160) (o := .cells #[.int .i64 a0_0, .int .i64 a0_1, .slice A0_2 l0_2.length c0_2] 30 (0, 0)) u5_1 hb); replace BK161 := am (blk_below (g := gb161) (o := .cells #[.int .i64 0, .int .i64 0, .slice none 0 0] 30 (0, 0)) u5_3 hb); replace HB := am (below_step q1 hb); (try clear hb); (try clear hb2); (try clear hk); (try clear hi))))
 (try simp only [Act.put, la, lb, lc])
 go_cut [33] (fun v33 wc => ∃ (kq : Nat) (x33_5 : Bool), v33 = .bool x33_5 ∧ Aside0 (spec_Keep.j0 kq a1 a2 a3 x33_5 a0_0 a0_1 l0_2 = some (r1, r2, r3, r4)) ∧ Aside0 (kq ≤ k) ∧ Aside0 (wc.heap[gb160]? = some (.cells #[.int .i64 a0_0, .int .i64 a0_1, (.slice A0_2 l0_2.length c0_2)] 30 (0, 0))) ∧ Aside0 (wc.heap[gb161]? = some (.cells #[.int .i64 0, .int .i64 0, (.slice none 0 0)] 30 (0, 0))) ∧ Aside0 (Below w.heap.size w wc))
 case first =>
   have H := HC6.out
   clear HC6
   by_cases c12 : t162 = 0
   rotate_left
   · rw [if_neg c12] at H
     have c12b0 : (t162 == 0) = false := beq_eq_false_iff_ne.mpr c12
     have c12b1 : (t162 != 0) = true := bne_iff_ne.mpr c12
     (first | rw [c12b0] | (simp only [i64_w, i32_w]; rw [c12b0]) | skip)
     have H' := am H
     clear H
     go_wp2
     repeat (go_quiet (fail); try go_wp2)
     go_meet
     case rel => exact ⟨_, (true), q2, H', ⟨by first | omega | exact Nat.le_refl _⟩, ⟨u5_1⟩, ⟨u5_3⟩, ⟨q1⟩⟩
   rw [if_pos c12] at H
   have c12b0 : (t162 == 0) = true := beq_iff_eq.mpr c12
   have c12b1 : (t162 != 0) = false := bne_eq_false_iff_eq.mpr c12
   clear c12
   (first | rw [c12b0] | (simp only [i64_w, i32_w]; rw [c12b0]) | skip)
   by_cases c13 : (a3.size : Int) > 40
   · rw [if_pos c13] at H
     have c13b0 : decide (40 < (a3.size : Int)) = true := decide_eq_true c13
     have c13b1 : decide (40 < a3.size) = true := decide_eq_true (by omega)
     clear c13
     have H' := am H
     clear H
     go_wp2
     repeat (go_quiet (fail); try go_wp2)
     go_meet
     case rel => exact ⟨_, (true), q2, H', ⟨by first | omega | exact Nat.le_refl _⟩, ⟨u5_1⟩, ⟨u5_3⟩, ⟨q1⟩⟩
   rw [if_neg c13] at H
   have c13b0 : decide (40 < (a3.size : Int)) = false := decide_eq_false c13
   have c13b1 : decide (40 < a3.size) = false := decide_eq_false (by omega)
   clear c13
   have H' := am H
   clear H
   have hnb14 := NB160_161.out
   have hnc14 := NB161_160.out
   obtain ⟨hcz15_0, hcz15_1, hcz15_2, hfz15_0, hfz15_1, hfz15_2⟩ := bc3f w11 BK160.out
   go_wp2
   repeat (go_quiet (fail); try go_wp2)
   go_meet
   case rel => exact ⟨_, (decide (a0_1 ≥ 1000000)), q2, H', ⟨by first | omega | exact Nat.le_refl _⟩, ⟨u5_1⟩, ⟨u5_3⟩, ⟨q1⟩⟩
 clear HC6
 try clear hcz10_0
 try clear hcz10_1
 try clear hcz10_2
 try clear hfz10_0
 try clear hfz10_1
 try clear hfz10_2
 obtain ⟨kq, x33_5, rfl, HA, HJ5, BK160, BK161, HB⟩ := hcut
 cases kq with
 | zero => exact absurd HA.out (by simp [spec_Keep.j0])
 | succ kj5 =>
   have H := HA.out
   clear HA
   simp only [spec_Keep.j0] at H
   by_cases c16 : x33_5 = true
   · subst c16
     rw [if_pos rfl] at H
     replace H := Option.bind_eq_some_iff.mp H
     obtain ⟨⟨t164, t165, t166⟩, A170, H⟩ := H
     replace H : (some (t164, t165, t166, false)) = some (r1, r2, r3, r4) := H
     have A17 := am A170
     clear A170
     simp only [Option.some.injEq, Prod.mk.injEq] at H
     obtain ⟨rfl, rfl, rfl, rfl⟩ := H
     have hnb18 := NB160_161.out
     have hnc18 := NB161_160.out
     obtain ⟨hcz19_0, hcz19_1, hcz19_2, hfz19_0, hfz19_1, hfz19_2⟩ := bc3f wc BK160.out
     go_wp2_with (first | (first | (go_at_call 28; (with_reducible refine (spec_l09Copy.calls kj5 a0_0 a0_1 _ _ l0_2 t164 t165 t166 _ ?side1 ?side2 A17.out).mono ?_); (case side1 => exact q5); (case side2 => exact HC0_2.out); rintro e w20 ⟨v167, rfl, ho0, hb⟩; have HO168 := am (Kd.R_lower ho0 (below_size q1)); replace BK160 := am (blk_below (g := gb160) (o := .cells #[.int .i64 a0_0, .int .i64 a0_1, .slice A0_2 l0_2.length c0_2] 30 (0, 0)) u5_1 hb); replace BK161 := am (blk_below (g := gb161) (o := .cells #[.int .i64 0, .int .i64 0, .slice none 0 0] 30 (0, 0)) u5_3 hb); replace HB := am (below_step q1 hb); (try clear hb); (try clear hb2); (try clear hk); (try clear hi); (try clear ho0); obtain ⟨hcz21_0, hcz21_1, hcz21_2, hfz21_0, hfz21_1, hfz21_2⟩ := bc3f w20 BK161.out; obtain ⟨Ao22, co22, eo22⟩ := Kd.R_slice HO168.out; subst eo22)) | go_quiet (first | (go_at_call 28; (with_reducible refine (spec_l09Copy.calls kj5 a0_0 a0_1 _ _ l0_2 t164 t165 t166 _ ?side1 ?side2 A17.out).mono ?_); (case side1 => exact q5); (case side2 => exact HC0_2.out); rintro e w20 ⟨v167, rfl, ho0, hb⟩; have HO168 := am (Kd.R_lower ho0 (below_size q1)); replace BK160 := am (blk_below (g := gb160) (o := .cells #[.int .i64 a0_0, .int .i64 a0_1, .slice A0_2 l0_2.length c0_2] 30 (0, 0)) u5_1 hb); replace BK161 := am (blk_below (g := gb161) (o := .cells #[.int .i64 0, .int .i64 0, .slice none 0 0] 30 (0, 0)) u5_3 hb); replace HB := am (below_step q1 hb); (try clear hb); (try clear hb2); (try clear hk); (try clear hi); (try clear ho0); obtain ⟨hcz21_0, hcz21_1, hcz21_2, hfz21_0, hfz21_1, hfz21_2⟩ := bc3f w20 BK161.out; obtain ⟨Ao22, co22, eo22⟩ := Kd.R_slice HO168.out; subst eo22)))
     refine bodyPost_ret (results_ct rfl _ _ gb161 30 #[.int .i64 t164, .int .i64 t165, .slice Ao22 t166.length co22] (0, 0) _ rfl (by (with_reducible repeat (first | refine blk_drewN ?_ _ | refine blk_drew ?_ | refine blk_alloc ?_ _)); refine blk_put (cs := #[.int .i64 t164, .int .i64 t165, .slice none 0 0]) ?_ 2 _ rfl; (with_reducible repeat (first | refine blk_drewN ?_ _ | refine blk_drew ?_ | refine blk_alloc ?_ _)); refine blk_put (cs := #[.int .i64 t164, .int .i64 0, .slice none 0 0]) ?_ 1 _ rfl; (with_reducible repeat (first | refine blk_drewN ?_ _ | refine blk_drew ?_ | refine blk_alloc ?_ _)); refine blk_put (cs := #[.int .i64 0, .int .i64 0, .slice none 0 0]) ?_ 0 _ rfl; (with_reducible repeat (first | refine blk_drewN ?_ _ | refine blk_drew ?_ | refine blk_alloc ?_ _)); exact BK161.out) Tryd.underlying30 rfl kr) rfl ?_
     exact ⟨_, er, (by (with_reducible repeat (first | apply Kd.R_alloc | apply Kd.R_drewN | apply Kd.R_drew)); exact Kd.R_mono (Kd.R_far (p := ⟨gb161, 2, none⟩) (Kd.R_far (p := ⟨gb161, 1, none⟩) (Kd.R_far (p := ⟨gb161, 0, none⟩) (Kd.R_types HO168.out BK161.out (by decide)) (fun _ hk => hk.2) (.int .i64 t164)) (fun _ hk => hk.2) (.int .i64 t165)) (fun _ hk => hk.2) (.slice Ao22 t166.length co22)) (fun _ hk => trivial)), q1⟩
   replace c16 := Bool.eq_false_iff.mpr c16
   subst c16
   rw [nf] at H
   replace H := Option.bind_eq_some_iff.mp H
   obtain ⟨⟨t169, t170, t171⟩, A230, H⟩ := H
   (try dsimp only at H)
   have A23 := am A230
   clear A230
   have HC24 := am H
   clear H
   have hnb25 := NB160_161.out
   have hnc25 := NB161_160.out
   obtain ⟨hcz26_0, hcz26_1, hcz26_2, hfz26_0, hfz26_1, hfz26_2⟩ := bc3f wc BK160.out
   go_upto_region 5 with (first | (go_at_call 28; (with_reducible refine (spec_l09Copy.calls kj5 a0_0 a0_1 _ _ l0_2 t169 t170 t171 _ ?side1 ?side2 A23.out).mono ?_); (case side1 => exact q5); (case side2 => exact HC0_2.out); rintro e w27 ⟨v172, rfl, ho0, hb⟩; have HO173 := am (Kd.R_lower ho0 (below_size q1)); replace BK160 := am (blk_below (g := gb160) (o := .cells #[.int .i64 a0_0, .int .i64 a0_1, .slice A0_2 l0_2.length c0_2] 30 (0, 0)) u5_1 hb); replace BK161 := am (blk_below (g := gb161) (o := .cells #[.int .i64 0, .int .i64 0, .slice none 0 0] 30 (0, 0)) u5_3 hb); replace HB := am (below_step q1 hb); (try clear hb); (try clear hb2); (try clear hk); (try clear hi); (try clear ho0)) | ((with_reducible refine gate_dst (N := 12) rfl ?_); (try (refine gate_guard (by rfl) ?_; dsimp only)); refine box_event ?hg (N := 12) ?hd (cs := #[.int .i64 0, .int .i64 0, .slice none 0 0]) (t := 30) ?hr ?_; (case hd => rfl); (case hg => rfl); (case hr => first | (go_simp; done) | (go_simp; rfl)); intro gb174 hg w28 hbox hb; replace HO173 := am (Kd.R_below u5_25 hb); have BK174 := am (hbox); have GW174 := am ((by rw [hg]; exact (below_size q1) : w.heap.size ≤ gb174)); have GE174 := am ((by rw [hg]; exact (below_size q1) : w.heap.size ≤ gb174)); replace HB := am (below_step q1 hb); have NB160_174 := am ((by rw [hg]; exact Nat.ne_of_lt (blk_lt (g := gb160) (o := .cells #[.int .i64 a0_0, .int .i64 a0_1, .slice A0_2 l0_2.length c0_2] 30 (0, 0)) u5_1) : gb160 ≠ gb174)); have NB174_160 := am ((by rw [hg]; exact Nat.ne_of_gt (blk_lt (g := gb160) (o := .cells #[.int .i64 a0_0, .int .i64 a0_1, .slice A0_2 l0_2.length c0_2] 30 (0, 0)) u5_1) : gb174 ≠ gb160)); replace BK160 := am (blk_below (g := gb160) (o := .cells #[.int .i64 a0_0, .int .i64 a0_1, .slice A0_2 l0_2.length c0_2] 30 (0, 0)) u5_1 hb); have NB161_174 := am ((by rw [hg]; exact Nat.ne_of_lt (blk_lt (g := gb161) (o := .cells #[.int .i64 0, .int .i64 0, .slice none 0 0] 30 (0, 0)) u5_3) : gb161 ≠ gb174)); have NB174_161 := am ((by rw [hg]; exact Nat.ne_of_gt (blk_lt (g := gb161) (o := .cells #[.int .i64 0, .int .i64 0, .slice none 0 0] 30 (0, 0)) u5_3) : gb174 ≠ gb161)); replace BK161 := am (blk_below (g := gb161) (o := .cells #[.int .i64 0, .int .i64 0, .slice none 0 0] 30 (0, 0)) u5_3 hb); clear hb hbox hg; have hnb29 := NB174_160.out; have hnc29 := NB160_174.out; have hnb30 := NB174_161.out; have hnc30 := NB161_174.out; obtain ⟨hcz31_0, hcz31_1, hcz31_2, hfz31_0, hfz31_1, hfz31_2⟩ := bc3f w28 BK174.out; obtain ⟨Ao32, co32, eo32⟩ := Kd.R_slice HO173.out; subst eo32))
   repeat (go_quiet (first | (go_at_call 28; (with_reducible refine (spec_l09Copy.calls kj5 a0_0 a0_1 _ _ l0_2 t169 t170 t171 _ ?side1 ?side2 A23.out).mono ?_); (case side1 => exact q5); (case side2 => exact HC0_2.out); rintro e w27 ⟨v172, rfl, ho0, hb⟩; have HO173 := am (Kd.R_lower ho0 (below_size q1)); replace BK160 := am (blk_below (g := gb160) (o := .cells #[.int .i64 a0_0, .int .i64 a0_1, .slice A0_2 l0_2.length c0_2] 30 (0, 0)) u5_1 hb); replace BK161 := am (blk_below (g := gb161) (o := .cells #[.int .i64 0, .int .i64 0, .slice none 0 0] 30 (0, 0)) u5_3 hb); replace HB := am (below_step q1 hb); (try clear hb); (try clear hb2); (try clear hk); (try clear hi); (try clear ho0)) | ((with_reducible refine gate_dst (N := 12) rfl ?_); (try (refine gate_guard (by rfl) ?_; dsimp only)); refine box_event ?hg (N := 12) ?hd (cs := #[.int .i64 0, .int .i64 0, .slice none 0 0]) (t := 30) ?hr ?_; (case hd => rfl); (case hg => rfl); (case hr => first | (go_simp; done) | (go_simp; rfl)); intro gb174 hg w28 hbox hb; replace HO173 := am (Kd.R_below u5_25 hb); have BK174 := am (hbox); have GW174 := am ((by rw [hg]; exact (below_size q1) : w.heap.size ≤ gb174)); have GE174 := am ((by rw [hg]; exact (below_size q1) : w.heap.size ≤ gb174)); replace HB := am (below_step q1 hb); have NB160_174 := am ((by rw [hg]; exact Nat.ne_of_lt (blk_lt (g := gb160) (o := .cells #[.int .i64 a0_0, .int .i64 a0_1, .slice A0_2 l0_2.length c0_2] 30 (0, 0)) u5_1) : gb160 ≠ gb174)); have NB174_160 := am ((by rw [hg]; exact Nat.ne_of_gt (blk_lt (g := gb160) (o := .cells #[.int .i64 a0_0, .int .i64 a0_1, .slice A0_2 l0_2.length c0_2] 30 (0, 0)) u5_1) : gb174 ≠ gb160)); replace BK160 := am (blk_below (g := gb160) (o := .cells #[.int .i64 a0_0, .int .i64 a0_1, .slice A0_2 l0_2.length c0_2] 30 (0, 0)) u5_1 hb); have NB161_174 := am ((by rw [hg]; exact Nat.ne_of_lt (blk_lt (g := gb161) (o := .cells #[.int .i64 0, .int .i64 0, .slice none 0 0] 30 (0, 0)) u5_3) : gb161 ≠ gb174)); have NB174_161 := am ((by rw [hg]; exact Nat.ne_of_gt (blk_lt (g := gb161) (o := .cells #[.int .i64 0, .int .i64 0, .slice none 0 0] 30 (0, 0)) u5_3) : gb174 ≠ gb161)); replace BK161 := am (blk_below (g := gb161) (o := .cells #[.int .i64 0, .int .i64 0, .slice none 0 0] 30 (0, 0)) u5_3 hb); clear hb hbox hg; have hnb29 := NB174_160.out; have hnc29 := NB160_174.out; have hnb30 := NB174_161.out; have hnc30 := NB161_174.out; obtain ⟨hcz31_0, hcz31_1, hcz31_2, hfz31_0, hfz31_1, hfz31_2⟩ := bc3f w28 BK174.out; obtain ⟨Ao32, co32, eo32⟩ := Kd.R_slice HO173.out; subst eo32)); go_upto_region 5 with (first | (go_at_call 28; (with_reducible refine (spec_l09Copy.calls kj5 a0_0 a0_1 _ _ l0_2 t169 t170 t171 _ ?side1 ?side2 A23.out).mono ?_); (case side1 => exact q5); (case side2 => exact HC0_2.out); rintro e w27 ⟨v172, rfl, ho0, hb⟩; have HO173 := am (Kd.R_lower ho0 (below_size q1)); replace BK160 := am (blk_below (g := gb160) (o := .cells #[.int .i64 a0_0, .int .i64 a0_1, .slice A0_2 l0_2.length c0_2] 30 (0, 0)) u5_1 hb); replace BK161 := am (blk_below (g := gb161) (o := .cells #[.int .i64 0, .int .i64 0, .slice none 0 0] 30 (0, 0)) u5_3 hb); replace HB := am (below_step q1 hb); (try clear hb); (try clear hb2); (try clear hk); (try clear hi); (try clear ho0)) | ((with_reducible refine gate_dst (N := 12) rfl ?_); (try (refine gate_guard (by rfl) ?_; dsimp only)); refine box_event ?hg (N := 12) ?hd (cs := #[.int .i64 0, .int .i64 0, .slice none 0 0]) (t := 30) ?hr ?_; (case hd => rfl); (case hg => rfl); (case hr => first | (go_simp; done) | (go_simp; rfl)); intro gb174 hg w28 hbox hb; replace HO173 := am (Kd.R_below u5_25 hb); have BK174 := am (hbox); have GW174 := am ((by rw [hg]; exact (below_size q1) : w.heap.size ≤ gb174)); have GE174 := am ((by rw [hg]; exact (below_size q1) : w.heap.size ≤ gb174)); replace HB := am (below_step q1 hb); have NB160_174 := am ((by rw [hg]; exact Nat.ne_of_lt (blk_lt (g := gb160) (o := .cells #[.int .i64 a0_0, .int .i64 a0_1, .slice A0_2 l0_2.length c0_2] 30 (0, 0)) u5_1) : gb160 ≠ gb174)); have NB174_160 := am ((by rw [hg]; exact Nat.ne_of_gt (blk_lt (g := gb160) (o := .cells #[.int .i64 a0_0, .int .i64 a0_1, .slice A0_2 l0_2.length c0_2] 30 (0, 0)) u5_1) : gb174 ≠ gb160)); replace BK160 := am (blk_below (g := gb160) (o := .cells #[.int .i64 a0_0, .int .i64 a0_1, .slice A0_2 l0_2.length c0_2] 30 (0, 0)) u5_1 hb); have NB161_174 := am ((by rw [hg]; exact Nat.ne_of_lt (blk_lt (g := gb161) (o := .cells #[.int .i64 0, .int .i64 0, .slice none 0 0] 30 (0, 0)) u5_3) : gb161 ≠ gb174)); have NB174_161 := am ((by rw [hg]; exact Nat.ne_of_gt (blk_lt (g := gb161) (o := .cells #[.int .i64 0, .int .i64 0, .slice none 0 0] 30 (0, 0)) u5_3) : gb174 ≠ gb161)); replace BK161 := am (blk_below (g := gb161) (o := .cells #[.int .i64 0, .int .i64 0, .slice none 0 0] 30 (0, 0)) u5_3 hb); clear hb hbox hg; have hnb29 := NB174_160.out; have hnc29 := NB160_174.out; have hnb30 := NB174_161.out; have hnc30 := NB161_174.out; obtain ⟨hcz31_0, hcz31_1, hcz31_2, hfz31_0, hfz31_1, hfz31_2⟩ := bc3f w28 BK174.out; obtain ⟨Ao32, co32, eo32⟩ := Kd.R_slice HO173.out; subst eo32)))
   (try simp only [Act.put, la, lb, lc])
   go_cut [50] (fun v50 wc => ∃ (kq : Nat) (x50_23 : Bool), v50 = .bool x50_23 ∧ Aside0 (spec_Keep.j1 kq a1 a2 a3 x50_23 a0_0 a0_1 l0_2 t169 t170 t171 = some (r1, r2, r3, r4)) ∧ Aside0 (kq ≤ kj5) ∧ Aside0 (Kd.R k54 54 wc w.heap.size (fun _ => True) (.slice Ao32 t171.length co32) t171) ∧ Aside0 (wc.heap[gb160]? = some (.cells #[.int .i64 a0_0, .int .i64 a0_1, (.slice A0_2 l0_2.length c0_2)] 30 (0, 0))) ∧ Aside0 (wc.heap[gb161]? = some (.cells #[.int .i64 0, .int .i64 0, (.slice none 0 0)] 30 (0, 0))) ∧ Aside0 (wc.heap[gb174]? = some (.cells #[.int .i64 t169, .int .i64 t170, (.slice Ao32 t171.length co32)] 30 (0, 0))) ∧ Aside0 (Below w.heap.size w wc))
   case first =>
     have H := HC24.out
     clear HC24
     replace H := Option.bind_eq_some_iff.mp H
     obtain ⟨⟨t175, t176, t177, t178⟩, A330, H⟩ := H
     (try dsimp only at H)
     have A33 := am A330
     clear A330
     by_cases c34 : t175 = 0
     rotate_left
     · rw [if_neg c34] at H
       have c34b0 : (t175 == 0) = false := beq_eq_false_iff_ne.mpr c34
       have c34b1 : (t175 != 0) = true := bne_iff_ne.mpr c34
       (first | rw [c34b0] | (simp only [i64_w, i32_w]; rw [c34b0]) | skip)
       have H' := am H
       clear H
       have hnb40 := NB160_161.out
       have hnc40 := NB161_160.out
       have hnb41 := NB160_174.out
       have hnc41 := NB174_160.out
       obtain ⟨hcz42_0, hcz42_1, hcz42_2, hfz42_0, hfz42_1, hfz42_2⟩ := bc3f w28 BK160.out
       go_wp2_with (first | (first | (go_at_call 51; (with_reducible refine (spec_l09Find.calls kj5 a0_0 a0_1 _ _ l0_2 a1 t175 t176 t177 t178 _ ?side1 ?side2 A33.out).mono ?_); (case side1 => exact u5_34); (case side2 => exact HC0_2.out); rintro e w43 ⟨rfl, hb⟩; replace HO173 := am (Kd.R_below u5_14 hb); replace BK160 := am (blk_below (g := gb160) (o := .cells #[.int .i64 a0_0, .int .i64 a0_1, .slice A0_2 l0_2.length c0_2] 30 (0, 0)) u5_8 hb); replace BK161 := am (blk_below (g := gb161) (o := .cells #[.int .i64 0, .int .i64 0, .slice none 0 0] 30 (0, 0)) u5_9 hb); replace BK174 := am (blk_below (g := gb174) (o := .cells #[.int .i64 t169, .int .i64 t170, .slice Ao32 t171.length co32] 30 (0, 0)) u5_6 hb); replace HB := am (below_step q1 hb); (try clear hb); (try clear hb2); (try clear hk); (try clear hi))) | go_quiet (first | (go_at_call 51; (with_reducible refine (spec_l09Find.calls kj5 a0_0 a0_1 _ _ l0_2 a1 t175 t176 t177 t178 _ ?side1 ?side2 A33.out).mono ?_); (case side1 => exact u5_34); (case side2 => exact HC0_2.out); rintro e w43 ⟨rfl, hb⟩; replace HO173 := am (Kd.R_below u5_14 hb); replace BK160 := am (blk_below (g := gb160) (o := .cells #[.int .i64 a0_0, .int .i64 a0_1, .slice A0_2 l0_2.length c0_2] 30 (0, 0)) u5_8 hb); replace BK161 := am (blk_below (g := gb161) (o := .cells #[.int .i64 0, .int .i64 0, .slice none 0 0] 30 (0, 0)) u5_9 hb); replace BK174 := am (blk_below (g := gb174) (o := .cells #[.int .i64 t169, .int .i64 t170, .slice Ao32 t171.length co32] 30 (0, 0)) u5_6 hb); replace HB := am (below_step q1 hb); (try clear hb); (try clear hb2); (try clear hk); (try clear hi))))
       go_meet
       case rel => exact ⟨_, (false), q2, H', ⟨(by have := HJ5.out; first | omega | exact Nat.le_refl _)⟩, ⟨u5_25⟩, ⟨u5_1⟩, ⟨u5_3⟩, ⟨u5_17⟩, ⟨q1⟩⟩
     rw [if_pos c34] at H
     have c34b0 : (t175 == 0) = true := beq_iff_eq.mpr c34
     have c34b1 : (t175 != 0) = false := bne_eq_false_iff_eq.mpr c34
     clear c34
     (first | rw [c34b0] | (simp only [i64_w, i32_w]; rw [c34b0]) | skip)
     have H' := am H
     clear H
     have hnb35 := NB160_161.out
     have hnc35 := NB161_160.out
     have hnb36 := NB160_174.out
     have hnc36 := NB174_160.out
     obtain ⟨hcz37_0, hcz37_1, hcz37_2, hfz37_0, hfz37_1, hfz37_2⟩ := bc3f w28 BK160.out
     go_wp2_with (first | (first | (go_at_call 51; (with_reducible refine (spec_l09Find.calls kj5 a0_0 a0_1 _ _ l0_2 a1 t175 t176 t177 t178 _ ?side1 ?side2 A33.out).mono ?_); (case side1 => exact u5_34); (case side2 => exact HC0_2.out); rintro e w38 ⟨rfl, hb⟩; replace HO173 := am (Kd.R_below u5_14 hb); replace BK160 := am (blk_below (g := gb160) (o := .cells #[.int .i64 a0_0, .int .i64 a0_1, .slice A0_2 l0_2.length c0_2] 30 (0, 0)) u5_8 hb); replace BK161 := am (blk_below (g := gb161) (o := .cells #[.int .i64 0, .int .i64 0, .slice none 0 0] 30 (0, 0)) u5_9 hb); replace BK174 := am (blk_below (g := gb174) (o := .cells #[.int .i64 t169, .int .i64 t170, .slice Ao32 t171.length co32] 30 (0, 0)) u5_6 hb); replace HB := am (below_step q1 hb); (try clear hb); (try clear hb2); (try clear hk); (try clear hi); obtain ⟨hcz39_0, hcz39_1, hcz39_2, hfz39_0, hfz39_1, hfz39_2⟩ := bc3f w38 BK160.out)) | go_quiet (first | (go_at_call 51; (with_reducible refine (spec_l09Find.calls kj5 a0_0 a0_1 _ _ l0_2 a1 t175 t176 t177 t178 _ ?side1 ?side2 A33.out).mono ?_); (case side1 => exact u5_34); (case side2 => exact HC0_2.out); rintro e w38 ⟨rfl, hb⟩; replace HO173 := am (Kd.R_below u5_14 hb); replace BK160 := am (blk_below (g := gb160) (o := .cells #[.int .i64 a0_0, .int .i64 a0_1, .slice A0_2 l0_2.length c0_2] 30 (0, 0)) u5_8 hb); replace BK161 := am (blk_below (g := gb161) (o := .cells #[.int .i64 0, .int .i64 0, .slice none 0 0] 30 (0, 0)) u5_9 hb); replace BK174 := am (blk_below (g := gb174) (o := .cells #[.int .i64 t169, .int .i64 t170, .slice Ao32 t171.length co32] 30 (0, 0)) u5_6 hb); replace HB := am (below_step q1 hb); (try clear hb); (try clear hb2); (try clear hk); (try clear hi); obtain ⟨hcz39_0, hcz39_1, hcz39_2, hfz39_0, hfz39_1, hfz39_2⟩ := bc3f w38 BK160.out)))
     go_meet
     case rel => exact ⟨_, (((l0_2.length : Int) == a0_0)), q2, H', ⟨(by have := HJ5.out; first | omega | exact Nat.le_refl _)⟩, ⟨u5_25⟩, ⟨u5_1⟩, ⟨u5_3⟩, ⟨u5_17⟩, ⟨q1⟩⟩
   clear HC24
   try clear c16
   try clear hcz10_0
   try clear hcz10_1
   try clear hcz10_2
   try clear hcz26_0
   try clear hcz26_1
   try clear hcz26_2
   try clear hcz31_0
   try clear hcz31_1
   try clear hcz31_2
   try clear hfz10_0
   try clear hfz10_1
   try clear hfz10_2
   try clear hfz26_0
   try clear hfz26_1
   try clear hfz26_2
   try clear hfz31_0
   try clear hfz31_1
   try clear hfz31_2
   obtain ⟨kq, x50_23, rfl, HA, HJ23, HO_175002, BK160, BK161, BK174, HB⟩ := hcut
   cases kq with
   | zero => exact absurd HA.out (by simp [spec_Keep.j1])
   | succ kj23 =>
     have H := HA.out
     clear HA
     simp only [spec_Keep.j1] at H
     by_cases c44 : x50_23 = true
     rotate_left
     · replace c44 := Bool.eq_false_iff.mpr c44
       subst c44
       rw [nf] at H
       replace H := Option.bind_eq_some_iff.mp H
       obtain ⟨⟨t193, t194, t195⟩, A880, H⟩ := H
       replace H : (some (t193, t194, t195, true)) = some (r1, r2, r3, r4) := H
       have A88 := am A880
       clear A880
       simp only [Option.some.injEq, Prod.mk.injEq] at H
       obtain ⟨rfl, rfl, rfl, rfl⟩ := H
       have hnb89 := NB174_160.out
       have hnc89 := NB160_174.out
       have hnb90 := NB174_161.out
       have hnc90 := NB161_174.out
       obtain ⟨hcz91_0, hcz91_1, hcz91_2, hfz91_0, hfz91_1, hfz91_2⟩ := bc3f wc BK174.out
       go_wp2_with (first | (first | (go_at_call 52; (with_reducible refine (spec_l09Put.calls kj23 t169 (wrap64 (t170 + 1)) _ _ t171 a1 a1 a2 (wrap64 (t170 + 1)) a3 t193 t194 t195 _ ?side1 ?side2 A88.out).mono ?_); (case side1 => exact u5_33); (case side2 => exact (Kd.R_reads' HO_175002.out).2.1); rintro e w92 ⟨v196, rfl, ho0, hb⟩; have HO197 := am (Kd.R_lower (Kd.R_new' ho0 (Kd.R_lt u5_12)) (below_size q1)); replace HO_175002 := am (Kd.R_elder' u5_12 (Kd.R_base ho0) hb); replace BK160 := am (blk_below (g := gb160) (o := .cells #[.int .i64 a0_0, .int .i64 a0_1, .slice A0_2 l0_2.length c0_2] 30 (0, 0)) u5_28 hb); replace BK161 := am (blk_below (g := gb161) (o := .cells #[.int .i64 0, .int .i64 0, .slice none 0 0] 30 (0, 0)) u5_29 hb); replace BK174 := am (blk_below (g := gb174) (o := .cells #[.int .i64 t169, .int .i64 (wrap64 (t170 + 1)), .slice Ao32 t171.length co32] 30 (0, 0)) u5_26 hb); replace HB := am (below_step q1 hb); (try clear hb); (try clear hb2); (try clear hk); (try clear hi); (try clear ho0); have hnb93 := NB161_160.out; have hnc93 := NB160_161.out; obtain ⟨hcz94_0, hcz94_1, hcz94_2, hfz94_0, hfz94_1, hfz94_2⟩ := bc3f w92 BK161.out; obtain ⟨Ao95, co95, eo95⟩ := Kd.R_slice HO197.out; subst eo95)) | go_quiet (first | (go_at_call 52; (with_reducible refine (spec_l09Put.calls kj23 t169 (wrap64 (t170 + 1)) _ _ t171 a1 a1 a2 (wrap64 (t170 + 1)) a3 t193 t194 t195 _ ?side1 ?side2 A88.out).mono ?_); (case side1 => exact u5_33); (case side2 => exact (Kd.R_reads' HO_175002.out).2.1); rintro e w92 ⟨v196, rfl, ho0, hb⟩; have HO197 := am (Kd.R_lower (Kd.R_new' ho0 (Kd.R_lt u5_12)) (below_size q1)); replace HO_175002 := am (Kd.R_elder' u5_12 (Kd.R_base ho0) hb); replace BK160 := am (blk_below (g := gb160) (o := .cells #[.int .i64 a0_0, .int .i64 a0_1, .slice A0_2 l0_2.length c0_2] 30 (0, 0)) u5_28 hb); replace BK161 := am (blk_below (g := gb161) (o := .cells #[.int .i64 0, .int .i64 0, .slice none 0 0] 30 (0, 0)) u5_29 hb); replace BK174 := am (blk_below (g := gb174) (o := .cells #[.int .i64 t169, .int .i64 (wrap64 (t170 + 1)), .slice Ao32 t171.length co32] 30 (0, 0)) u5_26 hb); replace HB := am (below_step q1 hb); (try clear hb); (try clear hb2); (try clear hk); (try clear hi); (try clear ho0); have hnb93 := NB161_160.out; have hnc93 := NB160_161.out; obtain ⟨hcz94_0, hcz94_1, hcz94_2, hfz94_0, hfz94_1, hfz94_2⟩ := bc3f w92 BK161.out; obtain ⟨Ao95, co95, eo95⟩ := Kd.R_slice HO197.out; subst eo95)))
       refine bodyPost_ret (results_ct rfl _ _ gb161 30 #[.int .i64 t193, .int .i64 t194, .slice Ao95 t195.length co95] (0, 0) _ rfl (by (with_reducible repeat (first | refine blk_drewN ?_ _ | refine blk_drew ?_ | refine blk_alloc ?_ _)); refine blk_put (cs := #[.int .i64 t193, .int .i64 t194, .slice none 0 0]) ?_ 2 _ rfl; (with_reducible repeat (first | refine blk_drewN ?_ _ | refine blk_drew ?_ | refine blk_alloc ?_ _)); refine blk_put (cs := #[.int .i64 t193, .int .i64 0, .slice none 0 0]) ?_ 1 _ rfl; (with_reducible repeat (first | refine blk_drewN ?_ _ | refine blk_drew ?_ | refine blk_alloc ?_ _)); refine blk_put (cs := #[.int .i64 0, .int .i64 0, .slice none 0 0]) ?_ 0 _ rfl; (with_reducible repeat (first | refine blk_drewN ?_ _ | refine blk_drew ?_ | refine blk_alloc ?_ _)); exact BK161.out) Tryd.underlying30 rfl kr) rfl ?_
       exact ⟨_, er, (by (with_reducible repeat (first | apply Kd.R_alloc | apply Kd.R_drewN | apply Kd.R_drew)); exact Kd.R_mono (Kd.R_far (p := ⟨gb161, 2, none⟩) (Kd.R_far (p := ⟨gb161, 1, none⟩) (Kd.R_far (p := ⟨gb161, 0, none⟩) (Kd.R_types HO197.out BK161.out (by decide)) (fun _ hk => hk.2) (.int .i64 t193)) (fun _ hk => hk.2) (.int .i64 t194)) (fun _ hk => hk.2) (.slice Ao95 t195.length co95)) (fun _ hk => trivial)), q1⟩
     subst c44
     rw [if_pos rfl] at H
     by_cases c45 : 0 < (l0_2.length : Int)
     rotate_left
     · rw [if_neg c45] at H
       exact absurd H (by simp)
     rw [if_pos c45] at H
     have c45b0 : decide (0 < (l0_2.length : Int)) = true := decide_eq_true c45
     have c45b1 : decide (0 < l0_2.length) = true := decide_eq_true (by omega)
     clear c45
     have H' := am H
     clear H
     have hnb46 := NB160_161.out
     have hnc46 := NB161_160.out
     have hnb47 := NB160_174.out
     have hnc47 := NB174_160.out
     obtain ⟨hcz48_0, hcz48_1, hcz48_2, hfz48_0, hfz48_1, hfz48_2⟩ := bc3f wc BK160.out
     have p179 : 0 ≤ (0 : Int) := (by omega)
     have q179 : 0 < (l0_2.length : Int) := of_decide_eq_true q0
     obtain ⟨ad179, e179, hx179_0, hx179_1, hx179_2, hx179_3⟩ := at_T54 HR0_2.out 0 p179 q179
     cases e179
     have qi179 : (0 < l0_2.length) = True := eq_true (by omega)
     (try rw [show ((0 : Int)).toNat = 0 from rfl] at hx179_0)
     (try rw [show 0 * 4 = 0 from rfl] at hx179_0)
     (try rw [Addr.add_zero'] at hx179_0)
     (try rw [show ((0 : Int)).toNat = 0 from rfl] at hx179_1)
     (try rw [show 0 * 4 = 0 from rfl] at hx179_1)
     (try rw [Addr.add_zero'] at hx179_1)
     (try rw [show ((0 : Int)).toNat = 0 from rfl] at hx179_2)
     (try rw [show 0 * 4 = 0 from rfl] at hx179_2)
     (try rw [Addr.add_zero'] at hx179_2)
     (try rw [show ((0 : Int)).toNat = 0 from rfl] at hx179_3)
     (try rw [show 0 * 4 = 0 from rfl] at hx179_3)
     (try rw [Addr.add_zero'] at hx179_3)
     replace hx179_0 := cm HB.out hx179_0
     replace hx179_1 := cm HB.out hx179_1
     replace hx179_2 := cm HB.out hx179_2
     replace hx179_3 := cm HB.out hx179_3
     replace p179 := eq_true p179
     replace q179 := eq_true q179
     go_wp2_with (first | (first | ((with_reducible refine gate_dst (N := 13) rfl ?_); (try (refine gate_guard (by rfl) ?_; dsimp only)); refine box_event ?hg (N := 13) ?hd (cs := #[.int .i64 0, .int .i64 0, .int .i64 0, .string (⟨#[]⟩ : ByteArray)]) (t := 54) ?hr ?_; (case hd => rfl); (case hg => rfl); (case hr => first | (go_simp; done) | (go_simp; rfl)); intro gb180 hg w49 hbox hb; replace HO_175002 := am (Kd.R_below (Kd.R_elderB u5_23 gb180 (Nat.le_of_eq hg.symm)) hb); have BK180 := am (hbox); have GW180 := am ((by rw [hg]; exact (below_size q1) : w.heap.size ≤ gb180)); have GE180 := am ((by rw [hg]; exact (below_size q1) : w.heap.size ≤ gb180)); replace HB := am (below_step q1 hb); have NB160_180 := am ((by rw [hg]; exact Nat.ne_of_lt (blk_lt (g := gb160) (o := .cells #[.int .i64 a0_0, .int .i64 a0_1, .slice (some ad179) l0_2.length c0_2] 30 (0, 0)) u5_1) : gb160 ≠ gb180)); have NB180_160 := am ((by rw [hg]; exact Nat.ne_of_gt (blk_lt (g := gb160) (o := .cells #[.int .i64 a0_0, .int .i64 a0_1, .slice (some ad179) l0_2.length c0_2] 30 (0, 0)) u5_1) : gb180 ≠ gb160)); replace BK160 := am (blk_below (g := gb160) (o := .cells #[.int .i64 a0_0, .int .i64 a0_1, .slice (some ad179) l0_2.length c0_2] 30 (0, 0)) u5_1 hb); have NB161_180 := am ((by rw [hg]; exact Nat.ne_of_lt (blk_lt (g := gb161) (o := .cells #[.int .i64 0, .int .i64 0, .slice none 0 0] 30 (0, 0)) u5_3) : gb161 ≠ gb180)); have NB180_161 := am ((by rw [hg]; exact Nat.ne_of_gt (blk_lt (g := gb161) (o := .cells #[.int .i64 0, .int .i64 0, .slice none 0 0] 30 (0, 0)) u5_3) : gb180 ≠ gb161)); replace BK161 := am (blk_below (g := gb161) (o := .cells #[.int .i64 0, .int .i64 0, .slice none 0 0] 30 (0, 0)) u5_3 hb); have NB174_180 := am ((by rw [hg]; exact Nat.ne_of_lt (blk_lt (g := gb174) (o := .cells #[.int .i64 t169, .int .i64 t170, .slice Ao32 t171.length co32] 30 (0, 0)) u5_17) : gb174 ≠ gb180)); have NB180_174 := am ((by rw [hg]; exact Nat.ne_of_gt (blk_lt (g := gb174) (o := .cells #[.int .i64 t169, .int .i64 t170, .slice Ao32 t171.length co32] 30 (0, 0)) u5_17) : gb180 ≠ gb174)); replace BK174 := am (blk_below (g := gb174) (o := .cells #[.int .i64 t169, .int .i64 t170, .slice Ao32 t171.length co32] 30 (0, 0)) u5_17 hb); clear hb hbox hg; have hnb50 := NB180_160.out; have hnc50 := NB160_180.out; have hnb51 := NB180_161.out; have hnc51 := NB161_180.out; have hnb52 := NB180_174.out; have hnc52 := NB174_180.out; obtain ⟨hcz53_0, hcz53_1, hcz53_2, hcz53_3, hfz53_0, hfz53_1, hfz53_2, hfz53_3⟩ := bc4f w49 BK180.out)) | go_quiet (fail))
     go_loopg [14] kj23 (fun kq v14 w' => ∃ (x14_3 : Int) (x181000_3 : Int) (x181001_3 : Int) (x181002_3 : Int) (x181003_3 : ByteArray), v14 = .int .i64 x14_3 ∧ Aside0 (spec_Keep.l0 kq a1 a2 a3 x14_3 a0_0 a0_1 l0_2 t169 t170 t171 x181000_3 x181001_3 x181002_3 x181003_3 = some (r1, r2, r3, r4)) ∧ Aside0 (kq ≤ kj23) ∧ Aside0 (Kd.R k54 54 w' w.heap.size (fun k_ => k_ ≠ gb180) (.slice Ao32 t171.length co32) t171) ∧ Aside0 (w'.heap[gb160]? = some (.cells #[.int .i64 a0_0, .int .i64 a0_1, (.slice (some ad179) l0_2.length c0_2)] 30 (0, 0))) ∧ Aside0 (w'.heap[gb161]? = some (.cells #[.int .i64 0, .int .i64 0, (.slice none 0 0)] 30 (0, 0))) ∧ Aside0 (w'.heap[gb174]? = some (.cells #[.int .i64 t169, .int .i64 t170, (.slice Ao32 t171.length co32)] 30 (0, 0))) ∧ Aside0 (w'.heap[gb180]? = some (.cells #[.int .i64 x181000_3, .int .i64 x181001_3, .int .i64 x181002_3, .string x181003_3] 54 (0, 0))) ∧ Aside0 (Below w.heap.size w w'))
     case atStart => exact ⟨(0), ((rd_T54 l0_2 0).f0), ((rd_T54 l0_2 0).f1), ((rd_T54 l0_2 0).f2), ((rd_T54 l0_2 0).f3), q2, H', ⟨Nat.le_refl _⟩, ⟨(by (with_reducible repeat (first | apply Kd.R_alloc | apply Kd.R_drewN | apply Kd.R_drew)); exact Kd.R_mono (Kd.R_far (p := ⟨gb180, 3, none⟩) (Kd.R_far (p := ⟨gb180, 2, none⟩) (Kd.R_far (p := ⟨gb180, 1, none⟩) (Kd.R_far (p := ⟨gb180, 0, none⟩) (Kd.R_mono HO_175002.out (fun k_ hk => (⟨hk, hk.2⟩ : _ ∧ k_ ≠ gb180))) (fun _ hk => hk.2) (.int .i64 ((rd_T54 l0_2 0).f0))) (fun _ hk => hk.2) (.int .i64 ((rd_T54 l0_2 0).f1))) (fun _ hk => hk.2) (.int .i64 ((rd_T54 l0_2 0).f2))) (fun _ hk => hk.2) (.string ((rd_T54 l0_2 0).f3))) (fun _ hk => hk.1.2))⟩, ⟨u5_18⟩, ⟨u5_19⟩, ⟨u5_20⟩, ⟨(by (with_reducible repeat (first | refine blk_drewN ?_ _ | refine blk_drew ?_ | refine blk_alloc ?_ _)); refine blk_put (cs := #[.int .i64 ((rd_T54 l0_2 0).f0), .int .i64 ((rd_T54 l0_2 0).f1), .int .i64 ((rd_T54 l0_2 0).f2), .string (⟨#[]⟩ : ByteArray)]) ?_ 3 _ rfl; (with_reducible repeat (first | refine blk_drewN ?_ _ | refine blk_drew ?_ | refine blk_alloc ?_ _)); refine blk_put (cs := #[.int .i64 ((rd_T54 l0_2 0).f0), .int .i64 ((rd_T54 l0_2 0).f1), .int .i64 0, .string (⟨#[]⟩ : ByteArray)]) ?_ 2 _ rfl; (with_reducible repeat (first | refine blk_drewN ?_ _ | refine blk_drew ?_ | refine blk_alloc ?_ _)); refine blk_put (cs := #[.int .i64 ((rd_T54 l0_2 0).f0), .int .i64 0, .int .i64 0, .string (⟨#[]⟩ : ByteArray)]) ?_ 1 _ rfl; (with_reducible repeat (first | refine blk_drewN ?_ _ | refine blk_drew ?_ | refine blk_alloc ?_ _)); refine blk_put (cs := #[.int .i64 0, .int .i64 0, .int .i64 0, .string (⟨#[]⟩ : ByteArray)]) ?_ 0 _ rfl; (with_reducible repeat (first | refine blk_drewN ?_ _ | refine blk_drew ?_ | refine blk_alloc ?_ _)); exact BK180.out)⟩, ⟨q1⟩⟩
     clear H'
     try clear c16
     try clear c44
     try clear c45
     try clear c45b0
     try clear c45b1
     try clear hcz10_0
     try clear hcz10_1
     try clear hcz10_2
     try clear hcz26_0
     try clear hcz26_1
     try clear hcz26_2
     try clear hcz31_0
     try clear hcz31_1
     try clear hcz31_2
     try clear hcz48_0
     try clear hcz48_1
     try clear hcz48_2
     try clear hcz53_0
     try clear hcz53_1
     try clear hcz53_2
     try clear hcz53_3
     try clear hfz10_0
     try clear hfz10_1
     try clear hfz10_2
     try clear hfz26_0
     try clear hfz26_1
     try clear hfz26_2
     try clear hfz31_0
     try clear hfz31_1
     try clear hfz31_2
     try clear hfz48_0
     try clear hfz48_1
     try clear hfz48_2
     try clear hfz53_0
     try clear hfz53_1
     try clear hfz53_2
     try clear hfz53_3
     try clear hx179_0
     try clear hx179_1
     try clear hx179_2
     try clear hx179_3
     try clear p179
     try clear q179
     obtain ⟨x14_3, x181000_3, x181001_3, x181002_3, x181003_3, rfl, HA, HK3, HO_175002, BK160, BK161, BK174, BK180, HB⟩ := hrel
     cases gk with
     | zero => exact absurd HA.out (by simp [spec_Keep.l0])
     | succ k3 =>
       have H := HA.out
       clear HA
       simp only [spec_Keep.l0] at H
       by_cases c54 : x14_3 < (l0_2.length : Int)
       · rw [if_pos c54] at H
         have c54b0 : decide (x14_3 < (l0_2.length : Int)) = true := decide_eq_true c54
         clear c54
         by_cases c55 : 0 ≤ x14_3
         rotate_left
         · rw [if_neg c55] at H
           exact absurd H (by simp)
         rw [if_pos c55] at H
         have c55b0 : decide (0 ≤ x14_3) = true := decide_eq_true c55
         clear c55
         have H9 := am H
         clear H
         have hnb56 := NB160_161.out
         have hnc56 := NB161_160.out
         have hnb57 := NB160_174.out
         have hnc57 := NB174_160.out
         have hnb58 := NB160_180.out
         have hnc58 := NB180_160.out
         obtain ⟨hcz59_0, hcz59_1, hcz59_2, hfz59_0, hfz59_1, hfz59_2⟩ := bc3f wr BK160.out
         have p181 : 0 ≤ (x14_3 : Int) := of_decide_eq_true q0
         have q181 : x14_3 < (l0_2.length : Int) := of_decide_eq_true q0
         obtain ⟨ad181, e181, hx181_0, hx181_1, hx181_2, hx181_3⟩ := at_T54 HR0_2.out x14_3 p181 q181
         obtain rfl : ad179 = ad181 := (by injection e181)
         replace hx181_0 := cm HB.out hx181_0
         replace hx181_1 := cm HB.out hx181_1
         replace hx181_2 := cm HB.out hx181_2
         replace hx181_3 := cm HB.out hx181_3
         replace p181 := eq_true p181
         replace q181 := eq_true q181
         have hnb60 := NB180_161.out
         have hnc60 := NB161_180.out
         have hnb61 := NB180_174.out
         have hnc61 := NB174_180.out
         obtain ⟨hcz62_0, hcz62_1, hcz62_2, hcz62_3, hfz62_0, hfz62_1, hfz62_2, hfz62_3⟩ := bc4f wr BK180.out
         go_upto_if 70 with (fail)
         repeat (go_quiet (fail); go_upto_if 70 with (fail))
         have H := H9.out
         clear H9
         by_cases c63 : ((rd_T54 l0_2 x14_3).f2) < x181002_3
         rotate_left
         · rw [if_neg c63] at H
           have c63b0 : decide (((rd_T54 l0_2 x14_3).f2) < x181002_3) = false := decide_eq_false c63
           clear c63
           (first | rw [c63b0] | (simp only [i64_w, i32_w]; rw [c63b0]) | skip)
           have H' := am H
           clear H
           go_wp2
           repeat (go_quiet (fail); try go_wp2)
           go_roundg k3
           case measure => have := HJ5.out; have := HJ23.out; have := HK3.out; omega
           case rel => exact ⟨(wrap64 (x14_3 + 1)), (x181000_3), (x181001_3), (x181002_3), (x181003_3), q2, H', ⟨(by have := HJ5.out; have := HJ23.out; have := HK3.out; omega)⟩, ⟨u5_23⟩, ⟨u5_1⟩, ⟨u5_3⟩, ⟨u5_17⟩, ⟨u5_24⟩, ⟨q1⟩⟩
         rw [if_pos c63] at H
         have c63b0 : decide (((rd_T54 l0_2 x14_3).f2) < x181002_3) = true := decide_eq_true c63
         clear c63
         (first | rw [c63b0] | (simp only [i64_w, i32_w]; rw [c63b0]) | skip)
         have H' := am H
         clear H
         have hnb64 := NB160_161.out
         have hnc64 := NB161_160.out
         have hnb65 := NB160_174.out
         have hnc65 := NB174_160.out
         have hnb66 := NB160_180.out
         have hnc66 := NB180_160.out
         obtain ⟨hcz67_0, hcz67_1, hcz67_2, hfz67_0, hfz67_1, hfz67_2⟩ := bc3f wr BK160.out
         have p182 : 0 ≤ (x14_3 : Int) := of_decide_eq_true q0
         have q182 : x14_3 < (l0_2.length : Int) := of_decide_eq_true q0
         obtain ⟨ad182, e182, hx182_0, hx182_1, hx182_2, hx182_3⟩ := at_T54 HR0_2.out x14_3 p182 q182
         obtain rfl : ad179 = ad182 := (by injection e182)
         replace hx182_0 := cm HB.out hx182_0
         replace hx182_1 := cm HB.out hx182_1
         replace hx182_2 := cm HB.out hx182_2
         replace hx182_3 := cm HB.out hx182_3
         replace p182 := eq_true p182
         replace q182 := eq_true q182
         have hnb68 := NB180_161.out
         have hnc68 := NB161_180.out
         have hnb69 := NB180_174.out
         have hnc69 := NB174_180.out
         obtain ⟨hcz70_0, hcz70_1, hcz70_2, hcz70_3, hfz70_0, hfz70_1, hfz70_2, hfz70_3⟩ := bc4f wr BK180.out
         go_wp2
         repeat (go_quiet (fail); try go_wp2)
         go_roundg k3
         case measure => have := HJ5.out; have := HJ23.out; have := HK3.out; omega
         case rel => exact ⟨(wrap64 (x14_3 + 1)), ((rd_T54 l0_2 x14_3).f0), ((rd_T54 l0_2 x14_3).f1), ((rd_T54 l0_2 x14_3).f2), ((rd_T54 l0_2 x14_3).f3), q2, H', ⟨(by have := HJ5.out; have := HJ23.out; have := HK3.out; omega)⟩, ⟨(by (with_reducible repeat (first | apply Kd.R_alloc | apply Kd.R_drewN | apply Kd.R_drew)); exact Kd.R_mono (Kd.R_far (p := ⟨gb180, 3, none⟩) (Kd.R_far (p := ⟨gb180, 2, none⟩) (Kd.R_far (p := ⟨gb180, 1, none⟩) (Kd.R_far (p := ⟨gb180, 0, none⟩) (Kd.R_mono HO_175002.out (fun k_ hk => (⟨hk, hk⟩ : _ ∧ k_ ≠ gb180))) (fun _ hk => hk.2) (.int .i64 ((rd_T54 l0_2 x14_3).f0))) (fun _ hk => hk.2) (.int .i64 ((rd_T54 l0_2 x14_3).f1))) (fun _ hk => hk.2) (.int .i64 ((rd_T54 l0_2 x14_3).f2))) (fun _ hk => hk.2) (.string ((rd_T54 l0_2 x14_3).f3))) (fun _ hk => hk.1))⟩, ⟨u5_18⟩, ⟨u5_19⟩, ⟨u5_20⟩, ⟨(by (with_reducible repeat (first | refine blk_drewN ?_ _ | refine blk_drew ?_ | refine blk_alloc ?_ _)); refine blk_put (cs := #[.int .i64 ((rd_T54 l0_2 x14_3).f0), .int .i64 ((rd_T54 l0_2 x14_3).f1), .int .i64 ((rd_T54 l0_2 x14_3).f2), .string x181003_3]) ?_ 3 _ rfl; (with_reducible repeat (first | refine blk_drewN ?_ _ | refine blk_drew ?_ | refine blk_alloc ?_ _)); refine blk_put (cs := #[.int .i64 ((rd_T54 l0_2 x14_3).f0), .int .i64 ((rd_T54 l0_2 x14_3).f1), .int .i64 x181002_3, .string x181003_3]) ?_ 2 _ rfl; (with_reducible repeat (first | refine blk_drewN ?_ _ | refine blk_drew ?_ | refine blk_alloc ?_ _)); refine blk_put (cs := #[.int .i64 ((rd_T54 l0_2 x14_3).f0), .int .i64 x181001_3, .int .i64 x181002_3, .string x181003_3]) ?_ 1 _ rfl; (with_reducible repeat (first | refine blk_drewN ?_ _ | refine blk_drew ?_ | refine blk_alloc ?_ _)); refine blk_put (cs := #[.int .i64 x181000_3, .int .i64 x181001_3, .int .i64 x181002_3, .string x181003_3]) ?_ 0 _ rfl; (with_reducible repeat (first | refine blk_drewN ?_ _ | refine blk_drew ?_ | refine blk_alloc ?_ _)); exact BK180.out)⟩, ⟨q1⟩⟩
       rw [if_neg c54] at H
       have c54b0 : decide (x14_3 < (l0_2.length : Int)) = false := decide_eq_false c54
       clear c54
       replace H := Option.bind_eq_some_iff.mp H
       obtain ⟨⟨t183, t184, t185⟩, A710, H⟩ := H
       (try dsimp only at H)
       have A71 := am A710
       clear A710
       replace H := Option.bind_eq_some_iff.mp H
       obtain ⟨⟨t188, t189, t190⟩, A720, H⟩ := H
       replace H : (some (t188, t189, t190, true)) = some (r1, r2, r3, r4) := H
       have A72 := am A720
       clear A720
       simp only [Option.some.injEq, Prod.mk.injEq] at H
       obtain ⟨rfl, rfl, rfl, rfl⟩ := H
       have hnb73 := NB160_161.out
       have hnc73 := NB161_160.out
       have hnb74 := NB160_174.out
       have hnc74 := NB174_160.out
       have hnb75 := NB160_180.out
       have hnc75 := NB180_160.out
       obtain ⟨hcz76_0, hcz76_1, hcz76_2, hfz76_0, hfz76_1, hfz76_2⟩ := bc3f wr BK160.out
       have hnb77 := NB174_161.out
       have hnc77 := NB161_174.out
       have hnb78 := NB174_180.out
       have hnc78 := NB180_174.out
       obtain ⟨hcz79_0, hcz79_1, hcz79_2, hfz79_0, hfz79_1, hfz79_2⟩ := bc3f wr BK174.out
       have hnb80 := NB180_161.out
       have hnc80 := NB161_180.out
       obtain ⟨hcz81_0, hcz81_1, hcz81_2, hcz81_3, hfz81_0, hfz81_1, hfz81_2, hfz81_3⟩ := bc4f wr BK180.out
       go_wp2_with (first | (first | (go_at_call 52; (with_reducible refine (spec_l09Put.calls k3 t169 t170 _ _ t171 x181000_3 0 0 0 (⟨#[]⟩ : ByteArray) t183 t184 t185 _ ?side1 ?side2 A71.out).mono ?_); (case side1 => exact u5_32); (case side2 => exact (Kd.R_reads' HO_175002.out).2.1); rintro e w82 ⟨v186, rfl, ho0, hb⟩; have HO187 := am (Kd.R_lower (Kd.R_newB (Kd.R_new' ho0 (Kd.R_lt u5_23)) (g := gb180) (o := .cells #[.int .i64 x181000_3, .int .i64 x181001_3, .int .i64 x181002_3, .string x181003_3] 54 (0, 0)) u5_24) (below_size q1)); replace HO_175002 := am (Kd.R_elder' u5_23 (Kd.R_base ho0) hb); replace BK160 := am (blk_below (g := gb160) (o := .cells #[.int .i64 a0_0, .int .i64 a0_1, .slice (some ad179) l0_2.length c0_2] 30 (0, 0)) u5_1 hb); replace BK161 := am (blk_below (g := gb161) (o := .cells #[.int .i64 0, .int .i64 0, .slice none 0 0] 30 (0, 0)) u5_3 hb); replace BK174 := am (blk_below (g := gb174) (o := .cells #[.int .i64 t169, .int .i64 t170, .slice Ao32 t171.length co32] 30 (0, 0)) u5_17 hb); replace BK180 := am (blk_below (g := gb180) (o := .cells #[.int .i64 x181000_3, .int .i64 x181001_3, .int .i64 x181002_3, .string x181003_3] 54 (0, 0)) u5_24 hb); replace HB := am (below_step q1 hb); (try clear hb); (try clear hb2); (try clear hk); (try clear hi); (try clear ho0); obtain ⟨hcz83_0, hcz83_1, hcz83_2, hfz83_0, hfz83_1, hfz83_2⟩ := bc3f w82 BK174.out; obtain ⟨Ao84, co84, eo84⟩ := Kd.R_slice HO187.out; subst eo84) | (go_at_call 52; (with_reducible refine (spec_l09Put.calls k3 t183 (wrap64 (t184 + 1)) _ _ t185 a1 a1 a2 (wrap64 (t184 + 1)) a3 t188 t189 t190 _ ?side1 ?side2 A72.out).mono ?_); (case side1 => exact u5_30); (case side2 => exact (Kd.R_reads' HO187.out).2.1); rintro e w85 ⟨v191, rfl, ho0, hb⟩; have HO192 := am (Kd.R_lower (Kd.R_newB (Kd.R_new' (Kd.R_new' ho0 (Kd.R_lt u5_10)) (Kd.R_lt u5_5)) (g := gb180) (o := .cells #[.int .i64 x181000_3, .int .i64 x181001_3, .int .i64 x181002_3, .string x181003_3] 54 (0, 0)) u5_7) (below_size q1)); replace HO_175002 := am (Kd.R_elder' u5_10 (Kd.R_base ho0) hb); replace HO187 := am (Kd.R_elder' u5_5 (Kd.R_base ho0) hb); replace BK160 := am (blk_below (g := gb160) (o := .cells #[.int .i64 a0_0, .int .i64 a0_1, .slice (some ad179) l0_2.length c0_2] 30 (0, 0)) u5_21 hb); replace BK161 := am (blk_below (g := gb161) (o := .cells #[.int .i64 0, .int .i64 0, .slice none 0 0] 30 (0, 0)) u5_22 hb); replace BK174 := am (blk_below (g := gb174) (o := .cells #[.int .i64 t183, .int .i64 (wrap64 (t184 + 1)), .slice Ao84 t185.length co84] 30 (0, 0)) u5_16 hb); replace BK180 := am (blk_below (g := gb180) (o := .cells #[.int .i64 x181000_3, .int .i64 x181001_3, .int .i64 x181002_3, .string x181003_3] 54 (0, 0)) u5_7 hb); replace HB := am (below_step q1 hb); (try clear hb); (try clear hb2); (try clear hk); (try clear hi); (try clear ho0); obtain ⟨hcz86_0, hcz86_1, hcz86_2, hfz86_0, hfz86_1, hfz86_2⟩ := bc3f w85 BK161.out; obtain ⟨Ao87, co87, eo87⟩ := Kd.R_slice HO192.out; subst eo87)) | go_quiet (first | (go_at_call 52; (with_reducible refine (spec_l09Put.calls k3 t169 t170 _ _ t171 x181000_3 0 0 0 (⟨#[]⟩ : ByteArray) t183 t184 t185 _ ?side1 ?side2 A71.out).mono ?_); (case side1 => exact u5_32); (case side2 => exact (Kd.R_reads' HO_175002.out).2.1); rintro e w82 ⟨v186, rfl, ho0, hb⟩; have HO187 := am (Kd.R_lower (Kd.R_newB (Kd.R_new' ho0 (Kd.R_lt u5_23)) (g := gb180) (o := .cells #[.int .i64 x181000_3, .int .i64 x181001_3, .int .i64 x181002_3, .string x181003_3] 54 (0, 0)) u5_24) (below_size q1)); replace HO_175002 := am (Kd.R_elder' u5_23 (Kd.R_base ho0) hb); replace BK160 := am (blk_below (g := gb160) (o := .cells #[.int .i64 a0_0, .int .i64 a0_1, .slice (some ad179) l0_2.length c0_2] 30 (0, 0)) u5_1 hb); replace BK161 := am (blk_below (g := gb161) (o := .cells #[.int .i64 0, .int .i64 0, .slice none 0 0] 30 (0, 0)) u5_3 hb); replace BK174 := am (blk_below (g := gb174) (o := .cells #[.int .i64 t169, .int .i64 t170, .slice Ao32 t171.length co32] 30 (0, 0)) u5_17 hb); replace BK180 := am (blk_below (g := gb180) (o := .cells #[.int .i64 x181000_3, .int .i64 x181001_3, .int .i64 x181002_3, .string x181003_3] 54 (0, 0)) u5_24 hb); replace HB := am (below_step q1 hb); (try clear hb); (try clear hb2); (try clear hk); (try clear hi); (try clear ho0); obtain ⟨hcz83_0, hcz83_1, hcz83_2, hfz83_0, hfz83_1, hfz83_2⟩ := bc3f w82 BK174.out; obtain ⟨Ao84, co84, eo84⟩ := Kd.R_slice HO187.out; subst eo84) | (go_at_call 52; (with_reducible refine (spec_l09Put.calls k3 t183 (wrap64 (t184 + 1)) _ _ t185 a1 a1 a2 (wrap64 (t184 + 1)) a3 t188 t189 t190 _ ?side1 ?side2 A72.out).mono ?_); (case side1 => exact u5_30); (case side2 => exact (Kd.R_reads' HO187.out).2.1); rintro e w85 ⟨v191, rfl, ho0, hb⟩; have HO192 := am (Kd.R_lower (Kd.R_newB (Kd.R_new' (Kd.R_new' ho0 (Kd.R_lt u5_10)) (Kd.R_lt u5_5)) (g := gb180) (o := .cells #[.int .i64 x181000_3, .int .i64 x181001_3, .int .i64 x181002_3, .string x181003_3] 54 (0, 0)) u5_7) (below_size q1)); replace HO_175002 := am (Kd.R_elder' u5_10 (Kd.R_base ho0) hb); replace HO187 := am (Kd.R_elder' u5_5 (Kd.R_base ho0) hb); replace BK160 := am (blk_below (g := gb160) (o := .cells #[.int .i64 a0_0, .int .i64 a0_1, .slice (some ad179) l0_2.length c0_2] 30 (0, 0)) u5_21 hb); replace BK161 := am (blk_below (g := gb161) (o := .cells #[.int .i64 0, .int .i64 0, .slice none 0 0] 30 (0, 0)) u5_22 hb); replace BK174 := am (blk_below (g := gb174) (o := .cells #[.int .i64 t183, .int .i64 (wrap64 (t184 + 1)), .slice Ao84 t185.length co84] 30 (0, 0)) u5_16 hb); replace BK180 := am (blk_below (g := gb180) (o := .cells #[.int .i64 x181000_3, .int .i64 x181001_3, .int .i64 x181002_3, .string x181003_3] 54 (0, 0)) u5_7 hb); replace HB := am (below_step q1 hb); (try clear hb); (try clear hb2); (try clear hk); (try clear hi); (try clear ho0); obtain ⟨hcz86_0, hcz86_1, hcz86_2, hfz86_0, hfz86_1, hfz86_2⟩ := bc3f w85 BK161.out; obtain ⟨Ao87, co87, eo87⟩ := Kd.R_slice HO192.out; subst eo87)))
       refine bodyPost_ret (results_ct rfl _ _ gb161 30 #[.int .i64 t188, .int .i64 t189, .slice Ao87 t190.length co87] (0, 0) _ rfl (by (with_reducible repeat (first | refine blk_drewN ?_ _ | refine blk_drew ?_ | refine blk_alloc ?_ _)); refine blk_put (cs := #[.int .i64 t188, .int .i64 t189, .slice none 0 0]) ?_ 2 _ rfl; (with_reducible repeat (first | refine blk_drewN ?_ _ | refine blk_drew ?_ | refine blk_alloc ?_ _)); refine blk_put (cs := #[.int .i64 t188, .int .i64 0, .slice none 0 0]) ?_ 1 _ rfl; (with_reducible repeat (first | refine blk_drewN ?_ _ | refine blk_drew ?_ | refine blk_alloc ?_ _)); refine blk_put (cs := #[.int .i64 0, .int .i64 0, .slice none 0 0]) ?_ 0 _ rfl; (with_reducible repeat (first | refine blk_drewN ?_ _ | refine blk_drew ?_ | refine blk_alloc ?_ _)); exact BK161.out) Tryd.underlying30 rfl kr) rfl ?_
       exact ⟨_, er, (by (with_reducible repeat (first | apply Kd.R_alloc | apply Kd.R_drewN | apply Kd.R_drew)); exact Kd.R_mono (Kd.R_far (p := ⟨gb161, 2, none⟩) (Kd.R_far (p := ⟨gb161, 1, none⟩) (Kd.R_far (p := ⟨gb161, 0, none⟩) (Kd.R_types HO192.out BK161.out (by decide)) (fun _ hk => hk.2) (.int .i64 t188)) (fun _ hk => hk.2) (.int .i64 t189)) (fun _ hk => hk.2) (.slice Ao87 t190.length co87)) (fun _ hk => trivial)), q1⟩

end Go.Proofs.YtjdpifafijcpbaaDoor.QFnExactOnceEach
