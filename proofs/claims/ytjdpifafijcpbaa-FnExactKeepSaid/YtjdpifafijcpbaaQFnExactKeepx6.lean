-- Printed by the session's own program wip/prx.py.
import Derived.Test.YtjdpifafijcpbaaQFnExactKeepx0
import Derived.Test.YtjdpifafijcpbaaQFnExactKeepx4
import Derived.Test.YtjdpifafijcpbaaQFnExactKeepx5
namespace Go.Proofs.Ytjdpifafijcpbaa.QFnExactKeep
open Go.RowKit Go.Proofs.YtjdpifafijcpbaaW.PrintWords Go.Proofs.YtjdpifafijcpbaaW.PrintLast Go.Proofs.YtjdpifafijcpbaaW.PrintMore
attribute [local go_sem] max2_int min2_int max_two min_two max_three min_three max_four min_four Go.Proofs.Ytjdpifafijcpbaa.Set.isSome_setCell   -- for this text's walks alone
set_option linter.unusedVariables false
set_option linter.unusedSimpArgs false

-- squeezed
theorem u6_0 {P : Prop} (h : P := by repeat (first | (with_reducible first | exact HB.out | apply below_alloc | apply pw_below_drewN | apply below_drew1 | refine below_set ?_ GE201.out | refine below_set ?_ GE202.out) | exact HB.out)) : P := h
theorem u6_1 {P : Prop} (h : P := by (with_reducible repeat (first | refine blk_drewN ?_ _ | refine blk_drew ?_ | refine blk_alloc ?_ _)); exact BK201.out) : P := h
theorem u6_2 {P : Prop} (h : P := by repeat (first | (with_reducible first | exact HB.out | apply below_alloc | apply pw_below_drewN | apply below_drew1 | refine below_set ?_ GE201.out | refine below_set ?_ GE202.out | refine below_set ?_ GE215.out) | exact HB.out)) : P := h
theorem u6_3 {P : Prop} (h : P := by (with_reducible repeat (first | refine blk_drewN ?_ _ | refine blk_drew ?_ | refine blk_alloc ?_ _)); exact BK202.out) : P := h
theorem u6_4 {P : Prop} (h : P := by repeat (first | (with_reducible first | exact HB.out | apply below_alloc | apply pw_below_drewN | apply below_drew1 | refine below_set ?_ GE201.out | refine below_set ?_ GE202.out | refine below_set ?_ GE215.out | refine below_set ?_ GE221.out) | exact HB.out)) : P := h
theorem u6_5 {P : Prop} (h : P := by (with_reducible repeat (first | apply Kd.R_alloc | apply Kd.R_drewN | apply Kd.R_drew)); exact (Kd.R_mono (Kd.R_far (p := ⟨gb215, 1, none⟩) (Kd.R_far (p := ⟨gb215, 2, none⟩) (Kd.R_far (p := ⟨gb215, 1, none⟩) (Kd.R_far (p := ⟨gb215, 0, none⟩) (Kd.R_types HO228.out BK215.out (by decide)) (fun _ hk => hk.2) (.int .i64 t224)) (fun _ hk => hk.2) (.int .i64 t225)) (fun _ hk => hk.2) (.slice Ao84 t226.length co84)) (fun _ hk => hk.2) (.int .i64 (wrap64 (t225 + 1)))) (fun _ h_ => h_.1))) : P := h
theorem u6_6 {P : Prop} (h : P := by (with_reducible repeat (first | refine blk_drewN ?_ _ | refine blk_drew ?_ | refine blk_alloc ?_ _)); refine blk_put (cs := #[.int .i64 t210, .int .i64 t211, .slice none 0 0]) ?_ 2 _ rfl; (with_reducible repeat (first | refine blk_drewN ?_ _ | refine blk_drew ?_ | refine blk_alloc ?_ _)); refine blk_put (cs := #[.int .i64 t210, .int .i64 0, .slice none 0 0]) ?_ 1 _ rfl; (with_reducible repeat (first | refine blk_drewN ?_ _ | refine blk_drew ?_ | refine blk_alloc ?_ _)); refine blk_put (cs := #[.int .i64 0, .int .i64 0, .slice none 0 0]) ?_ 0 _ rfl; (with_reducible repeat (first | refine blk_drewN ?_ _ | refine blk_drew ?_ | refine blk_alloc ?_ _)); exact BK215.out) : P := h
theorem u6_7 {P : Prop} (h : P := by (with_reducible repeat (first | refine blk_drewN ?_ _ | refine blk_drew ?_ | refine blk_alloc ?_ _)); refine blk_far ?_ NB221_215.out _; (with_reducible repeat (first | refine blk_drewN ?_ _ | refine blk_drew ?_ | refine blk_alloc ?_ _)); refine blk_far ?_ NB221_215.out _; (with_reducible repeat (first | refine blk_drewN ?_ _ | refine blk_drew ?_ | refine blk_alloc ?_ _)); refine blk_far ?_ NB221_215.out _; (with_reducible repeat (first | refine blk_drewN ?_ _ | refine blk_drew ?_ | refine blk_alloc ?_ _)); refine blk_far ?_ NB221_215.out _; (with_reducible repeat (first | refine blk_drewN ?_ _ | refine blk_drew ?_ | refine blk_alloc ?_ _)); exact BK221.out) : P := h
theorem u6_8 {P : Prop} (h : P := by (with_reducible repeat (first | refine blk_drewN ?_ _ | refine blk_drew ?_ | refine blk_alloc ?_ _)); refine blk_far ?_ NB201_215.out _; (with_reducible repeat (first | refine blk_drewN ?_ _ | refine blk_drew ?_ | refine blk_alloc ?_ _)); refine blk_far ?_ NB201_215.out _; (with_reducible repeat (first | refine blk_drewN ?_ _ | refine blk_drew ?_ | refine blk_alloc ?_ _)); refine blk_far ?_ NB201_215.out _; (with_reducible repeat (first | refine blk_drewN ?_ _ | refine blk_drew ?_ | refine blk_alloc ?_ _)); exact BK201.out) : P := h
theorem u6_9 {P : Prop} (h : P := by (with_reducible repeat (first | refine blk_drewN ?_ _ | refine blk_drew ?_ | refine blk_alloc ?_ _)); refine blk_far ?_ NB202_215.out _; (with_reducible repeat (first | refine blk_drewN ?_ _ | refine blk_drew ?_ | refine blk_alloc ?_ _)); refine blk_far ?_ NB202_215.out _; (with_reducible repeat (first | refine blk_drewN ?_ _ | refine blk_drew ?_ | refine blk_alloc ?_ _)); refine blk_far ?_ NB202_215.out _; (with_reducible repeat (first | refine blk_drewN ?_ _ | refine blk_drew ?_ | refine blk_alloc ?_ _)); exact BK202.out) : P := h
theorem u6_10 {P : Prop} (h : P := by (with_reducible repeat (first | apply Kd.R_alloc | apply Kd.R_drewN | apply Kd.R_drew)); exact (Kd.R_mono (Kd.R_far (p := ⟨gb215, 1, none⟩) (Kd.R_far (p := ⟨gb215, 2, none⟩) (Kd.R_far (p := ⟨gb215, 1, none⟩) (Kd.R_far (p := ⟨gb215, 0, none⟩) (Kd.R_types HO_216002.out BK215.out (by decide)) (fun _ hk => hk.2) (.int .i64 t224)) (fun _ hk => hk.2) (.int .i64 t225)) (fun _ hk => hk.2) (.slice Ao84 t226.length co84)) (fun _ hk => hk.2) (.int .i64 (wrap64 (t225 + 1)))) (fun _ h_ => h_.1))) : P := h
theorem u6_11 {P : Prop} (h : P := by repeat (first | (with_reducible first | exact HB.out | apply below_alloc | apply pw_below_drewN | apply below_drew1 | refine below_set ?_ GE201.out) | exact HB.out)) : P := h
theorem u6_12 {P : Prop} (h : P := by (with_reducible repeat (first | apply Kd.R_alloc | apply Kd.R_drewN | apply Kd.R_drew)); exact (Kd.R_mono (Kd.R_far (p := ⟨gb215, 1, none⟩) (Kd.R_types HO_216002.out BK215.out (by decide)) (fun _ hk => hk.2) (.int .i64 (wrap64 (t211 + 1)))) (fun _ h_ => h_.1))) : P := h
theorem u6_13 {P : Prop} (h : P := by repeat (first | exact (Kd.C_below HR0_2.out HB.out) | (with_reducible refine Kd.C_alloc ?_ _) | (with_reducible refine Kd.C_drewN ?_ _) | (with_reducible refine Kd.C_drew ?_))) : P := h
theorem u6_14 {P : Prop} (h : P := by (with_reducible repeat (first | apply Kd.R_alloc | apply Kd.R_drewN | apply Kd.R_drew)); exact (Kd.R_mono (Kd.R_far (p := ⟨gb215, 2, none⟩) (Kd.R_far (p := ⟨gb215, 1, none⟩) (Kd.R_far (p := ⟨gb215, 0, none⟩) (Kd.R_types HO214.out BK215.out (by decide)) (fun _ hk => hk.2) (.int .i64 t210)) (fun _ hk => hk.2) (.int .i64 t211)) (fun _ hk => hk.2) (.slice Ao32 t212.length co32)) (fun _ h_ => h_.1))) : P := h
theorem u6_15 {P : Prop} (h : P := by repeat (first | (with_reducible first | exact HB.out | apply below_alloc | apply pw_below_drewN | apply below_drew1) | exact HB.out)) : P := h
theorem u6_16 {P : Prop} (h : P := by (with_reducible repeat (first | refine blk_drewN ?_ _ | refine blk_drew ?_ | refine blk_alloc ?_ _)); refine blk_put (cs := #[.int .i64 t224, .int .i64 t225, .slice Ao84 t226.length co84]) ?_ 1 _ rfl; (with_reducible repeat (first | refine blk_drewN ?_ _ | refine blk_drew ?_ | refine blk_alloc ?_ _)); refine blk_put (cs := #[.int .i64 t224, .int .i64 t225, .slice Ao32 t212.length co32]) ?_ 2 _ rfl; (with_reducible repeat (first | refine blk_drewN ?_ _ | refine blk_drew ?_ | refine blk_alloc ?_ _)); refine blk_put (cs := #[.int .i64 t224, .int .i64 t211, .slice Ao32 t212.length co32]) ?_ 1 _ rfl; (with_reducible repeat (first | refine blk_drewN ?_ _ | refine blk_drew ?_ | refine blk_alloc ?_ _)); refine blk_put (cs := #[.int .i64 t210, .int .i64 t211, .slice Ao32 t212.length co32]) ?_ 0 _ rfl; (with_reducible repeat (first | refine blk_drewN ?_ _ | refine blk_drew ?_ | refine blk_alloc ?_ _)); exact BK215.out) : P := h
theorem u6_17 {P : Prop} (h : P := by (with_reducible repeat (first | refine blk_drewN ?_ _ | refine blk_drew ?_ | refine blk_alloc ?_ _)); exact BK215.out) : P := h
theorem u6_18 {P : Prop} (h : P := by (with_reducible repeat (first | refine blk_drewN ?_ _ | refine blk_drew ?_ | refine blk_alloc ?_ _)); refine blk_far ?_ NB201_221.out _; (with_reducible repeat (first | refine blk_drewN ?_ _ | refine blk_drew ?_ | refine blk_alloc ?_ _)); refine blk_far ?_ NB201_221.out _; (with_reducible repeat (first | refine blk_drewN ?_ _ | refine blk_drew ?_ | refine blk_alloc ?_ _)); refine blk_far ?_ NB201_221.out _; (with_reducible repeat (first | refine blk_drewN ?_ _ | refine blk_drew ?_ | refine blk_alloc ?_ _)); refine blk_far ?_ NB201_221.out _; (with_reducible repeat (first | refine blk_drewN ?_ _ | refine blk_drew ?_ | refine blk_alloc ?_ _)); exact BK201.out) : P := h
theorem u6_19 {P : Prop} (h : P := by (with_reducible repeat (first | refine blk_drewN ?_ _ | refine blk_drew ?_ | refine blk_alloc ?_ _)); refine blk_far ?_ NB202_221.out _; (with_reducible repeat (first | refine blk_drewN ?_ _ | refine blk_drew ?_ | refine blk_alloc ?_ _)); refine blk_far ?_ NB202_221.out _; (with_reducible repeat (first | refine blk_drewN ?_ _ | refine blk_drew ?_ | refine blk_alloc ?_ _)); refine blk_far ?_ NB202_221.out _; (with_reducible repeat (first | refine blk_drewN ?_ _ | refine blk_drew ?_ | refine blk_alloc ?_ _)); refine blk_far ?_ NB202_221.out _; (with_reducible repeat (first | refine blk_drewN ?_ _ | refine blk_drew ?_ | refine blk_alloc ?_ _)); exact BK202.out) : P := h
theorem u6_20 {P : Prop} (h : P := by (with_reducible repeat (first | refine blk_drewN ?_ _ | refine blk_drew ?_ | refine blk_alloc ?_ _)); refine blk_far ?_ NB215_221.out _; (with_reducible repeat (first | refine blk_drewN ?_ _ | refine blk_drew ?_ | refine blk_alloc ?_ _)); refine blk_far ?_ NB215_221.out _; (with_reducible repeat (first | refine blk_drewN ?_ _ | refine blk_drew ?_ | refine blk_alloc ?_ _)); refine blk_far ?_ NB215_221.out _; (with_reducible repeat (first | refine blk_drewN ?_ _ | refine blk_drew ?_ | refine blk_alloc ?_ _)); refine blk_far ?_ NB215_221.out _; (with_reducible repeat (first | refine blk_drewN ?_ _ | refine blk_drew ?_ | refine blk_alloc ?_ _)); exact BK215.out) : P := h
theorem u6_21 {P : Prop} (h : P := by (with_reducible repeat (first | refine blk_drewN ?_ _ | refine blk_drew ?_ | refine blk_alloc ?_ _)); refine blk_far ?_ NB201_215.out _; (with_reducible repeat (first | refine blk_drewN ?_ _ | refine blk_drew ?_ | refine blk_alloc ?_ _)); refine blk_far ?_ NB201_215.out _; (with_reducible repeat (first | refine blk_drewN ?_ _ | refine blk_drew ?_ | refine blk_alloc ?_ _)); refine blk_far ?_ NB201_215.out _; (with_reducible repeat (first | refine blk_drewN ?_ _ | refine blk_drew ?_ | refine blk_alloc ?_ _)); refine blk_far ?_ NB201_215.out _; (with_reducible repeat (first | refine blk_drewN ?_ _ | refine blk_drew ?_ | refine blk_alloc ?_ _)); exact BK201.out) : P := h
theorem u6_22 {P : Prop} (h : P := by (with_reducible repeat (first | refine blk_drewN ?_ _ | refine blk_drew ?_ | refine blk_alloc ?_ _)); refine blk_far ?_ NB202_215.out _; (with_reducible repeat (first | refine blk_drewN ?_ _ | refine blk_drew ?_ | refine blk_alloc ?_ _)); refine blk_far ?_ NB202_215.out _; (with_reducible repeat (first | refine blk_drewN ?_ _ | refine blk_drew ?_ | refine blk_alloc ?_ _)); refine blk_far ?_ NB202_215.out _; (with_reducible repeat (first | refine blk_drewN ?_ _ | refine blk_drew ?_ | refine blk_alloc ?_ _)); refine blk_far ?_ NB202_215.out _; (with_reducible repeat (first | refine blk_drewN ?_ _ | refine blk_drew ?_ | refine blk_alloc ?_ _)); exact BK202.out) : P := h
theorem u6_23 {P : Prop} (h : P := by (with_reducible repeat (first | apply Kd.R_alloc | apply Kd.R_drewN | apply Kd.R_drew)); exact HO_216002.out) : P := h
theorem u6_24 {P : Prop} (h : P := by (with_reducible repeat (first | refine blk_drewN ?_ _ | refine blk_drew ?_ | refine blk_alloc ?_ _)); exact BK221.out) : P := h
theorem u6_25 {P : Prop} (h : P := by (with_reducible repeat (first | apply Kd.R_alloc | apply Kd.R_drewN | apply Kd.R_drew)); exact HO214.out) : P := h
theorem u6_26 {P : Prop} (h : P := by (with_reducible repeat (first | refine blk_drewN ?_ _ | refine blk_drew ?_ | refine blk_alloc ?_ _)); refine blk_put (cs := #[.int .i64 t210, .int .i64 t211, .slice Ao32 t212.length co32]) ?_ 1 _ rfl; (with_reducible repeat (first | refine blk_drewN ?_ _ | refine blk_drew ?_ | refine blk_alloc ?_ _)); exact BK215.out) : P := h
theorem u6_27 {P : Prop} (h : P := by first | rfl | (simp; done) | (simp [*]; done)) : P := h
theorem u6_28 {P : Prop} (h : P := by (with_reducible repeat (first | refine blk_drewN ?_ _ | refine blk_drew ?_ | refine blk_alloc ?_ _)); refine blk_far ?_ NB201_215.out _; (with_reducible repeat (first | refine blk_drewN ?_ _ | refine blk_drew ?_ | refine blk_alloc ?_ _)); exact BK201.out) : P := h
theorem u6_29 {P : Prop} (h : P := by (with_reducible repeat (first | refine blk_drewN ?_ _ | refine blk_drew ?_ | refine blk_alloc ?_ _)); refine blk_far ?_ NB202_215.out _; (with_reducible repeat (first | refine blk_drewN ?_ _ | refine blk_drew ?_ | refine blk_alloc ?_ _)); exact BK202.out) : P := h
theorem u6_30 {P : Prop} (h : P := by refine (Kd.R_reads' (e := 45) (base := w.heap.size) (ok := fun k_ => ((True ∧ some k_ ≠ (.slice Ao32 t212.length co32 : Value).ownBlock) ∧ k_ ≠ gb221)) (n := t226.length) (c := co84) ?_).2.2; exact u6_5) : P := h
theorem u6_31 {P : Prop} (h : P := by first | (with_reducible assumption) | assumption) : P := h
theorem u6_32 {P : Prop} (h : P := by repeat (first | exact (Kd.R_reads' HO_216002.out).2.2 | (with_reducible refine Kd.C_alloc ?_ _) | (with_reducible refine Kd.C_drewN ?_ _) | (with_reducible refine Kd.C_drew ?_))) : P := h
theorem u6_33 {P : Prop} (h : P := by refine (Kd.R_reads' (e := 45) (base := w.heap.size) (ok := fun k_ => True) (n := t212.length) (c := co32) ?_).2.2; exact u6_12) : P := h
theorem u6_34 {P : Prop} (h : P := by exact Kd.C_below HR0_2.out u6_2) : P := h
/-! ### spec_Keep: function 18 -/
mutual
def spec_Keep.j0 : Nat → Int → Int → ByteArray → Bool → Int → Int → List (S45) → Option (Int × Int × (List (S45)) × Bool)
  | 0, _, _, _, _, _, _, _ => none
  | k + 1, x1, x2, x3, x33, x202000, x202001, x202002 => if x33 = true then ((spec_l09Copy.f k x202000 x202001 x202002).bind fun bt205 => (some (bt205.1, bt205.2.1, bt205.2.2, false))) else ((spec_l09Copy.f k x202000 x202001 x202002).bind fun bt210 => ((spec_l09Find.f k x202000 x202001 x202002 x1).bind fun bt216 => (if bt216.1 = 0 then (spec_Keep.j1 k x1 x2 x3 ((x202002.length : Int) == x202000) x202000 x202001 x202002 bt210.1 bt210.2.1 bt210.2.2) else (spec_Keep.j1 k x1 x2 x3 false x202000 x202001 x202002 bt210.1 bt210.2.1 bt210.2.2))))
def spec_Keep.j1 : Nat → Int → Int → ByteArray → Bool → Int → Int → List (S45) → Int → Int → List (S45) → Option (Int × Int × (List (S45)) × Bool)
  | 0, _, _, _, _, _, _, _, _, _, _ => none
  | k + 1, x1, x2, x3, x50, x202000, x202001, x202002, x216000, x216001, x216002 => if x50 = true then (if 0 < (x202002.length : Int) then (spec_Keep.l0 k x1 x2 x3 0 x202000 x202001 x202002 x216000 x216001 x216002 ((rd_T45 x202002 0).f0) ((rd_T45 x202002 0).f1) ((rd_T45 x202002 0).f2) ((rd_T45 x202002 0).f3)) else (none)) else ((spec_l09Put.f k x216000 (wrap64 (x216001 + 1)) x216002 x1 x1 x2 (wrap64 (x216001 + 1)) x3).bind fun bt234 => (some (bt234.1, bt234.2.1, bt234.2.2, true)))
def spec_Keep.l0 : Nat → Int → Int → ByteArray → Int → Int → Int → List (S45) → Int → Int → List (S45) → Int → Int → Int → ByteArray → Option (Int × Int × (List (S45)) × Bool)
  | 0, _, _, _, _, _, _, _, _, _, _, _, _, _, _ => none
  | k + 1, x1, x2, x3, x14, x202000, x202001, x202002, x216000, x216001, x216002, x222000, x222001, x222002, x222003 => if x14 < (x202002.length : Int) then (if 0 ≤ x14 then (if ((rd_T45 x202002 x14).f2) < x222002 then (spec_Keep.l0 k x1 x2 x3 (wrap64 (x14 + 1)) x202000 x202001 x202002 x216000 x216001 x216002 ((rd_T45 x202002 x14).f0) ((rd_T45 x202002 x14).f1) ((rd_T45 x202002 x14).f2) ((rd_T45 x202002 x14).f3)) else (spec_Keep.l0 k x1 x2 x3 (wrap64 (x14 + 1)) x202000 x202001 x202002 x216000 x216001 x216002 x222000 x222001 x222002 x222003)) else (none)) else ((spec_l09Put.f k x216000 x216001 x216002 x222000 0 0 0 (⟨#[]⟩ : ByteArray)).bind fun bt224 => ((spec_l09Put.f k bt224.1 (wrap64 (bt224.2.1 + 1)) bt224.2.2 x1 x1 x2 (wrap64 (bt224.2.1 + 1)) x3).bind fun bt229 => (some (bt229.1, bt229.2.1, bt229.2.2, true))))
end
def spec_Keep.f (k : Nat) (a0_0 : Int) (a0_1 : Int) (l0_2 : List (S45)) (a1 : Int) (a2 : Int) (a3 : ByteArray) : Option (Int × Int × (List (S45)) × Bool) := (spec_Look.f k a0_0 a0_1 l0_2 a1 a2).bind fun bt203 => (if bt203.1 = 0 then (if (a3.size : Int) > 40 then (spec_Keep.j0 k a1 a2 a3 true a0_0 a0_1 l0_2) else (spec_Keep.j0 k a1 a2 a3 (decide (a0_1 ≥ 1000000)) a0_0 a0_1 l0_2)) else (spec_Keep.j0 k a1 a2 a3 true a0_0 a0_1 l0_2))
theorem spec_Keep.mono_l : ∀ k, (∀ y0 y1 y2 y3 y4 y5 y6, LeO (spec_Keep.j0 k y0 y1 y2 y3 y4 y5 y6) (spec_Keep.j0 (k + 1) y0 y1 y2 y3 y4 y5 y6)) ∧ (∀ y0 y1 y2 y3 y4 y5 y6 y7 y8 y9, LeO (spec_Keep.j1 k y0 y1 y2 y3 y4 y5 y6 y7 y8 y9) (spec_Keep.j1 (k + 1) y0 y1 y2 y3 y4 y5 y6 y7 y8 y9)) ∧ (∀ y0 y1 y2 y3 y4 y5 y6 y7 y8 y9 y10 y11 y12 y13, LeO (spec_Keep.l0 k y0 y1 y2 y3 y4 y5 y6 y7 y8 y9 y10 y11 y12 y13) (spec_Keep.l0 (k + 1) y0 y1 y2 y3 y4 y5 y6 y7 y8 y9 y10 y11 y12 y13))
  | 0 => ⟨fun _ _ _ _ _ _ _ r h => by simp [spec_Keep.j0] at h, fun _ _ _ _ _ _ _ _ _ _ r h => by simp [spec_Keep.j1] at h, fun _ _ _ _ _ _ _ _ _ _ _ _ _ _ r h => by simp [spec_Keep.l0] at h⟩
  | k + 1 => by
    obtain ⟨ih0, ih1, ih2⟩ := spec_Keep.mono_l k
    refine ⟨?_, ?_, ?_⟩
    · intro y0 y1 y2 y3 y4 y5 y6
      unfold spec_Keep.j0
      repeat' first
      | (with_reducible exact ih0 _ _ _ _ _ _ _)
      | (with_reducible exact ih1 _ _ _ _ _ _ _ _ _ _)
      | (with_reducible exact ih2 _ _ _ _ _ _ _ _ _ _ _ _ _ _)
      | (with_reducible exact spec_Look.mono _ _ _ _ _ _)
      | (with_reducible exact spec_l09Copy.mono _ _ _ _)
      | (with_reducible exact spec_l09Find.mono _ _ _ _ _)
      | (with_reducible exact spec_l09Put.mono _ _ _ _ _ _ _ _ _)
      | (with_reducible exact LeO.refl _)
      | (with_reducible exact LeO.none _)
      | (with_reducible refine LeO.ite ?_ ?_)
      | (with_reducible refine LeO.bind ?_ (fun _ => ?_))
      | exact ih0 _ _ _ _ _ _ _
      | exact ih1 _ _ _ _ _ _ _ _ _ _
      | exact ih2 _ _ _ _ _ _ _ _ _ _ _ _ _ _
      | exact spec_Look.mono _ _ _ _ _ _
      | exact spec_l09Copy.mono _ _ _ _
      | exact spec_l09Find.mono _ _ _ _ _
      | exact spec_l09Put.mono _ _ _ _ _ _ _ _ _
      | exact LeO.none _
      | refine LeO.ite ?_ ?_
      | refine LeO.bind ?_ (fun _ => ?_)
    · intro y0 y1 y2 y3 y4 y5 y6 y7 y8 y9
      unfold spec_Keep.j1
      repeat' first
      | (with_reducible exact ih0 _ _ _ _ _ _ _)
      | (with_reducible exact ih1 _ _ _ _ _ _ _ _ _ _)
      | (with_reducible exact ih2 _ _ _ _ _ _ _ _ _ _ _ _ _ _)
      | (with_reducible exact spec_Look.mono _ _ _ _ _ _)
      | (with_reducible exact spec_l09Copy.mono _ _ _ _)
      | (with_reducible exact spec_l09Find.mono _ _ _ _ _)
      | (with_reducible exact spec_l09Put.mono _ _ _ _ _ _ _ _ _)
      | (with_reducible exact LeO.refl _)
      | (with_reducible exact LeO.none _)
      | (with_reducible refine LeO.ite ?_ ?_)
      | (with_reducible refine LeO.bind ?_ (fun _ => ?_))
      | exact ih0 _ _ _ _ _ _ _
      | exact ih1 _ _ _ _ _ _ _ _ _ _
      | exact ih2 _ _ _ _ _ _ _ _ _ _ _ _ _ _
      | exact spec_Look.mono _ _ _ _ _ _
      | exact spec_l09Copy.mono _ _ _ _
      | exact spec_l09Find.mono _ _ _ _ _
      | exact spec_l09Put.mono _ _ _ _ _ _ _ _ _
      | exact LeO.none _
      | refine LeO.ite ?_ ?_
      | refine LeO.bind ?_ (fun _ => ?_)
    · intro y0 y1 y2 y3 y4 y5 y6 y7 y8 y9 y10 y11 y12 y13
      unfold spec_Keep.l0
      repeat' first
      | (with_reducible exact ih0 _ _ _ _ _ _ _)
      | (with_reducible exact ih1 _ _ _ _ _ _ _ _ _ _)
      | (with_reducible exact ih2 _ _ _ _ _ _ _ _ _ _ _ _ _ _)
      | (with_reducible exact spec_Look.mono _ _ _ _ _ _)
      | (with_reducible exact spec_l09Copy.mono _ _ _ _)
      | (with_reducible exact spec_l09Find.mono _ _ _ _ _)
      | (with_reducible exact spec_l09Put.mono _ _ _ _ _ _ _ _ _)
      | (with_reducible exact LeO.refl _)
      | (with_reducible exact LeO.none _)
      | (with_reducible refine LeO.ite ?_ ?_)
      | (with_reducible refine LeO.bind ?_ (fun _ => ?_))
      | exact ih0 _ _ _ _ _ _ _
      | exact ih1 _ _ _ _ _ _ _ _ _ _
      | exact ih2 _ _ _ _ _ _ _ _ _ _ _ _ _ _
      | exact spec_Look.mono _ _ _ _ _ _
      | exact spec_l09Copy.mono _ _ _ _
      | exact spec_l09Find.mono _ _ _ _ _
      | exact spec_l09Put.mono _ _ _ _ _ _ _ _ _
      | exact LeO.none _
      | refine LeO.ite ?_ ?_
      | refine LeO.bind ?_ (fun _ => ?_)
theorem spec_Keep.mono : ∀ a0 a1 a2 a3 a4 a5 k, LeO (spec_Keep.f k a0 a1 a2 a3 a4 a5) (spec_Keep.f (k + 1) a0 a1 a2 a3 a4 a5) := by
  intro a0 a1 a2 a3 a4 a5 k
  obtain ⟨ih0, ih1, ih2⟩ := spec_Keep.mono_l k
  unfold spec_Keep.f
  repeat' first
      | (with_reducible exact ih0 _ _ _ _ _ _ _)
      | (with_reducible exact ih1 _ _ _ _ _ _ _ _ _ _)
      | (with_reducible exact ih2 _ _ _ _ _ _ _ _ _ _ _ _ _ _)
      | (with_reducible exact spec_Look.mono _ _ _ _ _ _)
      | (with_reducible exact spec_l09Copy.mono _ _ _ _)
      | (with_reducible exact spec_l09Find.mono _ _ _ _ _)
      | (with_reducible exact spec_l09Put.mono _ _ _ _ _ _ _ _ _)
      | (with_reducible exact LeO.refl _)
      | (with_reducible exact LeO.none _)
      | (with_reducible refine LeO.ite ?_ ?_)
      | (with_reducible refine LeO.bind ?_ (fun _ => ?_))
      | exact ih0 _ _ _ _ _ _ _
      | exact ih1 _ _ _ _ _ _ _ _ _ _
      | exact ih2 _ _ _ _ _ _ _ _ _ _ _ _ _ _
      | exact spec_Look.mono _ _ _ _ _ _
      | exact spec_l09Copy.mono _ _ _ _
      | exact spec_l09Find.mono _ _ _ _ _
      | exact spec_l09Put.mono _ _ _ _ _ _ _ _ _
      | exact LeO.none _
      | refine LeO.ite ?_ ?_
      | refine LeO.bind ?_ (fun _ => ?_)
set_option maxHeartbeats 8000000 in
set_option maxRecDepth 100000 in
theorem spec_Keep.calls (k : Nat) (a0_0 : Int) (a0_1 : Int) (A0_2 : Option Addr) (c0_2 : Nat) (l0_2 : List (S45)) (a1 : Int) (a2 : Int) (a3 : ByteArray) (r1 : Int) (r2 : Int) (r3 : List (S45)) (r4 : Bool) (w : World) (hr0_2 : Kd.C k45 w A0_2 l0_2.length l0_2) (hc0_2 : l0_2.length ≤ c0_2) (h : spec_Keep.f k a0_0 a0_1 l0_2 a1 a2 a3 = some (r1, r2, r3, r4)) :
    Calls Try.prog 18 #[.agg #[.int .i64 a0_0, .int .i64 a0_1, .slice A0_2 l0_2.length c0_2], .int .i64 a1, .int .i64 a2, .string a3] w fun e w' => ∃ v2_ : Value, e = .returned (.tuple #[.agg #[.int .i64 r1, .int .i64 r2, v2_], .bool r4]) ∧ Kd.R k45 45 w' w.heap.size (fun _ => True) v2_ r3 ∧ Below w.heap.size w w' := by
  have hu29 := Try.underlying29
  have hu45 := Try.underlying45
  have hfl45_0 : ∀ (q0_ q1_ q2_ q3_ : Value) (W : World), (Instr.field 45 (.agg #[q0_, q1_, q2_, q3_]) 0).run Try.prog W = .ok (q0_) W := fun q0_ q1_ q2_ q3_ W => by first | rfl | kernel_rfl
  have HR0_2 := Aside0.mk hr0_2
  have HC0_2 := Aside0.mk hc0_2
  clear hr0_2 hc0_2
  have HB := Aside0.mk (Below.refl w.heap.size w)
  have H : ((spec_Look.f k a0_0 a0_1 l0_2 a1 a2).bind fun bt203 => (if bt203.1 = 0 then (if (a3.size : Int) > 40 then (spec_Keep.j0 k a1 a2 a3 true a0_0 a0_1 l0_2) else (spec_Keep.j0 k a1 a2 a3 (decide (a0_1 ≥ 1000000)) a0_0 a0_1 l0_2)) else (spec_Keep.j0 k a1 a2 a3 true a0_0 a0_1 l0_2))) = some (r1, r2, r3, r4) := h
  clear h
  replace H := Option.bind_eq_some_iff.mp H
  obtain ⟨⟨t203, t204⟩, A50, H⟩ := H
  (try dsimp only at H)
  have A5 := Aside0.mk A50
  clear A50
  have HC6 := Aside0.mk H
  clear H
  go_enter Try.func18, Try.ntmps18
  go_upto_region 2 with (first | ((with_reducible refine gate_dst (N := 4) rfl ?_); (try (refine gate_guard (by rfl) ?_; dsimp only)); refine box_event ?hg (N := 4) ?hd (cs := #[.int .i64 a0_0, .int .i64 a0_1, .slice A0_2 l0_2.length c0_2]) (t := 29) ?hr ?_; (case hd => rfl); (case hg => rfl); (case hr => first | (go_simp; done) | (go_simp; rfl)); intro gb201 hg w7 hbox hb; have n0_ := Aside0.mk (below_step u6_15 hb); have n1_ := Aside0.mk (hbox); have n2_ := Aside0.mk ((by rw [hg]; exact (below_size u6_15) : w.heap.size ≤ gb201)); have n3_ := Aside0.mk ((by rw [hg]; exact (below_size u6_15) : w.heap.size ≤ gb201)); clear HB; have HB := n0_; have BK201 := n1_; have GW201 := n2_; have GE201 := n3_; clear n0_ n1_ n2_ n3_; clear hb hbox hg) | ((with_reducible refine gate_dst (N := 8) rfl ?_); (try (refine gate_guard (by rfl) ?_; dsimp only)); refine box_event ?hg (N := 8) ?hd (cs := #[.int .i64 0, .int .i64 0, .slice none 0 0]) (t := 29) ?hr ?_; (case hd => rfl); (case hg => rfl); (case hr => first | (go_simp; done) | (go_simp; rfl)); intro gb202 hg w8 hbox hb; have n0_ := Aside0.mk (blk_below (g := gb201) (o := .cells #[.int .i64 a0_0, .int .i64 a0_1, .slice A0_2 l0_2.length c0_2] 29 (0, 0)) u6_1 hb); have n1_ := Aside0.mk (below_step u6_11 hb); have n2_ := Aside0.mk (hbox); have n3_ := Aside0.mk ((by rw [hg]; exact (below_size u6_11) : w.heap.size ≤ gb202)); have n4_ := Aside0.mk ((by rw [hg]; exact (below_size u6_11) : w.heap.size ≤ gb202)); have n5_ := Aside0.mk ((by rw [hg]; exact Nat.ne_of_lt (blk_lt (g := gb201) (o := .cells #[.int .i64 a0_0, .int .i64 a0_1, .slice A0_2 l0_2.length c0_2] 29 (0, 0)) u6_1) : gb201 ≠ gb202)); have n6_ := Aside0.mk ((by rw [hg]; exact Nat.ne_of_gt (blk_lt (g := gb201) (o := .cells #[.int .i64 a0_0, .int .i64 a0_1, .slice A0_2 l0_2.length c0_2] 29 (0, 0)) u6_1) : gb202 ≠ gb201)); clear BK201; clear HB; have BK201 := n0_; have HB := n1_; have BK202 := n2_; have GW202 := n3_; have GE202 := n4_; have NB201_202 := n5_; have NB202_201 := n6_; clear n0_ n1_ n2_ n3_ n4_ n5_ n6_; clear hb hbox hg; have hnb9 := NB201_202.out; have hnc9 := NB202_201.out; have hcz10_0 : w8.cell? ⟨gb201, 0, none⟩ = some (.int .i64 a0_0) := (blk_cell BK201.out 0).trans rfl; have hcz10_1 : w8.cell? ⟨gb201, 1, none⟩ = some (.int .i64 a0_1) := (blk_cell BK201.out 1).trans rfl; have hcz10_2 : w8.cell? ⟨gb201, 2, none⟩ = some (.slice A0_2 l0_2.length c0_2) := (blk_cell BK201.out 2).trans rfl; have hfz10_0 := blk_frozen BK201.out 0; have hfz10_1 := blk_frozen BK201.out 1; have hfz10_2 := blk_frozen BK201.out 2) | (go_at_call 12; (with_reducible refine (spec_Look.calls k a0_0 a0_1 _ _ l0_2 a1 a2 t203 t204 _ ?side1 ?side2 A5.out).mono ?_); (case side1 => exact u6_13); (case side2 => exact HC0_2.out); rintro e w11 ⟨rfl, hb⟩; have n0_ := Aside0.mk (blk_below (g := gb201) (o := .cells #[.int .i64 a0_0, .int .i64 a0_1, .slice A0_2 l0_2.length c0_2] 29 (0, 0)) u6_1 hb); have n1_ := Aside0.mk (blk_below (g := gb202) (o := .cells #[.int .i64 0, .int .i64 0, .slice none 0 0] 29 (0, 0)) u6_3 hb); have n2_ := Aside0.mk (below_step u6_0 hb); clear BK201; clear BK202; clear HB; have BK201 := n0_; have BK202 := n1_; have HB := n2_; clear n0_ n1_ n2_; (try clear hb); (try clear hb2); (try clear hk); (try clear hi)))
  repeat (go_quiet (first | ((with_reducible refine gate_dst (N := 4) rfl ?_); (try (refine gate_guard (by rfl) ?_; dsimp only)); refine box_event ?hg (N := 4) ?hd (cs := #[.int .i64 a0_0, .int .i64 a0_1, .slice A0_2 l0_2.length c0_2]) (t := 29) ?hr ?_; (case hd => rfl); (case hg => rfl); (case hr => first | (go_simp; done) | (go_simp; rfl)); intro gb201 hg w7 hbox hb; have n0_ := Aside0.mk (below_step u6_15 hb); have n1_ := Aside0.mk (hbox); have n2_ := Aside0.mk ((by rw [hg]; exact (below_size u6_15) : w.heap.size ≤ gb201)); have n3_ := Aside0.mk ((by rw [hg]; exact (below_size u6_15) : w.heap.size ≤ gb201)); clear HB; have HB := n0_; have BK201 := n1_; have GW201 := n2_; have GE201 := n3_; clear n0_ n1_ n2_ n3_; clear hb hbox hg) | ((with_reducible refine gate_dst (N := 8) rfl ?_); (try (refine gate_guard (by rfl) ?_; dsimp only)); refine box_event ?hg (N := 8) ?hd (cs := #[.int .i64 0, .int .i64 0, .slice none 0 0]) (t := 29) ?hr ?_; (case hd => rfl); (case hg => rfl); (case hr => first | (go_simp; done) | (go_simp; rfl)); intro gb202 hg w8 hbox hb; have n0_ := Aside0.mk (blk_below (g := gb201) (o := .cells #[.int .i64 a0_0, .int .i64 a0_1, .slice A0_2 l0_2.length c0_2] 29 (0, 0)) u6_1 hb); have n1_ := Aside0.mk (below_step u6_11 hb); have n2_ := Aside0.mk (hbox); have n3_ := Aside0.mk ((by rw [hg]; exact (below_size u6_11) : w.heap.size ≤ gb202)); have n4_ := Aside0.mk ((by rw [hg]; exact (below_size u6_11) : w.heap.size ≤ gb202)); have n5_ := Aside0.mk ((by rw [hg]; exact Nat.ne_of_lt (blk_lt (g := gb201) (o := .cells #[.int .i64 a0_0, .int .i64 a0_1, .slice A0_2 l0_2.length c0_2] 29 (0, 0)) u6_1) : gb201 ≠ gb202)); have n6_ := Aside0.mk ((by rw [hg]; exact Nat.ne_of_gt (blk_lt (g := gb201) (o := .cells #[.int .i64 a0_0, .int .i64 a0_1, .slice A0_2 l0_2.length c0_2] 29 (0, 0)) u6_1) : gb202 ≠ gb201)); clear BK201; clear HB; have BK201 := n0_; have HB := n1_; have BK202 := n2_; have GW202 := n3_; have GE202 := n4_; have NB201_202 := n5_; have NB202_201 := n6_; clear n0_ n1_ n2_ n3_ n4_ n5_ n6_; clear hb hbox hg; have hnb9 := NB201_202.out; have hnc9 := NB202_201.out; have hcz10_0 : w8.cell? ⟨gb201, 0, none⟩ = some (.int .i64 a0_0) := (blk_cell BK201.out 0).trans rfl; have hcz10_1 : w8.cell? ⟨gb201, 1, none⟩ = some (.int .i64 a0_1) := (blk_cell BK201.out 1).trans rfl; have hcz10_2 : w8.cell? ⟨gb201, 2, none⟩ = some (.slice A0_2 l0_2.length c0_2) := (blk_cell BK201.out 2).trans rfl; have hfz10_0 := blk_frozen BK201.out 0; have hfz10_1 := blk_frozen BK201.out 1; have hfz10_2 := blk_frozen BK201.out 2) | (go_at_call 12; (with_reducible refine (spec_Look.calls k a0_0 a0_1 _ _ l0_2 a1 a2 t203 t204 _ ?side1 ?side2 A5.out).mono ?_); (case side1 => exact u6_13); (case side2 => exact HC0_2.out); rintro e w11 ⟨rfl, hb⟩; have n0_ := Aside0.mk (blk_below (g := gb201) (o := .cells #[.int .i64 a0_0, .int .i64 a0_1, .slice A0_2 l0_2.length c0_2] 29 (0, 0)) u6_1 hb); have n1_ := Aside0.mk (blk_below (g := gb202) (o := .cells #[.int .i64 0, .int .i64 0, .slice none 0 0] 29 (0, 0)) u6_3 hb); have n2_ := Aside0.mk (below_step u6_0 hb); clear BK201; clear BK202; clear HB; have BK201 := n0_; have BK202 := n1_; have HB := n2_; clear n0_ n1_ n2_; (try clear hb); (try clear hb2); (try clear hk); (try clear hi))); go_upto_region 2 with (first | ((with_reducible refine gate_dst (N := 4) rfl ?_); (try (refine gate_guard (by rfl) ?_; dsimp only)); refine box_event ?hg (N := 4) ?hd (cs := #[.int .i64 a0_0, .int .i64 a0_1, .slice A0_2 l0_2.length c0_2]) (t := 29) ?hr ?_; (case hd => rfl); (case hg => rfl); (case hr => first | (go_simp; done) | (go_simp; rfl)); intro gb201 hg w7 hbox hb; have n0_ := Aside0.mk (below_step u6_15 hb); have n1_ := Aside0.mk (hbox); have n2_ := Aside0.mk ((by rw [hg]; exact (below_size u6_15) : w.heap.size ≤ gb201)); have n3_ := Aside0.mk ((by rw [hg]; exact (below_size u6_15) : w.heap.size ≤ gb201)); clear HB; have HB := n0_; have BK201 := n1_; have GW201 := n2_; have GE201 := n3_; clear n0_ n1_ n2_ n3_; clear hb hbox hg) | ((with_reducible refine gate_dst (N := 8) rfl ?_); (try (refine gate_guard (by rfl) ?_; dsimp only)); refine box_event ?hg (N := 8) ?hd (cs := #[.int .i64 0, .int .i64 0, .slice none 0 0]) (t := 29) ?hr ?_; (case hd => rfl); (case hg => rfl); (case hr => first | (go_simp; done) | (go_simp; rfl)); intro gb202 hg w8 hbox hb; have n0_ := Aside0.mk (blk_below (g := gb201) (o := .cells #[.int .i64 a0_0, .int .i64 a0_1, .slice A0_2 l0_2.length c0_2] 29 (0, 0)) u6_1 hb); have n1_ := Aside0.mk (below_step u6_11 hb); have n2_ := Aside0.mk (hbox); have n3_ := Aside0.mk ((by rw [hg]; exact (below_size u6_11) : w.heap.size ≤ gb202)); have n4_ := Aside0.mk ((by rw [hg]; exact (below_size u6_11) : w.heap.size ≤ gb202)); have n5_ := Aside0.mk ((by rw [hg]; exact Nat.ne_of_lt (blk_lt (g := gb201) (o := .cells #[.int .i64 a0_0, .int .i64 a0_1, .slice A0_2 l0_2.length c0_2] 29 (0, 0)) u6_1) : gb201 ≠ gb202)); have n6_ := Aside0.mk ((by rw [hg]; exact Nat.ne_of_gt (blk_lt (g := gb201) (o := .cells #[.int .i64 a0_0, .int .i64 a0_1, .slice A0_2 l0_2.length c0_2] 29 (0, 0)) u6_1) : gb202 ≠ gb201)); clear BK201; clear HB; have BK201 := n0_; have HB := n1_; have BK202 := n2_; have GW202 := n3_; have GE202 := n4_; have NB201_202 := n5_; have NB202_201 := n6_; clear n0_ n1_ n2_ n3_ n4_ n5_ n6_; clear hb hbox hg; have hnb9 := NB201_202.out; have hnc9 := NB202_201.out; have hcz10_0 : w8.cell? ⟨gb201, 0, none⟩ = some (.int .i64 a0_0) := (blk_cell BK201.out 0).trans rfl; have hcz10_1 : w8.cell? ⟨gb201, 1, none⟩ = some (.int .i64 a0_1) := (blk_cell BK201.out 1).trans rfl; have hcz10_2 : w8.cell? ⟨gb201, 2, none⟩ = some (.slice A0_2 l0_2.length c0_2) := (blk_cell BK201.out 2).trans rfl; have hfz10_0 := blk_frozen BK201.out 0; have hfz10_1 := blk_frozen BK201.out 1; have hfz10_2 := blk_frozen BK201.out 2) | (go_at_call 12; (with_reducible refine (spec_Look.calls k a0_0 a0_1 _ _ l0_2 a1 a2 t203 t204 _ ?side1 ?side2 A5.out).mono ?_); (case side1 => exact u6_13); (case side2 => exact HC0_2.out); rintro e w11 ⟨rfl, hb⟩; have n0_ := Aside0.mk (blk_below (g := gb201) (o := .cells #[.int .i64 a0_0, .int .i64 a0_1, .slice A0_2 l0_2.length c0_2] 29 (0, 0)) u6_1 hb); have n1_ := Aside0.mk (blk_below (g := gb202) (o := .cells #[.int .i64 0, .int .i64 0, .slice none 0 0] 29 (0, 0)) u6_3 hb); have n2_ := Aside0.mk (below_step u6_0 hb); clear BK201; clear BK202; clear HB; have BK201 := n0_; have BK202 := n1_; have HB := n2_; clear n0_ n1_ n2_; (try clear hb); (try clear hb2); (try clear hk); (try clear hi))))
  (try simp only [Act.put, List.setIfInBounds_toArray, List.set_cons_zero, List.set_cons_succ])
  go_cut [33] (fun v33 wc => ∃ (kq : Nat) (x33_5 : Bool), v33 = .bool x33_5 ∧ Aside0 (spec_Keep.j0 kq a1 a2 a3 x33_5 a0_0 a0_1 l0_2 = some (r1, r2, r3, r4)) ∧ Aside0 (kq ≤ k) ∧ Aside0 (wc.heap[gb201]? = some (.cells #[.int .i64 a0_0, .int .i64 a0_1, (.slice A0_2 l0_2.length c0_2)] 29 (0, 0))) ∧ Aside0 (wc.heap[gb202]? = some (.cells #[.int .i64 0, .int .i64 0, (.slice none 0 0)] 29 (0, 0))) ∧ Aside0 (Below w.heap.size w wc))
  case first =>
    have H := HC6.out
    clear HC6
    by_cases c12 : t203 = 0
    rotate_left
    · rw [if_neg c12] at H
      have c12b0 : (t203 == 0) = false := beq_eq_false_iff_ne.mpr c12
      have c12b1 : (t203 != 0) = true := bne_iff_ne.mpr c12
      (first | rw [c12b0] | (simp only [i64_w, i32_w]; rw [c12b0]) | skip)
      have H' := Aside0.mk H
      clear H
      go_wp2
      repeat (go_quiet (fail); try go_wp2)
      go_meet
      case rel => exact ⟨_, (true), u6_27, H', ⟨by first | omega | exact Nat.le_refl _⟩, ⟨u6_1⟩, ⟨u6_3⟩, ⟨u6_0⟩⟩
    rw [if_pos c12] at H
    have c12b0 : (t203 == 0) = true := beq_iff_eq.mpr c12
    have c12b1 : (t203 != 0) = false := bne_eq_false_iff_eq.mpr c12
    clear c12
    (first | rw [c12b0] | (simp only [i64_w, i32_w]; rw [c12b0]) | skip)
    by_cases c13 : (a3.size : Int) > 40
    · rw [if_pos c13] at H
      have c13b0 : decide (40 < (a3.size : Int)) = true := decide_eq_true c13
      have c13b1 : decide (40 < a3.size) = true := decide_eq_true (by omega)
      clear c13
      have H' := Aside0.mk H
      clear H
      go_wp2
      repeat (go_quiet (fail); try go_wp2)
      go_meet
      case rel => exact ⟨_, (true), u6_27, H', ⟨by first | omega | exact Nat.le_refl _⟩, ⟨u6_1⟩, ⟨u6_3⟩, ⟨u6_0⟩⟩
    rw [if_neg c13] at H
    have c13b0 : decide (40 < (a3.size : Int)) = false := decide_eq_false c13
    have c13b1 : decide (40 < a3.size) = false := decide_eq_false (by omega)
    clear c13
    have H' := Aside0.mk H
    clear H
    have hnb14 := NB201_202.out
    have hnc14 := NB202_201.out
    have hcz15_0 : w11.cell? ⟨gb201, 0, none⟩ = some (.int .i64 a0_0) := (blk_cell BK201.out 0).trans rfl
    have hcz15_1 : w11.cell? ⟨gb201, 1, none⟩ = some (.int .i64 a0_1) := (blk_cell BK201.out 1).trans rfl
    have hcz15_2 : w11.cell? ⟨gb201, 2, none⟩ = some (.slice A0_2 l0_2.length c0_2) := (blk_cell BK201.out 2).trans rfl
    have hfz15_0 := blk_frozen BK201.out 0
    have hfz15_1 := blk_frozen BK201.out 1
    have hfz15_2 := blk_frozen BK201.out 2
    go_wp2
    repeat (go_quiet (fail); try go_wp2)
    go_meet
    case rel => exact ⟨_, (decide (a0_1 ≥ 1000000)), u6_27, H', ⟨by first | omega | exact Nat.le_refl _⟩, ⟨u6_1⟩, ⟨u6_3⟩, ⟨u6_0⟩⟩
  clear HC6
  try clear c1
  try clear p2
  try clear c9
  try clear c12
  try clear c12b0
  try clear c12b1
  try clear c13
  try clear c13b0
  try clear c13b1
  try clear c14
  try clear hcz10_0
  try clear hcz10_1
  try clear hcz10_2
  try clear hcz15_0
  try clear hcz15_1
  try clear hcz15_2
  try clear hfz10_0
  try clear hfz10_1
  try clear hfz10_2
  try clear hfz15_0
  try clear hfz15_1
  try clear hfz15_2
  obtain ⟨kq, x33_5, rfl, HA, HJ5, BK201, BK202, HB⟩ := hcut
  cases kq with
  | zero => exact absurd HA.out (by simp [spec_Keep.j0])
  | succ kj5 =>
    have H := HA.out
    clear HA
    simp only [spec_Keep.j0] at H
    by_cases c16 : x33_5 = true
    · subst c16
      rw [if_pos rfl] at H
      replace H := Option.bind_eq_some_iff.mp H
      obtain ⟨⟨t205, t206, t207⟩, A170, H⟩ := H
      replace H : (some (t205, t206, t207, false)) = some (r1, r2, r3, r4) := H
      have A17 := Aside0.mk A170
      clear A170
      simp only [Option.some.injEq, Prod.mk.injEq] at H
      obtain ⟨rfl, rfl, rfl, rfl⟩ := H
      have hnb18 := NB201_202.out
      have hnc18 := NB202_201.out
      have hcz19_0 : wc.cell? ⟨gb201, 0, none⟩ = some (.int .i64 a0_0) := (blk_cell BK201.out 0).trans rfl
      have hcz19_1 : wc.cell? ⟨gb201, 1, none⟩ = some (.int .i64 a0_1) := (blk_cell BK201.out 1).trans rfl
      have hcz19_2 : wc.cell? ⟨gb201, 2, none⟩ = some (.slice A0_2 l0_2.length c0_2) := (blk_cell BK201.out 2).trans rfl
      have hfz19_0 := blk_frozen BK201.out 0
      have hfz19_1 := blk_frozen BK201.out 1
      have hfz19_2 := blk_frozen BK201.out 2
      go_wp2_with (first | (first | (go_at_call 27; (with_reducible refine (spec_l09Copy.calls kj5 a0_0 a0_1 _ _ l0_2 t205 t206 t207 _ ?side1 ?side2 A17.out).mono ?_); (case side1 => exact u6_13); (case side2 => exact HC0_2.out); rintro e w20 ⟨v208, rfl, ho0, hb⟩; have n0_ := Aside0.mk (Kd.R_lower ho0 (below_size u6_0)); have n1_ := Aside0.mk (blk_below (g := gb201) (o := .cells #[.int .i64 a0_0, .int .i64 a0_1, .slice A0_2 l0_2.length c0_2] 29 (0, 0)) u6_1 hb); have n2_ := Aside0.mk (blk_below (g := gb202) (o := .cells #[.int .i64 0, .int .i64 0, .slice none 0 0] 29 (0, 0)) u6_3 hb); have n3_ := Aside0.mk (below_step u6_0 hb); clear BK201; clear BK202; clear HB; have HO209 := n0_; have BK201 := n1_; have BK202 := n2_; have HB := n3_; clear n0_ n1_ n2_ n3_; (try clear hb); (try clear hb2); (try clear hk); (try clear hi); (try clear ho0); have hcz21_0 : w20.cell? ⟨gb202, 0, none⟩ = some (.int .i64 0) := (blk_cell BK202.out 0).trans rfl; have hcz21_1 : w20.cell? ⟨gb202, 1, none⟩ = some (.int .i64 0) := (blk_cell BK202.out 1).trans rfl; have hcz21_2 : w20.cell? ⟨gb202, 2, none⟩ = some (.slice none 0 0) := (blk_cell BK202.out 2).trans rfl; have hfz21_0 := blk_frozen BK202.out 0; have hfz21_1 := blk_frozen BK202.out 1; have hfz21_2 := blk_frozen BK202.out 2; obtain ⟨Ao22, co22, eo22⟩ := Kd.R_slice HO209.out; subst eo22)) | go_quiet (first | (go_at_call 27; (with_reducible refine (spec_l09Copy.calls kj5 a0_0 a0_1 _ _ l0_2 t205 t206 t207 _ ?side1 ?side2 A17.out).mono ?_); (case side1 => exact u6_13); (case side2 => exact HC0_2.out); rintro e w20 ⟨v208, rfl, ho0, hb⟩; have n0_ := Aside0.mk (Kd.R_lower ho0 (below_size u6_0)); have n1_ := Aside0.mk (blk_below (g := gb201) (o := .cells #[.int .i64 a0_0, .int .i64 a0_1, .slice A0_2 l0_2.length c0_2] 29 (0, 0)) u6_1 hb); have n2_ := Aside0.mk (blk_below (g := gb202) (o := .cells #[.int .i64 0, .int .i64 0, .slice none 0 0] 29 (0, 0)) u6_3 hb); have n3_ := Aside0.mk (below_step u6_0 hb); clear BK201; clear BK202; clear HB; have HO209 := n0_; have BK201 := n1_; have BK202 := n2_; have HB := n3_; clear n0_ n1_ n2_ n3_; (try clear hb); (try clear hb2); (try clear hk); (try clear hi); (try clear ho0); have hcz21_0 : w20.cell? ⟨gb202, 0, none⟩ = some (.int .i64 0) := (blk_cell BK202.out 0).trans rfl; have hcz21_1 : w20.cell? ⟨gb202, 1, none⟩ = some (.int .i64 0) := (blk_cell BK202.out 1).trans rfl; have hcz21_2 : w20.cell? ⟨gb202, 2, none⟩ = some (.slice none 0 0) := (blk_cell BK202.out 2).trans rfl; have hfz21_0 := blk_frozen BK202.out 0; have hfz21_1 := blk_frozen BK202.out 1; have hfz21_2 := blk_frozen BK202.out 2; obtain ⟨Ao22, co22, eo22⟩ := Kd.R_slice HO209.out; subst eo22)))
      refine bodyPost_ret (results_ct rfl _ _ gb202 29 #[.int .i64 t205, .int .i64 t206, .slice Ao22 t207.length co22] (0, 0) _ rfl (by (with_reducible repeat (first | refine blk_drewN ?_ _ | refine blk_drew ?_ | refine blk_alloc ?_ _)); refine blk_put (cs := #[.int .i64 t205, .int .i64 t206, .slice none 0 0]) ?_ 2 _ rfl; (with_reducible repeat (first | refine blk_drewN ?_ _ | refine blk_drew ?_ | refine blk_alloc ?_ _)); refine blk_put (cs := #[.int .i64 t205, .int .i64 0, .slice none 0 0]) ?_ 1 _ rfl; (with_reducible repeat (first | refine blk_drewN ?_ _ | refine blk_drew ?_ | refine blk_alloc ?_ _)); refine blk_put (cs := #[.int .i64 0, .int .i64 0, .slice none 0 0]) ?_ 0 _ rfl; (with_reducible repeat (first | refine blk_drewN ?_ _ | refine blk_drew ?_ | refine blk_alloc ?_ _)); exact BK202.out) Try.underlying29 rfl (by kernel_rfl)) rfl ?_
      exact ⟨_, by first | rfl | (simp [errW_none, errW_some] <;> rfl) | (simp [*, errW_none, errW_some] <;> rfl), (by (with_reducible repeat (first | apply Kd.R_alloc | apply Kd.R_drewN | apply Kd.R_drew)); exact Kd.R_mono (Kd.R_far (p := ⟨gb202, 2, none⟩) (Kd.R_far (p := ⟨gb202, 1, none⟩) (Kd.R_far (p := ⟨gb202, 0, none⟩) (Kd.R_types HO209.out BK202.out (by decide)) (fun _ hk => hk.2) (.int .i64 t205)) (fun _ hk => hk.2) (.int .i64 t206)) (fun _ hk => hk.2) (.slice Ao22 t207.length co22)) (fun _ hk => trivial)), u6_0⟩
    replace c16 := Bool.eq_false_iff.mpr c16
    subst c16
    rw [if_neg (show ¬ (false = true) by decide)] at H
    replace H := Option.bind_eq_some_iff.mp H
    obtain ⟨⟨t210, t211, t212⟩, A230, H⟩ := H
    (try dsimp only at H)
    have A23 := Aside0.mk A230
    clear A230
    have HC24 := Aside0.mk H
    clear H
    have hnb25 := NB201_202.out
    have hnc25 := NB202_201.out
    have hcz26_0 : wc.cell? ⟨gb201, 0, none⟩ = some (.int .i64 a0_0) := (blk_cell BK201.out 0).trans rfl
    have hcz26_1 : wc.cell? ⟨gb201, 1, none⟩ = some (.int .i64 a0_1) := (blk_cell BK201.out 1).trans rfl
    have hcz26_2 : wc.cell? ⟨gb201, 2, none⟩ = some (.slice A0_2 l0_2.length c0_2) := (blk_cell BK201.out 2).trans rfl
    have hfz26_0 := blk_frozen BK201.out 0
    have hfz26_1 := blk_frozen BK201.out 1
    have hfz26_2 := blk_frozen BK201.out 2
    go_upto_region 5 with (first | (go_at_call 27; (with_reducible refine (spec_l09Copy.calls kj5 a0_0 a0_1 _ _ l0_2 t210 t211 t212 _ ?side1 ?side2 A23.out).mono ?_); (case side1 => exact u6_13); (case side2 => exact HC0_2.out); rintro e w27 ⟨v213, rfl, ho0, hb⟩; have n0_ := Aside0.mk (Kd.R_lower ho0 (below_size u6_0)); have n1_ := Aside0.mk (blk_below (g := gb201) (o := .cells #[.int .i64 a0_0, .int .i64 a0_1, .slice A0_2 l0_2.length c0_2] 29 (0, 0)) u6_1 hb); have n2_ := Aside0.mk (blk_below (g := gb202) (o := .cells #[.int .i64 0, .int .i64 0, .slice none 0 0] 29 (0, 0)) u6_3 hb); have n3_ := Aside0.mk (below_step u6_0 hb); clear BK201; clear BK202; clear HB; have HO214 := n0_; have BK201 := n1_; have BK202 := n2_; have HB := n3_; clear n0_ n1_ n2_ n3_; (try clear hb); (try clear hb2); (try clear hk); (try clear hi); (try clear ho0)) | ((with_reducible refine gate_dst (N := 12) rfl ?_); (try (refine gate_guard (by rfl) ?_; dsimp only)); refine box_event ?hg (N := 12) ?hd (cs := #[.int .i64 0, .int .i64 0, .slice none 0 0]) (t := 29) ?hr ?_; (case hd => rfl); (case hg => rfl); (case hr => first | (go_simp; done) | (go_simp; rfl)); intro gb215 hg w28 hbox hb; have n0_ := Aside0.mk (Kd.R_below u6_25 hb); have n1_ := Aside0.mk (blk_below (g := gb201) (o := .cells #[.int .i64 a0_0, .int .i64 a0_1, .slice A0_2 l0_2.length c0_2] 29 (0, 0)) u6_1 hb); have n2_ := Aside0.mk (blk_below (g := gb202) (o := .cells #[.int .i64 0, .int .i64 0, .slice none 0 0] 29 (0, 0)) u6_3 hb); have n3_ := Aside0.mk (below_step u6_0 hb); have n4_ := Aside0.mk (hbox); have n5_ := Aside0.mk ((by rw [hg]; exact (below_size u6_0) : w.heap.size ≤ gb215)); have n6_ := Aside0.mk ((by rw [hg]; exact (below_size u6_0) : w.heap.size ≤ gb215)); have n7_ := Aside0.mk ((by rw [hg]; exact Nat.ne_of_lt (blk_lt (g := gb201) (o := .cells #[.int .i64 a0_0, .int .i64 a0_1, .slice A0_2 l0_2.length c0_2] 29 (0, 0)) u6_1) : gb201 ≠ gb215)); have n8_ := Aside0.mk ((by rw [hg]; exact Nat.ne_of_gt (blk_lt (g := gb201) (o := .cells #[.int .i64 a0_0, .int .i64 a0_1, .slice A0_2 l0_2.length c0_2] 29 (0, 0)) u6_1) : gb215 ≠ gb201)); have n9_ := Aside0.mk ((by rw [hg]; exact Nat.ne_of_lt (blk_lt (g := gb202) (o := .cells #[.int .i64 0, .int .i64 0, .slice none 0 0] 29 (0, 0)) u6_3) : gb202 ≠ gb215)); have n10_ := Aside0.mk ((by rw [hg]; exact Nat.ne_of_gt (blk_lt (g := gb202) (o := .cells #[.int .i64 0, .int .i64 0, .slice none 0 0] 29 (0, 0)) u6_3) : gb215 ≠ gb202)); clear HO214; clear BK201; clear BK202; clear HB; have HO214 := n0_; have BK201 := n1_; have BK202 := n2_; have HB := n3_; have BK215 := n4_; have GW215 := n5_; have GE215 := n6_; have NB201_215 := n7_; have NB215_201 := n8_; have NB202_215 := n9_; have NB215_202 := n10_; clear n0_ n1_ n2_ n3_ n4_ n5_ n6_ n7_ n8_ n9_ n10_; clear hb hbox hg; have hnb29 := NB215_201.out; have hnc29 := NB201_215.out; have hnb30 := NB215_202.out; have hnc30 := NB202_215.out; have hcz31_0 : w28.cell? ⟨gb215, 0, none⟩ = some (.int .i64 0) := (blk_cell BK215.out 0).trans rfl; have hcz31_1 : w28.cell? ⟨gb215, 1, none⟩ = some (.int .i64 0) := (blk_cell BK215.out 1).trans rfl; have hcz31_2 : w28.cell? ⟨gb215, 2, none⟩ = some (.slice none 0 0) := (blk_cell BK215.out 2).trans rfl; have hfz31_0 := blk_frozen BK215.out 0; have hfz31_1 := blk_frozen BK215.out 1; have hfz31_2 := blk_frozen BK215.out 2; obtain ⟨Ao32, co32, eo32⟩ := Kd.R_slice HO214.out; subst eo32))
    repeat (go_quiet (first | (go_at_call 27; (with_reducible refine (spec_l09Copy.calls kj5 a0_0 a0_1 _ _ l0_2 t210 t211 t212 _ ?side1 ?side2 A23.out).mono ?_); (case side1 => exact u6_13); (case side2 => exact HC0_2.out); rintro e w27 ⟨v213, rfl, ho0, hb⟩; have n0_ := Aside0.mk (Kd.R_lower ho0 (below_size u6_0)); have n1_ := Aside0.mk (blk_below (g := gb201) (o := .cells #[.int .i64 a0_0, .int .i64 a0_1, .slice A0_2 l0_2.length c0_2] 29 (0, 0)) u6_1 hb); have n2_ := Aside0.mk (blk_below (g := gb202) (o := .cells #[.int .i64 0, .int .i64 0, .slice none 0 0] 29 (0, 0)) u6_3 hb); have n3_ := Aside0.mk (below_step u6_0 hb); clear BK201; clear BK202; clear HB; have HO214 := n0_; have BK201 := n1_; have BK202 := n2_; have HB := n3_; clear n0_ n1_ n2_ n3_; (try clear hb); (try clear hb2); (try clear hk); (try clear hi); (try clear ho0)) | ((with_reducible refine gate_dst (N := 12) rfl ?_); (try (refine gate_guard (by rfl) ?_; dsimp only)); refine box_event ?hg (N := 12) ?hd (cs := #[.int .i64 0, .int .i64 0, .slice none 0 0]) (t := 29) ?hr ?_; (case hd => rfl); (case hg => rfl); (case hr => first | (go_simp; done) | (go_simp; rfl)); intro gb215 hg w28 hbox hb; have n0_ := Aside0.mk (Kd.R_below u6_25 hb); have n1_ := Aside0.mk (blk_below (g := gb201) (o := .cells #[.int .i64 a0_0, .int .i64 a0_1, .slice A0_2 l0_2.length c0_2] 29 (0, 0)) u6_1 hb); have n2_ := Aside0.mk (blk_below (g := gb202) (o := .cells #[.int .i64 0, .int .i64 0, .slice none 0 0] 29 (0, 0)) u6_3 hb); have n3_ := Aside0.mk (below_step u6_0 hb); have n4_ := Aside0.mk (hbox); have n5_ := Aside0.mk ((by rw [hg]; exact (below_size u6_0) : w.heap.size ≤ gb215)); have n6_ := Aside0.mk ((by rw [hg]; exact (below_size u6_0) : w.heap.size ≤ gb215)); have n7_ := Aside0.mk ((by rw [hg]; exact Nat.ne_of_lt (blk_lt (g := gb201) (o := .cells #[.int .i64 a0_0, .int .i64 a0_1, .slice A0_2 l0_2.length c0_2] 29 (0, 0)) u6_1) : gb201 ≠ gb215)); have n8_ := Aside0.mk ((by rw [hg]; exact Nat.ne_of_gt (blk_lt (g := gb201) (o := .cells #[.int .i64 a0_0, .int .i64 a0_1, .slice A0_2 l0_2.length c0_2] 29 (0, 0)) u6_1) : gb215 ≠ gb201)); have n9_ := Aside0.mk ((by rw [hg]; exact Nat.ne_of_lt (blk_lt (g := gb202) (o := .cells #[.int .i64 0, .int .i64 0, .slice none 0 0] 29 (0, 0)) u6_3) : gb202 ≠ gb215)); have n10_ := Aside0.mk ((by rw [hg]; exact Nat.ne_of_gt (blk_lt (g := gb202) (o := .cells #[.int .i64 0, .int .i64 0, .slice none 0 0] 29 (0, 0)) u6_3) : gb215 ≠ gb202)); clear HO214; clear BK201; clear BK202; clear HB; have HO214 := n0_; have BK201 := n1_; have BK202 := n2_; have HB := n3_; have BK215 := n4_; have GW215 := n5_; have GE215 := n6_; have NB201_215 := n7_; have NB215_201 := n8_; have NB202_215 := n9_; have NB215_202 := n10_; clear n0_ n1_ n2_ n3_ n4_ n5_ n6_ n7_ n8_ n9_ n10_; clear hb hbox hg; have hnb29 := NB215_201.out; have hnc29 := NB201_215.out; have hnb30 := NB215_202.out; have hnc30 := NB202_215.out; have hcz31_0 : w28.cell? ⟨gb215, 0, none⟩ = some (.int .i64 0) := (blk_cell BK215.out 0).trans rfl; have hcz31_1 : w28.cell? ⟨gb215, 1, none⟩ = some (.int .i64 0) := (blk_cell BK215.out 1).trans rfl; have hcz31_2 : w28.cell? ⟨gb215, 2, none⟩ = some (.slice none 0 0) := (blk_cell BK215.out 2).trans rfl; have hfz31_0 := blk_frozen BK215.out 0; have hfz31_1 := blk_frozen BK215.out 1; have hfz31_2 := blk_frozen BK215.out 2; obtain ⟨Ao32, co32, eo32⟩ := Kd.R_slice HO214.out; subst eo32)); go_upto_region 5 with (first | (go_at_call 27; (with_reducible refine (spec_l09Copy.calls kj5 a0_0 a0_1 _ _ l0_2 t210 t211 t212 _ ?side1 ?side2 A23.out).mono ?_); (case side1 => exact u6_13); (case side2 => exact HC0_2.out); rintro e w27 ⟨v213, rfl, ho0, hb⟩; have n0_ := Aside0.mk (Kd.R_lower ho0 (below_size u6_0)); have n1_ := Aside0.mk (blk_below (g := gb201) (o := .cells #[.int .i64 a0_0, .int .i64 a0_1, .slice A0_2 l0_2.length c0_2] 29 (0, 0)) u6_1 hb); have n2_ := Aside0.mk (blk_below (g := gb202) (o := .cells #[.int .i64 0, .int .i64 0, .slice none 0 0] 29 (0, 0)) u6_3 hb); have n3_ := Aside0.mk (below_step u6_0 hb); clear BK201; clear BK202; clear HB; have HO214 := n0_; have BK201 := n1_; have BK202 := n2_; have HB := n3_; clear n0_ n1_ n2_ n3_; (try clear hb); (try clear hb2); (try clear hk); (try clear hi); (try clear ho0)) | ((with_reducible refine gate_dst (N := 12) rfl ?_); (try (refine gate_guard (by rfl) ?_; dsimp only)); refine box_event ?hg (N := 12) ?hd (cs := #[.int .i64 0, .int .i64 0, .slice none 0 0]) (t := 29) ?hr ?_; (case hd => rfl); (case hg => rfl); (case hr => first | (go_simp; done) | (go_simp; rfl)); intro gb215 hg w28 hbox hb; have n0_ := Aside0.mk (Kd.R_below u6_25 hb); have n1_ := Aside0.mk (blk_below (g := gb201) (o := .cells #[.int .i64 a0_0, .int .i64 a0_1, .slice A0_2 l0_2.length c0_2] 29 (0, 0)) u6_1 hb); have n2_ := Aside0.mk (blk_below (g := gb202) (o := .cells #[.int .i64 0, .int .i64 0, .slice none 0 0] 29 (0, 0)) u6_3 hb); have n3_ := Aside0.mk (below_step u6_0 hb); have n4_ := Aside0.mk (hbox); have n5_ := Aside0.mk ((by rw [hg]; exact (below_size u6_0) : w.heap.size ≤ gb215)); have n6_ := Aside0.mk ((by rw [hg]; exact (below_size u6_0) : w.heap.size ≤ gb215)); have n7_ := Aside0.mk ((by rw [hg]; exact Nat.ne_of_lt (blk_lt (g := gb201) (o := .cells #[.int .i64 a0_0, .int .i64 a0_1, .slice A0_2 l0_2.length c0_2] 29 (0, 0)) u6_1) : gb201 ≠ gb215)); have n8_ := Aside0.mk ((by rw [hg]; exact Nat.ne_of_gt (blk_lt (g := gb201) (o := .cells #[.int .i64 a0_0, .int .i64 a0_1, .slice A0_2 l0_2.length c0_2] 29 (0, 0)) u6_1) : gb215 ≠ gb201)); have n9_ := Aside0.mk ((by rw [hg]; exact Nat.ne_of_lt (blk_lt (g := gb202) (o := .cells #[.int .i64 0, .int .i64 0, .slice none 0 0] 29 (0, 0)) u6_3) : gb202 ≠ gb215)); have n10_ := Aside0.mk ((by rw [hg]; exact Nat.ne_of_gt (blk_lt (g := gb202) (o := .cells #[.int .i64 0, .int .i64 0, .slice none 0 0] 29 (0, 0)) u6_3) : gb215 ≠ gb202)); clear HO214; clear BK201; clear BK202; clear HB; have HO214 := n0_; have BK201 := n1_; have BK202 := n2_; have HB := n3_; have BK215 := n4_; have GW215 := n5_; have GE215 := n6_; have NB201_215 := n7_; have NB215_201 := n8_; have NB202_215 := n9_; have NB215_202 := n10_; clear n0_ n1_ n2_ n3_ n4_ n5_ n6_ n7_ n8_ n9_ n10_; clear hb hbox hg; have hnb29 := NB215_201.out; have hnc29 := NB201_215.out; have hnb30 := NB215_202.out; have hnc30 := NB202_215.out; have hcz31_0 : w28.cell? ⟨gb215, 0, none⟩ = some (.int .i64 0) := (blk_cell BK215.out 0).trans rfl; have hcz31_1 : w28.cell? ⟨gb215, 1, none⟩ = some (.int .i64 0) := (blk_cell BK215.out 1).trans rfl; have hcz31_2 : w28.cell? ⟨gb215, 2, none⟩ = some (.slice none 0 0) := (blk_cell BK215.out 2).trans rfl; have hfz31_0 := blk_frozen BK215.out 0; have hfz31_1 := blk_frozen BK215.out 1; have hfz31_2 := blk_frozen BK215.out 2; obtain ⟨Ao32, co32, eo32⟩ := Kd.R_slice HO214.out; subst eo32)))
    (try simp only [Act.put, List.setIfInBounds_toArray, List.set_cons_zero, List.set_cons_succ])
    go_cut [50] (fun v50 wc => ∃ (kq : Nat) (x50_23 : Bool), v50 = .bool x50_23 ∧ Aside0 (spec_Keep.j1 kq a1 a2 a3 x50_23 a0_0 a0_1 l0_2 t210 t211 t212 = some (r1, r2, r3, r4)) ∧ Aside0 (kq ≤ kj5) ∧ Aside0 (Kd.R k45 45 wc w.heap.size (fun _ => True) (.slice Ao32 t212.length co32) t212) ∧ Aside0 (wc.heap[gb201]? = some (.cells #[.int .i64 a0_0, .int .i64 a0_1, (.slice A0_2 l0_2.length c0_2)] 29 (0, 0))) ∧ Aside0 (wc.heap[gb202]? = some (.cells #[.int .i64 0, .int .i64 0, (.slice none 0 0)] 29 (0, 0))) ∧ Aside0 (wc.heap[gb215]? = some (.cells #[.int .i64 t210, .int .i64 t211, (.slice Ao32 t212.length co32)] 29 (0, 0))) ∧ Aside0 (Below w.heap.size w wc))
    case first =>
      have H := HC24.out
      clear HC24
      replace H := Option.bind_eq_some_iff.mp H
      obtain ⟨⟨t216, t217, t218, t219⟩, A330, H⟩ := H
      (try dsimp only at H)
      have A33 := Aside0.mk A330
      clear A330
      by_cases c34 : t216 = 0
      rotate_left
      · rw [if_neg c34] at H
        have c34b0 : (t216 == 0) = false := beq_eq_false_iff_ne.mpr c34
        have c34b1 : (t216 != 0) = true := bne_iff_ne.mpr c34
        (first | rw [c34b0] | (simp only [i64_w, i32_w]; rw [c34b0]) | skip)
        have H' := Aside0.mk H
        clear H
        have hnb40 := NB201_202.out
        have hnc40 := NB202_201.out
        have hnb41 := NB201_215.out
        have hnc41 := NB215_201.out
        have hcz42_0 : w28.cell? ⟨gb201, 0, none⟩ = some (.int .i64 a0_0) := (blk_cell BK201.out 0).trans rfl
        have hcz42_1 : w28.cell? ⟨gb201, 1, none⟩ = some (.int .i64 a0_1) := (blk_cell BK201.out 1).trans rfl
        have hcz42_2 : w28.cell? ⟨gb201, 2, none⟩ = some (.slice A0_2 l0_2.length c0_2) := (blk_cell BK201.out 2).trans rfl
        have hfz42_0 := blk_frozen BK201.out 0
        have hfz42_1 := blk_frozen BK201.out 1
        have hfz42_2 := blk_frozen BK201.out 2
        go_wp2_with (first | (first | (go_at_call 25; (with_reducible refine (spec_l09Find.calls kj5 a0_0 a0_1 _ _ l0_2 a1 t216 t217 t218 t219 _ ?side1 ?side2 A33.out).mono ?_); (case side1 => exact u6_34); (case side2 => exact HC0_2.out); rintro e w43 ⟨rfl, hb⟩; have n0_ := Aside0.mk (Kd.R_below u6_14 hb); have n1_ := Aside0.mk (blk_below (g := gb201) (o := .cells #[.int .i64 a0_0, .int .i64 a0_1, .slice A0_2 l0_2.length c0_2] 29 (0, 0)) u6_8 hb); have n2_ := Aside0.mk (blk_below (g := gb202) (o := .cells #[.int .i64 0, .int .i64 0, .slice none 0 0] 29 (0, 0)) u6_9 hb); have n3_ := Aside0.mk (blk_below (g := gb215) (o := .cells #[.int .i64 t210, .int .i64 t211, .slice Ao32 t212.length co32] 29 (0, 0)) u6_6 hb); have n4_ := Aside0.mk (below_step u6_2 hb); clear HO214; clear BK201; clear BK202; clear BK215; clear HB; have HO214 := n0_; have BK201 := n1_; have BK202 := n2_; have BK215 := n3_; have HB := n4_; clear n0_ n1_ n2_ n3_ n4_; (try clear hb); (try clear hb2); (try clear hk); (try clear hi))) | go_quiet (first | (go_at_call 25; (with_reducible refine (spec_l09Find.calls kj5 a0_0 a0_1 _ _ l0_2 a1 t216 t217 t218 t219 _ ?side1 ?side2 A33.out).mono ?_); (case side1 => exact u6_34); (case side2 => exact HC0_2.out); rintro e w43 ⟨rfl, hb⟩; have n0_ := Aside0.mk (Kd.R_below u6_14 hb); have n1_ := Aside0.mk (blk_below (g := gb201) (o := .cells #[.int .i64 a0_0, .int .i64 a0_1, .slice A0_2 l0_2.length c0_2] 29 (0, 0)) u6_8 hb); have n2_ := Aside0.mk (blk_below (g := gb202) (o := .cells #[.int .i64 0, .int .i64 0, .slice none 0 0] 29 (0, 0)) u6_9 hb); have n3_ := Aside0.mk (blk_below (g := gb215) (o := .cells #[.int .i64 t210, .int .i64 t211, .slice Ao32 t212.length co32] 29 (0, 0)) u6_6 hb); have n4_ := Aside0.mk (below_step u6_2 hb); clear HO214; clear BK201; clear BK202; clear BK215; clear HB; have HO214 := n0_; have BK201 := n1_; have BK202 := n2_; have BK215 := n3_; have HB := n4_; clear n0_ n1_ n2_ n3_ n4_; (try clear hb); (try clear hb2); (try clear hk); (try clear hi))))
        go_meet
        case rel => exact ⟨_, (false), u6_27, H', ⟨(by have := HJ5.out; first | omega | exact Nat.le_refl _)⟩, ⟨u6_25⟩, ⟨u6_1⟩, ⟨u6_3⟩, ⟨u6_17⟩, ⟨u6_2⟩⟩
      rw [if_pos c34] at H
      have c34b0 : (t216 == 0) = true := beq_iff_eq.mpr c34
      have c34b1 : (t216 != 0) = false := bne_eq_false_iff_eq.mpr c34
      clear c34
      (first | rw [c34b0] | (simp only [i64_w, i32_w]; rw [c34b0]) | skip)
      have H' := Aside0.mk H
      clear H
      have hnb35 := NB201_202.out
      have hnc35 := NB202_201.out
      have hnb36 := NB201_215.out
      have hnc36 := NB215_201.out
      have hcz37_0 : w28.cell? ⟨gb201, 0, none⟩ = some (.int .i64 a0_0) := (blk_cell BK201.out 0).trans rfl
      have hcz37_1 : w28.cell? ⟨gb201, 1, none⟩ = some (.int .i64 a0_1) := (blk_cell BK201.out 1).trans rfl
      have hcz37_2 : w28.cell? ⟨gb201, 2, none⟩ = some (.slice A0_2 l0_2.length c0_2) := (blk_cell BK201.out 2).trans rfl
      have hfz37_0 := blk_frozen BK201.out 0
      have hfz37_1 := blk_frozen BK201.out 1
      have hfz37_2 := blk_frozen BK201.out 2
      go_wp2_with (first | (first | (go_at_call 25; (with_reducible refine (spec_l09Find.calls kj5 a0_0 a0_1 _ _ l0_2 a1 t216 t217 t218 t219 _ ?side1 ?side2 A33.out).mono ?_); (case side1 => exact u6_34); (case side2 => exact HC0_2.out); rintro e w38 ⟨rfl, hb⟩; have n0_ := Aside0.mk (Kd.R_below u6_14 hb); have n1_ := Aside0.mk (blk_below (g := gb201) (o := .cells #[.int .i64 a0_0, .int .i64 a0_1, .slice A0_2 l0_2.length c0_2] 29 (0, 0)) u6_8 hb); have n2_ := Aside0.mk (blk_below (g := gb202) (o := .cells #[.int .i64 0, .int .i64 0, .slice none 0 0] 29 (0, 0)) u6_9 hb); have n3_ := Aside0.mk (blk_below (g := gb215) (o := .cells #[.int .i64 t210, .int .i64 t211, .slice Ao32 t212.length co32] 29 (0, 0)) u6_6 hb); have n4_ := Aside0.mk (below_step u6_2 hb); clear HO214; clear BK201; clear BK202; clear BK215; clear HB; have HO214 := n0_; have BK201 := n1_; have BK202 := n2_; have BK215 := n3_; have HB := n4_; clear n0_ n1_ n2_ n3_ n4_; (try clear hb); (try clear hb2); (try clear hk); (try clear hi); have hcz39_0 : w38.cell? ⟨gb201, 0, none⟩ = some (.int .i64 a0_0) := (blk_cell BK201.out 0).trans rfl; have hcz39_1 : w38.cell? ⟨gb201, 1, none⟩ = some (.int .i64 a0_1) := (blk_cell BK201.out 1).trans rfl; have hcz39_2 : w38.cell? ⟨gb201, 2, none⟩ = some (.slice A0_2 l0_2.length c0_2) := (blk_cell BK201.out 2).trans rfl; have hfz39_0 := blk_frozen BK201.out 0; have hfz39_1 := blk_frozen BK201.out 1; have hfz39_2 := blk_frozen BK201.out 2)) | go_quiet (first | (go_at_call 25; (with_reducible refine (spec_l09Find.calls kj5 a0_0 a0_1 _ _ l0_2 a1 t216 t217 t218 t219 _ ?side1 ?side2 A33.out).mono ?_); (case side1 => exact u6_34); (case side2 => exact HC0_2.out); rintro e w38 ⟨rfl, hb⟩; have n0_ := Aside0.mk (Kd.R_below u6_14 hb); have n1_ := Aside0.mk (blk_below (g := gb201) (o := .cells #[.int .i64 a0_0, .int .i64 a0_1, .slice A0_2 l0_2.length c0_2] 29 (0, 0)) u6_8 hb); have n2_ := Aside0.mk (blk_below (g := gb202) (o := .cells #[.int .i64 0, .int .i64 0, .slice none 0 0] 29 (0, 0)) u6_9 hb); have n3_ := Aside0.mk (blk_below (g := gb215) (o := .cells #[.int .i64 t210, .int .i64 t211, .slice Ao32 t212.length co32] 29 (0, 0)) u6_6 hb); have n4_ := Aside0.mk (below_step u6_2 hb); clear HO214; clear BK201; clear BK202; clear BK215; clear HB; have HO214 := n0_; have BK201 := n1_; have BK202 := n2_; have BK215 := n3_; have HB := n4_; clear n0_ n1_ n2_ n3_ n4_; (try clear hb); (try clear hb2); (try clear hk); (try clear hi); have hcz39_0 : w38.cell? ⟨gb201, 0, none⟩ = some (.int .i64 a0_0) := (blk_cell BK201.out 0).trans rfl; have hcz39_1 : w38.cell? ⟨gb201, 1, none⟩ = some (.int .i64 a0_1) := (blk_cell BK201.out 1).trans rfl; have hcz39_2 : w38.cell? ⟨gb201, 2, none⟩ = some (.slice A0_2 l0_2.length c0_2) := (blk_cell BK201.out 2).trans rfl; have hfz39_0 := blk_frozen BK201.out 0; have hfz39_1 := blk_frozen BK201.out 1; have hfz39_2 := blk_frozen BK201.out 2)))
      go_meet
      case rel => exact ⟨_, (((l0_2.length : Int) == a0_0)), u6_27, H', ⟨(by have := HJ5.out; first | omega | exact Nat.le_refl _)⟩, ⟨u6_25⟩, ⟨u6_1⟩, ⟨u6_3⟩, ⟨u6_17⟩, ⟨u6_2⟩⟩
    clear HC24
    try clear c1
    try clear c2
    try clear p2
    try clear c3
    try clear c4
    try clear c9
    try clear c12
    try clear c12b0
    try clear c12b1
    try clear c13
    try clear c13b0
    try clear c13b1
    try clear c14
    try clear c16
    try clear c18
    try clear c25
    try clear c29
    try clear c30
    try clear c34
    try clear c34b0
    try clear c34b1
    try clear c35
    try clear c36
    try clear c40
    try clear c41
    try clear hcz10_0
    try clear hcz10_1
    try clear hcz10_2
    try clear hcz15_0
    try clear hcz15_1
    try clear hcz15_2
    try clear hcz19_0
    try clear hcz19_1
    try clear hcz19_2
    try clear hcz21_0
    try clear hcz21_1
    try clear hcz21_2
    try clear hcz26_0
    try clear hcz26_1
    try clear hcz26_2
    try clear hcz31_0
    try clear hcz31_1
    try clear hcz31_2
    try clear hcz37_0
    try clear hcz37_1
    try clear hcz37_2
    try clear hcz39_0
    try clear hcz39_1
    try clear hcz39_2
    try clear hcz42_0
    try clear hcz42_1
    try clear hcz42_2
    try clear hfz10_0
    try clear hfz10_1
    try clear hfz10_2
    try clear hfz15_0
    try clear hfz15_1
    try clear hfz15_2
    try clear hfz19_0
    try clear hfz19_1
    try clear hfz19_2
    try clear hfz21_0
    try clear hfz21_1
    try clear hfz21_2
    try clear hfz26_0
    try clear hfz26_1
    try clear hfz26_2
    try clear hfz31_0
    try clear hfz31_1
    try clear hfz31_2
    try clear hfz37_0
    try clear hfz37_1
    try clear hfz37_2
    try clear hfz39_0
    try clear hfz39_1
    try clear hfz39_2
    try clear hfz42_0
    try clear hfz42_1
    try clear hfz42_2
    try clear p2
    obtain ⟨kq, x50_23, rfl, HA, HJ23, HO_216002, BK201, BK202, BK215, HB⟩ := hcut
    cases kq with
    | zero => exact absurd HA.out (by simp [spec_Keep.j1])
    | succ kj23 =>
      have H := HA.out
      clear HA
      simp only [spec_Keep.j1] at H
      by_cases c44 : x50_23 = true
      rotate_left
      · replace c44 := Bool.eq_false_iff.mpr c44
        subst c44
        rw [if_neg (show ¬ (false = true) by decide)] at H
        replace H := Option.bind_eq_some_iff.mp H
        obtain ⟨⟨t234, t235, t236⟩, A880, H⟩ := H
        replace H : (some (t234, t235, t236, true)) = some (r1, r2, r3, r4) := H
        have A88 := Aside0.mk A880
        clear A880
        simp only [Option.some.injEq, Prod.mk.injEq] at H
        obtain ⟨rfl, rfl, rfl, rfl⟩ := H
        have hnb89 := NB215_201.out
        have hnc89 := NB201_215.out
        have hnb90 := NB215_202.out
        have hnc90 := NB202_215.out
        have hcz91_0 : wc.cell? ⟨gb215, 0, none⟩ = some (.int .i64 t210) := (blk_cell BK215.out 0).trans rfl
        have hcz91_1 : wc.cell? ⟨gb215, 1, none⟩ = some (.int .i64 t211) := (blk_cell BK215.out 1).trans rfl
        have hcz91_2 : wc.cell? ⟨gb215, 2, none⟩ = some (.slice Ao32 t212.length co32) := (blk_cell BK215.out 2).trans rfl
        have hfz91_0 := blk_frozen BK215.out 0
        have hfz91_1 := blk_frozen BK215.out 1
        have hfz91_2 := blk_frozen BK215.out 2
        go_wp2_with (first | (first | (go_at_call 28; (with_reducible refine (spec_l09Put.calls kj23 t210 (wrap64 (t211 + 1)) _ _ t212 a1 a1 a2 (wrap64 (t211 + 1)) a3 t234 t235 t236 _ ?side1 ?side2 A88.out).mono ?_); (case side1 => exact u6_33); (case side2 => exact (Kd.R_reads' HO_216002.out).2.1); rintro e w92 ⟨v237, rfl, ho0, hb⟩; have n0_ := Aside0.mk (Kd.R_elder' u6_12 (Kd.R_base ho0) hb); have n1_ := Aside0.mk (Kd.R_lower (Kd.R_new' ho0 (Kd.R_lt u6_12)) (below_size u6_2)); have n2_ := Aside0.mk (blk_below (g := gb201) (o := .cells #[.int .i64 a0_0, .int .i64 a0_1, .slice A0_2 l0_2.length c0_2] 29 (0, 0)) u6_28 hb); have n3_ := Aside0.mk (blk_below (g := gb202) (o := .cells #[.int .i64 0, .int .i64 0, .slice none 0 0] 29 (0, 0)) u6_29 hb); have n4_ := Aside0.mk (blk_below (g := gb215) (o := .cells #[.int .i64 t210, .int .i64 (wrap64 (t211 + 1)), .slice Ao32 t212.length co32] 29 (0, 0)) u6_26 hb); have n5_ := Aside0.mk (below_step u6_2 hb); clear HO_216002; clear BK201; clear BK202; clear BK215; clear HB; have HO_216002 := n0_; have HO238 := n1_; have BK201 := n2_; have BK202 := n3_; have BK215 := n4_; have HB := n5_; clear n0_ n1_ n2_ n3_ n4_ n5_; (try clear hb); (try clear hb2); (try clear hk); (try clear hi); (try clear ho0); have hnb93 := NB202_201.out; have hnc93 := NB201_202.out; have hcz94_0 : w92.cell? ⟨gb202, 0, none⟩ = some (.int .i64 0) := (blk_cell BK202.out 0).trans rfl; have hcz94_1 : w92.cell? ⟨gb202, 1, none⟩ = some (.int .i64 0) := (blk_cell BK202.out 1).trans rfl; have hcz94_2 : w92.cell? ⟨gb202, 2, none⟩ = some (.slice none 0 0) := (blk_cell BK202.out 2).trans rfl; have hfz94_0 := blk_frozen BK202.out 0; have hfz94_1 := blk_frozen BK202.out 1; have hfz94_2 := blk_frozen BK202.out 2; obtain ⟨Ao95, co95, eo95⟩ := Kd.R_slice HO238.out; subst eo95)) | go_quiet (first | (go_at_call 28; (with_reducible refine (spec_l09Put.calls kj23 t210 (wrap64 (t211 + 1)) _ _ t212 a1 a1 a2 (wrap64 (t211 + 1)) a3 t234 t235 t236 _ ?side1 ?side2 A88.out).mono ?_); (case side1 => exact u6_33); (case side2 => exact (Kd.R_reads' HO_216002.out).2.1); rintro e w92 ⟨v237, rfl, ho0, hb⟩; have n0_ := Aside0.mk (Kd.R_elder' u6_12 (Kd.R_base ho0) hb); have n1_ := Aside0.mk (Kd.R_lower (Kd.R_new' ho0 (Kd.R_lt u6_12)) (below_size u6_2)); have n2_ := Aside0.mk (blk_below (g := gb201) (o := .cells #[.int .i64 a0_0, .int .i64 a0_1, .slice A0_2 l0_2.length c0_2] 29 (0, 0)) u6_28 hb); have n3_ := Aside0.mk (blk_below (g := gb202) (o := .cells #[.int .i64 0, .int .i64 0, .slice none 0 0] 29 (0, 0)) u6_29 hb); have n4_ := Aside0.mk (blk_below (g := gb215) (o := .cells #[.int .i64 t210, .int .i64 (wrap64 (t211 + 1)), .slice Ao32 t212.length co32] 29 (0, 0)) u6_26 hb); have n5_ := Aside0.mk (below_step u6_2 hb); clear HO_216002; clear BK201; clear BK202; clear BK215; clear HB; have HO_216002 := n0_; have HO238 := n1_; have BK201 := n2_; have BK202 := n3_; have BK215 := n4_; have HB := n5_; clear n0_ n1_ n2_ n3_ n4_ n5_; (try clear hb); (try clear hb2); (try clear hk); (try clear hi); (try clear ho0); have hnb93 := NB202_201.out; have hnc93 := NB201_202.out; have hcz94_0 : w92.cell? ⟨gb202, 0, none⟩ = some (.int .i64 0) := (blk_cell BK202.out 0).trans rfl; have hcz94_1 : w92.cell? ⟨gb202, 1, none⟩ = some (.int .i64 0) := (blk_cell BK202.out 1).trans rfl; have hcz94_2 : w92.cell? ⟨gb202, 2, none⟩ = some (.slice none 0 0) := (blk_cell BK202.out 2).trans rfl; have hfz94_0 := blk_frozen BK202.out 0; have hfz94_1 := blk_frozen BK202.out 1; have hfz94_2 := blk_frozen BK202.out 2; obtain ⟨Ao95, co95, eo95⟩ := Kd.R_slice HO238.out; subst eo95)))
        refine bodyPost_ret (results_ct rfl _ _ gb202 29 #[.int .i64 t234, .int .i64 t235, .slice Ao95 t236.length co95] (0, 0) _ rfl (by (with_reducible repeat (first | refine blk_drewN ?_ _ | refine blk_drew ?_ | refine blk_alloc ?_ _)); refine blk_put (cs := #[.int .i64 t234, .int .i64 t235, .slice none 0 0]) ?_ 2 _ rfl; (with_reducible repeat (first | refine blk_drewN ?_ _ | refine blk_drew ?_ | refine blk_alloc ?_ _)); refine blk_put (cs := #[.int .i64 t234, .int .i64 0, .slice none 0 0]) ?_ 1 _ rfl; (with_reducible repeat (first | refine blk_drewN ?_ _ | refine blk_drew ?_ | refine blk_alloc ?_ _)); refine blk_put (cs := #[.int .i64 0, .int .i64 0, .slice none 0 0]) ?_ 0 _ rfl; (with_reducible repeat (first | refine blk_drewN ?_ _ | refine blk_drew ?_ | refine blk_alloc ?_ _)); exact BK202.out) Try.underlying29 rfl (by kernel_rfl)) rfl ?_
        exact ⟨_, by first | rfl | (simp [errW_none, errW_some] <;> rfl) | (simp [*, errW_none, errW_some] <;> rfl), (by (with_reducible repeat (first | apply Kd.R_alloc | apply Kd.R_drewN | apply Kd.R_drew)); exact Kd.R_mono (Kd.R_far (p := ⟨gb202, 2, none⟩) (Kd.R_far (p := ⟨gb202, 1, none⟩) (Kd.R_far (p := ⟨gb202, 0, none⟩) (Kd.R_types HO238.out BK202.out (by decide)) (fun _ hk => hk.2) (.int .i64 t234)) (fun _ hk => hk.2) (.int .i64 t235)) (fun _ hk => hk.2) (.slice Ao95 t236.length co95)) (fun _ hk => trivial)), u6_2⟩
      subst c44
      rw [if_pos rfl] at H
      by_cases c45 : 0 < (l0_2.length : Int)
      rotate_left
      · rw [if_neg c45] at H
        exact absurd H (by simp)
      rw [if_pos c45] at H
      have c45b0 : decide (0 < (l0_2.length : Int)) = true := decide_eq_true c45
      have c45b1 : decide (0 < l0_2.length) = true := decide_eq_true (by omega)
      clear c45
      have H' := Aside0.mk H
      clear H
      have hnb46 := NB201_202.out
      have hnc46 := NB202_201.out
      have hnb47 := NB201_215.out
      have hnc47 := NB215_201.out
      have hcz48_0 : wc.cell? ⟨gb201, 0, none⟩ = some (.int .i64 a0_0) := (blk_cell BK201.out 0).trans rfl
      have hcz48_1 : wc.cell? ⟨gb201, 1, none⟩ = some (.int .i64 a0_1) := (blk_cell BK201.out 1).trans rfl
      have hcz48_2 : wc.cell? ⟨gb201, 2, none⟩ = some (.slice A0_2 l0_2.length c0_2) := (blk_cell BK201.out 2).trans rfl
      have hfz48_0 := blk_frozen BK201.out 0
      have hfz48_1 := blk_frozen BK201.out 1
      have hfz48_2 := blk_frozen BK201.out 2
      have p220 : 0 ≤ (0 : Int) := (by omega)
      have q220 : 0 < (l0_2.length : Int) := of_decide_eq_true u6_31
      obtain ⟨ad220, e220, hx220_0, hx220_1, hx220_2, hx220_3⟩ := at_T45 HR0_2.out 0 p220 q220
      cases e220
      have qi220 : (0 < l0_2.length) = True := eq_true (by omega)
      (try rw [show ((0 : Int)).toNat = 0 from rfl] at hx220_0)
      (try rw [show 0 * 4 = 0 from rfl] at hx220_0)
      (try rw [Addr.add_zero'] at hx220_0)
      (try rw [show ((0 : Int)).toNat = 0 from rfl] at hx220_1)
      (try rw [show 0 * 4 = 0 from rfl] at hx220_1)
      (try rw [Addr.add_zero'] at hx220_1)
      (try rw [show ((0 : Int)).toNat = 0 from rfl] at hx220_2)
      (try rw [show 0 * 4 = 0 from rfl] at hx220_2)
      (try rw [Addr.add_zero'] at hx220_2)
      (try rw [show ((0 : Int)).toNat = 0 from rfl] at hx220_3)
      (try rw [show 0 * 4 = 0 from rfl] at hx220_3)
      (try rw [Addr.add_zero'] at hx220_3)
      replace hx220_0 := (HB.out.cell (World.block_lt_of_cell? w _ hx220_0)).trans hx220_0
      replace hx220_1 := (HB.out.cell (World.block_lt_of_cell? w _ hx220_1)).trans hx220_1
      replace hx220_2 := (HB.out.cell (World.block_lt_of_cell? w _ hx220_2)).trans hx220_2
      replace hx220_3 := (HB.out.cell (World.block_lt_of_cell? w _ hx220_3)).trans hx220_3
      replace p220 := eq_true p220
      replace q220 := eq_true q220
      go_wp2_with (first | (first | ((with_reducible refine gate_dst (N := 13) rfl ?_); (try (refine gate_guard (by rfl) ?_; dsimp only)); refine box_event ?hg (N := 13) ?hd (cs := #[.int .i64 0, .int .i64 0, .int .i64 0, .string (⟨#[]⟩ : ByteArray)]) (t := 45) ?hr ?_; (case hd => rfl); (case hg => rfl); (case hr => first | (go_simp; done) | (go_simp; rfl)); intro gb221 hg w49 hbox hb; have n0_ := Aside0.mk (Kd.R_below (Kd.R_elderB u6_23 gb221 (Nat.le_of_eq hg.symm)) hb); have n1_ := Aside0.mk (blk_below (g := gb201) (o := .cells #[.int .i64 a0_0, .int .i64 a0_1, .slice (some ad220) l0_2.length c0_2] 29 (0, 0)) u6_1 hb); have n2_ := Aside0.mk (blk_below (g := gb202) (o := .cells #[.int .i64 0, .int .i64 0, .slice none 0 0] 29 (0, 0)) u6_3 hb); have n3_ := Aside0.mk (blk_below (g := gb215) (o := .cells #[.int .i64 t210, .int .i64 t211, .slice Ao32 t212.length co32] 29 (0, 0)) u6_17 hb); have n4_ := Aside0.mk (below_step u6_2 hb); have n5_ := Aside0.mk (hbox); have n6_ := Aside0.mk ((by rw [hg]; exact (below_size u6_2) : w.heap.size ≤ gb221)); have n7_ := Aside0.mk ((by rw [hg]; exact (below_size u6_2) : w.heap.size ≤ gb221)); have n8_ := Aside0.mk ((by rw [hg]; exact Nat.ne_of_lt (blk_lt (g := gb201) (o := .cells #[.int .i64 a0_0, .int .i64 a0_1, .slice (some ad220) l0_2.length c0_2] 29 (0, 0)) u6_1) : gb201 ≠ gb221)); have n9_ := Aside0.mk ((by rw [hg]; exact Nat.ne_of_gt (blk_lt (g := gb201) (o := .cells #[.int .i64 a0_0, .int .i64 a0_1, .slice (some ad220) l0_2.length c0_2] 29 (0, 0)) u6_1) : gb221 ≠ gb201)); have n10_ := Aside0.mk ((by rw [hg]; exact Nat.ne_of_lt (blk_lt (g := gb202) (o := .cells #[.int .i64 0, .int .i64 0, .slice none 0 0] 29 (0, 0)) u6_3) : gb202 ≠ gb221)); have n11_ := Aside0.mk ((by rw [hg]; exact Nat.ne_of_gt (blk_lt (g := gb202) (o := .cells #[.int .i64 0, .int .i64 0, .slice none 0 0] 29 (0, 0)) u6_3) : gb221 ≠ gb202)); have n12_ := Aside0.mk ((by rw [hg]; exact Nat.ne_of_lt (blk_lt (g := gb215) (o := .cells #[.int .i64 t210, .int .i64 t211, .slice Ao32 t212.length co32] 29 (0, 0)) u6_17) : gb215 ≠ gb221)); have n13_ := Aside0.mk ((by rw [hg]; exact Nat.ne_of_gt (blk_lt (g := gb215) (o := .cells #[.int .i64 t210, .int .i64 t211, .slice Ao32 t212.length co32] 29 (0, 0)) u6_17) : gb221 ≠ gb215)); clear HO_216002; clear BK201; clear BK202; clear BK215; clear HB; have HO_216002 := n0_; have BK201 := n1_; have BK202 := n2_; have BK215 := n3_; have HB := n4_; have BK221 := n5_; have GW221 := n6_; have GE221 := n7_; have NB201_221 := n8_; have NB221_201 := n9_; have NB202_221 := n10_; have NB221_202 := n11_; have NB215_221 := n12_; have NB221_215 := n13_; clear n0_ n1_ n2_ n3_ n4_ n5_ n6_ n7_ n8_ n9_ n10_ n11_ n12_ n13_; clear hb hbox hg; have hnb50 := NB221_201.out; have hnc50 := NB201_221.out; have hnb51 := NB221_202.out; have hnc51 := NB202_221.out; have hnb52 := NB221_215.out; have hnc52 := NB215_221.out; have hcz53_0 : w49.cell? ⟨gb221, 0, none⟩ = some (.int .i64 0) := (blk_cell BK221.out 0).trans rfl; have hcz53_1 : w49.cell? ⟨gb221, 1, none⟩ = some (.int .i64 0) := (blk_cell BK221.out 1).trans rfl; have hcz53_2 : w49.cell? ⟨gb221, 2, none⟩ = some (.int .i64 0) := (blk_cell BK221.out 2).trans rfl; have hcz53_3 : w49.cell? ⟨gb221, 3, none⟩ = some (.string (⟨#[]⟩ : ByteArray)) := (blk_cell BK221.out 3).trans rfl; have hfz53_0 := blk_frozen BK221.out 0; have hfz53_1 := blk_frozen BK221.out 1; have hfz53_2 := blk_frozen BK221.out 2; have hfz53_3 := blk_frozen BK221.out 3)) | go_quiet (fail))
      go_loopg [14] kj23 (fun kq v14 w' => ∃ (x14_3 : Int) (x222000_3 : Int) (x222001_3 : Int) (x222002_3 : Int) (x222003_3 : ByteArray), v14 = .int .i64 x14_3 ∧ Aside0 (spec_Keep.l0 kq a1 a2 a3 x14_3 a0_0 a0_1 l0_2 t210 t211 t212 x222000_3 x222001_3 x222002_3 x222003_3 = some (r1, r2, r3, r4)) ∧ Aside0 (kq ≤ kj23) ∧ Aside0 (Kd.R k45 45 w' w.heap.size (fun k_ => k_ ≠ gb221) (.slice Ao32 t212.length co32) t212) ∧ Aside0 (w'.heap[gb201]? = some (.cells #[.int .i64 a0_0, .int .i64 a0_1, (.slice (some ad220) l0_2.length c0_2)] 29 (0, 0))) ∧ Aside0 (w'.heap[gb202]? = some (.cells #[.int .i64 0, .int .i64 0, (.slice none 0 0)] 29 (0, 0))) ∧ Aside0 (w'.heap[gb215]? = some (.cells #[.int .i64 t210, .int .i64 t211, (.slice Ao32 t212.length co32)] 29 (0, 0))) ∧ Aside0 (w'.heap[gb221]? = some (.cells #[.int .i64 x222000_3, .int .i64 x222001_3, .int .i64 x222002_3, .string x222003_3] 45 (0, 0))) ∧ Aside0 (Below w.heap.size w w'))
      case atStart => exact ⟨(0), ((rd_T45 l0_2 0).f0), ((rd_T45 l0_2 0).f1), ((rd_T45 l0_2 0).f2), ((rd_T45 l0_2 0).f3), u6_27, H', ⟨Nat.le_refl _⟩, ⟨(by (with_reducible repeat (first | apply Kd.R_alloc | apply Kd.R_drewN | apply Kd.R_drew)); exact Kd.R_mono (Kd.R_far (p := ⟨gb221, 3, none⟩) (Kd.R_far (p := ⟨gb221, 2, none⟩) (Kd.R_far (p := ⟨gb221, 1, none⟩) (Kd.R_far (p := ⟨gb221, 0, none⟩) (Kd.R_mono HO_216002.out (fun k_ hk => (⟨hk, hk.2⟩ : _ ∧ k_ ≠ gb221))) (fun _ hk => hk.2) (.int .i64 ((rd_T45 l0_2 0).f0))) (fun _ hk => hk.2) (.int .i64 ((rd_T45 l0_2 0).f1))) (fun _ hk => hk.2) (.int .i64 ((rd_T45 l0_2 0).f2))) (fun _ hk => hk.2) (.string ((rd_T45 l0_2 0).f3))) (fun _ hk => hk.1.2))⟩, ⟨u6_18⟩, ⟨u6_19⟩, ⟨u6_20⟩, ⟨(by (with_reducible repeat (first | refine blk_drewN ?_ _ | refine blk_drew ?_ | refine blk_alloc ?_ _)); refine blk_put (cs := #[.int .i64 ((rd_T45 l0_2 0).f0), .int .i64 ((rd_T45 l0_2 0).f1), .int .i64 ((rd_T45 l0_2 0).f2), .string (⟨#[]⟩ : ByteArray)]) ?_ 3 _ rfl; (with_reducible repeat (first | refine blk_drewN ?_ _ | refine blk_drew ?_ | refine blk_alloc ?_ _)); refine blk_put (cs := #[.int .i64 ((rd_T45 l0_2 0).f0), .int .i64 ((rd_T45 l0_2 0).f1), .int .i64 0, .string (⟨#[]⟩ : ByteArray)]) ?_ 2 _ rfl; (with_reducible repeat (first | refine blk_drewN ?_ _ | refine blk_drew ?_ | refine blk_alloc ?_ _)); refine blk_put (cs := #[.int .i64 ((rd_T45 l0_2 0).f0), .int .i64 0, .int .i64 0, .string (⟨#[]⟩ : ByteArray)]) ?_ 1 _ rfl; (with_reducible repeat (first | refine blk_drewN ?_ _ | refine blk_drew ?_ | refine blk_alloc ?_ _)); refine blk_put (cs := #[.int .i64 0, .int .i64 0, .int .i64 0, .string (⟨#[]⟩ : ByteArray)]) ?_ 0 _ rfl; (with_reducible repeat (first | refine blk_drewN ?_ _ | refine blk_drew ?_ | refine blk_alloc ?_ _)); exact BK221.out)⟩, ⟨u6_4⟩⟩
      clear H'
      try clear c1
      try clear c2
      try clear p2
      try clear q2
      try clear hx2
      try clear qi2
      try clear c3
      try clear c4
      try clear c5
      try clear c9
      try clear c12
      try clear c12b0
      try clear c12b1
      try clear c13
      try clear c13b0
      try clear c13b1
      try clear c14
      try clear c16
      try clear c18
      try clear p22
      try clear q22
      try clear hx22
      try clear qi22
      try clear c25
      try clear c29
      try clear c30
      try clear c34
      try clear c34b0
      try clear c34b1
      try clear c35
      try clear c36
      try clear c40
      try clear c41
      try clear c44
      try clear c45
      try clear c45b0
      try clear c45b1
      try clear c46
      try clear c47
      try clear c50
      try clear c51
      try clear c52
      try clear hcz10_0
      try clear hcz10_1
      try clear hcz10_2
      try clear hcz15_0
      try clear hcz15_1
      try clear hcz15_2
      try clear hcz19_0
      try clear hcz19_1
      try clear hcz19_2
      try clear hcz21_0
      try clear hcz21_1
      try clear hcz21_2
      try clear hcz26_0
      try clear hcz26_1
      try clear hcz26_2
      try clear hcz31_0
      try clear hcz31_1
      try clear hcz31_2
      try clear hcz37_0
      try clear hcz37_1
      try clear hcz37_2
      try clear hcz39_0
      try clear hcz39_1
      try clear hcz39_2
      try clear hcz42_0
      try clear hcz42_1
      try clear hcz42_2
      try clear hcz48_0
      try clear hcz48_1
      try clear hcz48_2
      try clear hcz53_0
      try clear hcz53_1
      try clear hcz53_2
      try clear hcz53_3
      try clear hfz10_0
      try clear hfz10_1
      try clear hfz10_2
      try clear hfz15_0
      try clear hfz15_1
      try clear hfz15_2
      try clear hfz19_0
      try clear hfz19_1
      try clear hfz19_2
      try clear hfz21_0
      try clear hfz21_1
      try clear hfz21_2
      try clear hfz26_0
      try clear hfz26_1
      try clear hfz26_2
      try clear hfz31_0
      try clear hfz31_1
      try clear hfz31_2
      try clear hfz37_0
      try clear hfz37_1
      try clear hfz37_2
      try clear hfz39_0
      try clear hfz39_1
      try clear hfz39_2
      try clear hfz42_0
      try clear hfz42_1
      try clear hfz42_2
      try clear hfz48_0
      try clear hfz48_1
      try clear hfz48_2
      try clear hfz53_0
      try clear hfz53_1
      try clear hfz53_2
      try clear hfz53_3
      try clear hx220_0
      try clear hx220_1
      try clear hx220_2
      try clear hx220_3
      try clear p2
      try clear p220
      try clear q220
      obtain ⟨x14_3, x222000_3, x222001_3, x222002_3, x222003_3, rfl, HA, HK3, HO_216002, BK201, BK202, BK215, BK221, HB⟩ := hrel
      cases gk with
      | zero => exact absurd HA.out (by simp [spec_Keep.l0])
      | succ k3 =>
        have H := HA.out
        clear HA
        simp only [spec_Keep.l0] at H
        by_cases c54 : x14_3 < (l0_2.length : Int)
        · rw [if_pos c54] at H
          have c54b0 : decide (x14_3 < (l0_2.length : Int)) = true := decide_eq_true c54
          clear c54
          by_cases c55 : 0 ≤ x14_3
          rotate_left
          · rw [if_neg c55] at H
            exact absurd H (by simp)
          rw [if_pos c55] at H
          have c55b0 : decide (0 ≤ x14_3) = true := decide_eq_true c55
          clear c55
          have H9 := Aside0.mk H
          clear H
          have hnb56 := NB201_202.out
          have hnc56 := NB202_201.out
          have hnb57 := NB201_215.out
          have hnc57 := NB215_201.out
          have hnb58 := NB201_221.out
          have hnc58 := NB221_201.out
          have hcz59_0 : wr.cell? ⟨gb201, 0, none⟩ = some (.int .i64 a0_0) := (blk_cell BK201.out 0).trans rfl
          have hcz59_1 : wr.cell? ⟨gb201, 1, none⟩ = some (.int .i64 a0_1) := (blk_cell BK201.out 1).trans rfl
          have hcz59_2 : wr.cell? ⟨gb201, 2, none⟩ = some (.slice (some ad220) l0_2.length c0_2) := (blk_cell BK201.out 2).trans rfl
          have hfz59_0 := blk_frozen BK201.out 0
          have hfz59_1 := blk_frozen BK201.out 1
          have hfz59_2 := blk_frozen BK201.out 2
          have p222 : 0 ≤ (x14_3 : Int) := of_decide_eq_true u6_31
          have q222 : x14_3 < (l0_2.length : Int) := of_decide_eq_true u6_31
          obtain ⟨ad222, e222, hx222_0, hx222_1, hx222_2, hx222_3⟩ := at_T45 HR0_2.out x14_3 p222 q222
          obtain rfl : ad220 = ad222 := (by injection e222)
          replace hx222_0 := (HB.out.cell (World.block_lt_of_cell? w _ hx222_0)).trans hx222_0
          replace hx222_1 := (HB.out.cell (World.block_lt_of_cell? w _ hx222_1)).trans hx222_1
          replace hx222_2 := (HB.out.cell (World.block_lt_of_cell? w _ hx222_2)).trans hx222_2
          replace hx222_3 := (HB.out.cell (World.block_lt_of_cell? w _ hx222_3)).trans hx222_3
          replace p222 := eq_true p222
          replace q222 := eq_true q222
          have hnb60 := NB221_202.out
          have hnc60 := NB202_221.out
          have hnb61 := NB221_215.out
          have hnc61 := NB215_221.out
          have hcz62_0 : wr.cell? ⟨gb221, 0, none⟩ = some (.int .i64 x222000_3) := (blk_cell BK221.out 0).trans rfl
          have hcz62_1 : wr.cell? ⟨gb221, 1, none⟩ = some (.int .i64 x222001_3) := (blk_cell BK221.out 1).trans rfl
          have hcz62_2 : wr.cell? ⟨gb221, 2, none⟩ = some (.int .i64 x222002_3) := (blk_cell BK221.out 2).trans rfl
          have hcz62_3 : wr.cell? ⟨gb221, 3, none⟩ = some (.string x222003_3) := (blk_cell BK221.out 3).trans rfl
          have hfz62_0 := blk_frozen BK221.out 0
          have hfz62_1 := blk_frozen BK221.out 1
          have hfz62_2 := blk_frozen BK221.out 2
          have hfz62_3 := blk_frozen BK221.out 3
          go_upto_if 70 with (fail)
          repeat (go_quiet (fail); go_upto_if 70 with (fail))
          have H := H9.out
          clear H9
          by_cases c63 : ((rd_T45 l0_2 x14_3).f2) < x222002_3
          rotate_left
          · rw [if_neg c63] at H
            have c63b0 : decide (((rd_T45 l0_2 x14_3).f2) < x222002_3) = false := decide_eq_false c63
            clear c63
            (first | rw [c63b0] | (simp only [i64_w, i32_w]; rw [c63b0]) | skip)
            have H' := Aside0.mk H
            clear H
            go_wp2
            repeat (go_quiet (fail); try go_wp2)
            go_roundg k3
            case measure => have := HJ5.out; have := HJ23.out; have := HK3.out; omega
            case rel => exact ⟨(wrap64 (x14_3 + 1)), (x222000_3), (x222001_3), (x222002_3), (x222003_3), u6_27, H', ⟨(by have := HJ5.out; have := HJ23.out; have := HK3.out; omega)⟩, ⟨u6_23⟩, ⟨u6_1⟩, ⟨u6_3⟩, ⟨u6_17⟩, ⟨u6_24⟩, ⟨u6_4⟩⟩
          rw [if_pos c63] at H
          have c63b0 : decide (((rd_T45 l0_2 x14_3).f2) < x222002_3) = true := decide_eq_true c63
          clear c63
          (first | rw [c63b0] | (simp only [i64_w, i32_w]; rw [c63b0]) | skip)
          have H' := Aside0.mk H
          clear H
          have hnb64 := NB201_202.out
          have hnc64 := NB202_201.out
          have hnb65 := NB201_215.out
          have hnc65 := NB215_201.out
          have hnb66 := NB201_221.out
          have hnc66 := NB221_201.out
          have hcz67_0 : wr.cell? ⟨gb201, 0, none⟩ = some (.int .i64 a0_0) := (blk_cell BK201.out 0).trans rfl
          have hcz67_1 : wr.cell? ⟨gb201, 1, none⟩ = some (.int .i64 a0_1) := (blk_cell BK201.out 1).trans rfl
          have hcz67_2 : wr.cell? ⟨gb201, 2, none⟩ = some (.slice (some ad220) l0_2.length c0_2) := (blk_cell BK201.out 2).trans rfl
          have hfz67_0 := blk_frozen BK201.out 0
          have hfz67_1 := blk_frozen BK201.out 1
          have hfz67_2 := blk_frozen BK201.out 2
          have p223 : 0 ≤ (x14_3 : Int) := of_decide_eq_true u6_31
          have q223 : x14_3 < (l0_2.length : Int) := of_decide_eq_true u6_31
          obtain ⟨ad223, e223, hx223_0, hx223_1, hx223_2, hx223_3⟩ := at_T45 HR0_2.out x14_3 p223 q223
          obtain rfl : ad220 = ad223 := (by injection e223)
          replace hx223_0 := (HB.out.cell (World.block_lt_of_cell? w _ hx223_0)).trans hx223_0
          replace hx223_1 := (HB.out.cell (World.block_lt_of_cell? w _ hx223_1)).trans hx223_1
          replace hx223_2 := (HB.out.cell (World.block_lt_of_cell? w _ hx223_2)).trans hx223_2
          replace hx223_3 := (HB.out.cell (World.block_lt_of_cell? w _ hx223_3)).trans hx223_3
          replace p223 := eq_true p223
          replace q223 := eq_true q223
          have hnb68 := NB221_202.out
          have hnc68 := NB202_221.out
          have hnb69 := NB221_215.out
          have hnc69 := NB215_221.out
          have hcz70_0 : wr.cell? ⟨gb221, 0, none⟩ = some (.int .i64 x222000_3) := (blk_cell BK221.out 0).trans rfl
          have hcz70_1 : wr.cell? ⟨gb221, 1, none⟩ = some (.int .i64 x222001_3) := (blk_cell BK221.out 1).trans rfl
          have hcz70_2 : wr.cell? ⟨gb221, 2, none⟩ = some (.int .i64 x222002_3) := (blk_cell BK221.out 2).trans rfl
          have hcz70_3 : wr.cell? ⟨gb221, 3, none⟩ = some (.string x222003_3) := (blk_cell BK221.out 3).trans rfl
          have hfz70_0 := blk_frozen BK221.out 0
          have hfz70_1 := blk_frozen BK221.out 1
          have hfz70_2 := blk_frozen BK221.out 2
          have hfz70_3 := blk_frozen BK221.out 3
          go_wp2
          repeat (go_quiet (fail); try go_wp2)
          go_roundg k3
          case measure => have := HJ5.out; have := HJ23.out; have := HK3.out; omega
          case rel => exact ⟨(wrap64 (x14_3 + 1)), ((rd_T45 l0_2 x14_3).f0), ((rd_T45 l0_2 x14_3).f1), ((rd_T45 l0_2 x14_3).f2), ((rd_T45 l0_2 x14_3).f3), u6_27, H', ⟨(by have := HJ5.out; have := HJ23.out; have := HK3.out; omega)⟩, ⟨(by (with_reducible repeat (first | apply Kd.R_alloc | apply Kd.R_drewN | apply Kd.R_drew)); exact Kd.R_mono (Kd.R_far (p := ⟨gb221, 3, none⟩) (Kd.R_far (p := ⟨gb221, 2, none⟩) (Kd.R_far (p := ⟨gb221, 1, none⟩) (Kd.R_far (p := ⟨gb221, 0, none⟩) (Kd.R_mono HO_216002.out (fun k_ hk => (⟨hk, hk⟩ : _ ∧ k_ ≠ gb221))) (fun _ hk => hk.2) (.int .i64 ((rd_T45 l0_2 x14_3).f0))) (fun _ hk => hk.2) (.int .i64 ((rd_T45 l0_2 x14_3).f1))) (fun _ hk => hk.2) (.int .i64 ((rd_T45 l0_2 x14_3).f2))) (fun _ hk => hk.2) (.string ((rd_T45 l0_2 x14_3).f3))) (fun _ hk => hk.1))⟩, ⟨u6_18⟩, ⟨u6_19⟩, ⟨u6_20⟩, ⟨(by (with_reducible repeat (first | refine blk_drewN ?_ _ | refine blk_drew ?_ | refine blk_alloc ?_ _)); refine blk_put (cs := #[.int .i64 ((rd_T45 l0_2 x14_3).f0), .int .i64 ((rd_T45 l0_2 x14_3).f1), .int .i64 ((rd_T45 l0_2 x14_3).f2), .string x222003_3]) ?_ 3 _ rfl; (with_reducible repeat (first | refine blk_drewN ?_ _ | refine blk_drew ?_ | refine blk_alloc ?_ _)); refine blk_put (cs := #[.int .i64 ((rd_T45 l0_2 x14_3).f0), .int .i64 ((rd_T45 l0_2 x14_3).f1), .int .i64 x222002_3, .string x222003_3]) ?_ 2 _ rfl; (with_reducible repeat (first | refine blk_drewN ?_ _ | refine blk_drew ?_ | refine blk_alloc ?_ _)); refine blk_put (cs := #[.int .i64 ((rd_T45 l0_2 x14_3).f0), .int .i64 x222001_3, .int .i64 x222002_3, .string x222003_3]) ?_ 1 _ rfl; (with_reducible repeat (first | refine blk_drewN ?_ _ | refine blk_drew ?_ | refine blk_alloc ?_ _)); refine blk_put (cs := #[.int .i64 x222000_3, .int .i64 x222001_3, .int .i64 x222002_3, .string x222003_3]) ?_ 0 _ rfl; (with_reducible repeat (first | refine blk_drewN ?_ _ | refine blk_drew ?_ | refine blk_alloc ?_ _)); exact BK221.out)⟩, ⟨u6_4⟩⟩
        rw [if_neg c54] at H
        have c54b0 : decide (x14_3 < (l0_2.length : Int)) = false := decide_eq_false c54
        clear c54
        replace H := Option.bind_eq_some_iff.mp H
        obtain ⟨⟨t224, t225, t226⟩, A710, H⟩ := H
        (try dsimp only at H)
        have A71 := Aside0.mk A710
        clear A710
        replace H := Option.bind_eq_some_iff.mp H
        obtain ⟨⟨t229, t230, t231⟩, A720, H⟩ := H
        replace H : (some (t229, t230, t231, true)) = some (r1, r2, r3, r4) := H
        have A72 := Aside0.mk A720
        clear A720
        simp only [Option.some.injEq, Prod.mk.injEq] at H
        obtain ⟨rfl, rfl, rfl, rfl⟩ := H
        have hnb73 := NB201_202.out
        have hnc73 := NB202_201.out
        have hnb74 := NB201_215.out
        have hnc74 := NB215_201.out
        have hnb75 := NB201_221.out
        have hnc75 := NB221_201.out
        have hcz76_0 : wr.cell? ⟨gb201, 0, none⟩ = some (.int .i64 a0_0) := (blk_cell BK201.out 0).trans rfl
        have hcz76_1 : wr.cell? ⟨gb201, 1, none⟩ = some (.int .i64 a0_1) := (blk_cell BK201.out 1).trans rfl
        have hcz76_2 : wr.cell? ⟨gb201, 2, none⟩ = some (.slice (some ad220) l0_2.length c0_2) := (blk_cell BK201.out 2).trans rfl
        have hfz76_0 := blk_frozen BK201.out 0
        have hfz76_1 := blk_frozen BK201.out 1
        have hfz76_2 := blk_frozen BK201.out 2
        have hnb77 := NB215_202.out
        have hnc77 := NB202_215.out
        have hnb78 := NB215_221.out
        have hnc78 := NB221_215.out
        have hcz79_0 : wr.cell? ⟨gb215, 0, none⟩ = some (.int .i64 t210) := (blk_cell BK215.out 0).trans rfl
        have hcz79_1 : wr.cell? ⟨gb215, 1, none⟩ = some (.int .i64 t211) := (blk_cell BK215.out 1).trans rfl
        have hcz79_2 : wr.cell? ⟨gb215, 2, none⟩ = some (.slice Ao32 t212.length co32) := (blk_cell BK215.out 2).trans rfl
        have hfz79_0 := blk_frozen BK215.out 0
        have hfz79_1 := blk_frozen BK215.out 1
        have hfz79_2 := blk_frozen BK215.out 2
        have hnb80 := NB221_202.out
        have hnc80 := NB202_221.out
        have hcz81_0 : wr.cell? ⟨gb221, 0, none⟩ = some (.int .i64 x222000_3) := (blk_cell BK221.out 0).trans rfl
        have hcz81_1 : wr.cell? ⟨gb221, 1, none⟩ = some (.int .i64 x222001_3) := (blk_cell BK221.out 1).trans rfl
        have hcz81_2 : wr.cell? ⟨gb221, 2, none⟩ = some (.int .i64 x222002_3) := (blk_cell BK221.out 2).trans rfl
        have hcz81_3 : wr.cell? ⟨gb221, 3, none⟩ = some (.string x222003_3) := (blk_cell BK221.out 3).trans rfl
        have hfz81_0 := blk_frozen BK221.out 0
        have hfz81_1 := blk_frozen BK221.out 1
        have hfz81_2 := blk_frozen BK221.out 2
        have hfz81_3 := blk_frozen BK221.out 3
        go_wp2_with (first | (first | (go_at_call 28; (with_reducible refine (spec_l09Put.calls k3 t210 t211 _ _ t212 x222000_3 0 0 0 (⟨#[]⟩ : ByteArray) t224 t225 t226 _ ?side1 ?side2 A71.out).mono ?_); (case side1 => exact u6_32); (case side2 => exact (Kd.R_reads' HO_216002.out).2.1); rintro e w82 ⟨v227, rfl, ho0, hb⟩; have n0_ := Aside0.mk (Kd.R_elder' u6_23 (Kd.R_base ho0) hb); have n1_ := Aside0.mk (Kd.R_lower (Kd.R_newB (Kd.R_new' ho0 (Kd.R_lt u6_23)) (g := gb221) (o := .cells #[.int .i64 x222000_3, .int .i64 x222001_3, .int .i64 x222002_3, .string x222003_3] 45 (0, 0)) u6_24) (below_size u6_4)); have n2_ := Aside0.mk (blk_below (g := gb201) (o := .cells #[.int .i64 a0_0, .int .i64 a0_1, .slice (some ad220) l0_2.length c0_2] 29 (0, 0)) u6_1 hb); have n3_ := Aside0.mk (blk_below (g := gb202) (o := .cells #[.int .i64 0, .int .i64 0, .slice none 0 0] 29 (0, 0)) u6_3 hb); have n4_ := Aside0.mk (blk_below (g := gb215) (o := .cells #[.int .i64 t210, .int .i64 t211, .slice Ao32 t212.length co32] 29 (0, 0)) u6_17 hb); have n5_ := Aside0.mk (blk_below (g := gb221) (o := .cells #[.int .i64 x222000_3, .int .i64 x222001_3, .int .i64 x222002_3, .string x222003_3] 45 (0, 0)) u6_24 hb); have n6_ := Aside0.mk (below_step u6_4 hb); clear HO_216002; clear BK201; clear BK202; clear BK215; clear BK221; clear HB; have HO_216002 := n0_; have HO228 := n1_; have BK201 := n2_; have BK202 := n3_; have BK215 := n4_; have BK221 := n5_; have HB := n6_; clear n0_ n1_ n2_ n3_ n4_ n5_ n6_; (try clear hb); (try clear hb2); (try clear hk); (try clear hi); (try clear ho0); have hcz83_0 : w82.cell? ⟨gb215, 0, none⟩ = some (.int .i64 t210) := (blk_cell BK215.out 0).trans rfl; have hcz83_1 : w82.cell? ⟨gb215, 1, none⟩ = some (.int .i64 t211) := (blk_cell BK215.out 1).trans rfl; have hcz83_2 : w82.cell? ⟨gb215, 2, none⟩ = some (.slice Ao32 t212.length co32) := (blk_cell BK215.out 2).trans rfl; have hfz83_0 := blk_frozen BK215.out 0; have hfz83_1 := blk_frozen BK215.out 1; have hfz83_2 := blk_frozen BK215.out 2; obtain ⟨Ao84, co84, eo84⟩ := Kd.R_slice HO228.out; subst eo84) | (go_at_call 28; (with_reducible refine (spec_l09Put.calls k3 t224 (wrap64 (t225 + 1)) _ _ t226 a1 a1 a2 (wrap64 (t225 + 1)) a3 t229 t230 t231 _ ?side1 ?side2 A72.out).mono ?_); (case side1 => exact u6_30); (case side2 => exact (Kd.R_reads' HO228.out).2.1); rintro e w85 ⟨v232, rfl, ho0, hb⟩; have n0_ := Aside0.mk (Kd.R_elder' u6_10 (Kd.R_base ho0) hb); have n1_ := Aside0.mk (Kd.R_elder' u6_5 (Kd.R_base ho0) hb); have n2_ := Aside0.mk (Kd.R_lower (Kd.R_newB (Kd.R_new' (Kd.R_new' ho0 (Kd.R_lt u6_10)) (Kd.R_lt u6_5)) (g := gb221) (o := .cells #[.int .i64 x222000_3, .int .i64 x222001_3, .int .i64 x222002_3, .string x222003_3] 45 (0, 0)) u6_7) (below_size u6_4)); have n3_ := Aside0.mk (blk_below (g := gb201) (o := .cells #[.int .i64 a0_0, .int .i64 a0_1, .slice (some ad220) l0_2.length c0_2] 29 (0, 0)) u6_21 hb); have n4_ := Aside0.mk (blk_below (g := gb202) (o := .cells #[.int .i64 0, .int .i64 0, .slice none 0 0] 29 (0, 0)) u6_22 hb); have n5_ := Aside0.mk (blk_below (g := gb215) (o := .cells #[.int .i64 t224, .int .i64 (wrap64 (t225 + 1)), .slice Ao84 t226.length co84] 29 (0, 0)) u6_16 hb); have n6_ := Aside0.mk (blk_below (g := gb221) (o := .cells #[.int .i64 x222000_3, .int .i64 x222001_3, .int .i64 x222002_3, .string x222003_3] 45 (0, 0)) u6_7 hb); have n7_ := Aside0.mk (below_step u6_4 hb); clear HO_216002; clear HO228; clear BK201; clear BK202; clear BK215; clear BK221; clear HB; have HO_216002 := n0_; have HO228 := n1_; have HO233 := n2_; have BK201 := n3_; have BK202 := n4_; have BK215 := n5_; have BK221 := n6_; have HB := n7_; clear n0_ n1_ n2_ n3_ n4_ n5_ n6_ n7_; (try clear hb); (try clear hb2); (try clear hk); (try clear hi); (try clear ho0); have hcz86_0 : w85.cell? ⟨gb202, 0, none⟩ = some (.int .i64 0) := (blk_cell BK202.out 0).trans rfl; have hcz86_1 : w85.cell? ⟨gb202, 1, none⟩ = some (.int .i64 0) := (blk_cell BK202.out 1).trans rfl; have hcz86_2 : w85.cell? ⟨gb202, 2, none⟩ = some (.slice none 0 0) := (blk_cell BK202.out 2).trans rfl; have hfz86_0 := blk_frozen BK202.out 0; have hfz86_1 := blk_frozen BK202.out 1; have hfz86_2 := blk_frozen BK202.out 2; obtain ⟨Ao87, co87, eo87⟩ := Kd.R_slice HO233.out; subst eo87)) | go_quiet (first | (go_at_call 28; (with_reducible refine (spec_l09Put.calls k3 t210 t211 _ _ t212 x222000_3 0 0 0 (⟨#[]⟩ : ByteArray) t224 t225 t226 _ ?side1 ?side2 A71.out).mono ?_); (case side1 => exact u6_32); (case side2 => exact (Kd.R_reads' HO_216002.out).2.1); rintro e w82 ⟨v227, rfl, ho0, hb⟩; have n0_ := Aside0.mk (Kd.R_elder' u6_23 (Kd.R_base ho0) hb); have n1_ := Aside0.mk (Kd.R_lower (Kd.R_newB (Kd.R_new' ho0 (Kd.R_lt u6_23)) (g := gb221) (o := .cells #[.int .i64 x222000_3, .int .i64 x222001_3, .int .i64 x222002_3, .string x222003_3] 45 (0, 0)) u6_24) (below_size u6_4)); have n2_ := Aside0.mk (blk_below (g := gb201) (o := .cells #[.int .i64 a0_0, .int .i64 a0_1, .slice (some ad220) l0_2.length c0_2] 29 (0, 0)) u6_1 hb); have n3_ := Aside0.mk (blk_below (g := gb202) (o := .cells #[.int .i64 0, .int .i64 0, .slice none 0 0] 29 (0, 0)) u6_3 hb); have n4_ := Aside0.mk (blk_below (g := gb215) (o := .cells #[.int .i64 t210, .int .i64 t211, .slice Ao32 t212.length co32] 29 (0, 0)) u6_17 hb); have n5_ := Aside0.mk (blk_below (g := gb221) (o := .cells #[.int .i64 x222000_3, .int .i64 x222001_3, .int .i64 x222002_3, .string x222003_3] 45 (0, 0)) u6_24 hb); have n6_ := Aside0.mk (below_step u6_4 hb); clear HO_216002; clear BK201; clear BK202; clear BK215; clear BK221; clear HB; have HO_216002 := n0_; have HO228 := n1_; have BK201 := n2_; have BK202 := n3_; have BK215 := n4_; have BK221 := n5_; have HB := n6_; clear n0_ n1_ n2_ n3_ n4_ n5_ n6_; (try clear hb); (try clear hb2); (try clear hk); (try clear hi); (try clear ho0); have hcz83_0 : w82.cell? ⟨gb215, 0, none⟩ = some (.int .i64 t210) := (blk_cell BK215.out 0).trans rfl; have hcz83_1 : w82.cell? ⟨gb215, 1, none⟩ = some (.int .i64 t211) := (blk_cell BK215.out 1).trans rfl; have hcz83_2 : w82.cell? ⟨gb215, 2, none⟩ = some (.slice Ao32 t212.length co32) := (blk_cell BK215.out 2).trans rfl; have hfz83_0 := blk_frozen BK215.out 0; have hfz83_1 := blk_frozen BK215.out 1; have hfz83_2 := blk_frozen BK215.out 2; obtain ⟨Ao84, co84, eo84⟩ := Kd.R_slice HO228.out; subst eo84) | (go_at_call 28; (with_reducible refine (spec_l09Put.calls k3 t224 (wrap64 (t225 + 1)) _ _ t226 a1 a1 a2 (wrap64 (t225 + 1)) a3 t229 t230 t231 _ ?side1 ?side2 A72.out).mono ?_); (case side1 => exact u6_30); (case side2 => exact (Kd.R_reads' HO228.out).2.1); rintro e w85 ⟨v232, rfl, ho0, hb⟩; have n0_ := Aside0.mk (Kd.R_elder' u6_10 (Kd.R_base ho0) hb); have n1_ := Aside0.mk (Kd.R_elder' u6_5 (Kd.R_base ho0) hb); have n2_ := Aside0.mk (Kd.R_lower (Kd.R_newB (Kd.R_new' (Kd.R_new' ho0 (Kd.R_lt u6_10)) (Kd.R_lt u6_5)) (g := gb221) (o := .cells #[.int .i64 x222000_3, .int .i64 x222001_3, .int .i64 x222002_3, .string x222003_3] 45 (0, 0)) u6_7) (below_size u6_4)); have n3_ := Aside0.mk (blk_below (g := gb201) (o := .cells #[.int .i64 a0_0, .int .i64 a0_1, .slice (some ad220) l0_2.length c0_2] 29 (0, 0)) u6_21 hb); have n4_ := Aside0.mk (blk_below (g := gb202) (o := .cells #[.int .i64 0, .int .i64 0, .slice none 0 0] 29 (0, 0)) u6_22 hb); have n5_ := Aside0.mk (blk_below (g := gb215) (o := .cells #[.int .i64 t224, .int .i64 (wrap64 (t225 + 1)), .slice Ao84 t226.length co84] 29 (0, 0)) u6_16 hb); have n6_ := Aside0.mk (blk_below (g := gb221) (o := .cells #[.int .i64 x222000_3, .int .i64 x222001_3, .int .i64 x222002_3, .string x222003_3] 45 (0, 0)) u6_7 hb); have n7_ := Aside0.mk (below_step u6_4 hb); clear HO_216002; clear HO228; clear BK201; clear BK202; clear BK215; clear BK221; clear HB; have HO_216002 := n0_; have HO228 := n1_; have HO233 := n2_; have BK201 := n3_; have BK202 := n4_; have BK215 := n5_; have BK221 := n6_; have HB := n7_; clear n0_ n1_ n2_ n3_ n4_ n5_ n6_ n7_; (try clear hb); (try clear hb2); (try clear hk); (try clear hi); (try clear ho0); have hcz86_0 : w85.cell? ⟨gb202, 0, none⟩ = some (.int .i64 0) := (blk_cell BK202.out 0).trans rfl; have hcz86_1 : w85.cell? ⟨gb202, 1, none⟩ = some (.int .i64 0) := (blk_cell BK202.out 1).trans rfl; have hcz86_2 : w85.cell? ⟨gb202, 2, none⟩ = some (.slice none 0 0) := (blk_cell BK202.out 2).trans rfl; have hfz86_0 := blk_frozen BK202.out 0; have hfz86_1 := blk_frozen BK202.out 1; have hfz86_2 := blk_frozen BK202.out 2; obtain ⟨Ao87, co87, eo87⟩ := Kd.R_slice HO233.out; subst eo87)))
        refine bodyPost_ret (results_ct rfl _ _ gb202 29 #[.int .i64 t229, .int .i64 t230, .slice Ao87 t231.length co87] (0, 0) _ rfl (by (with_reducible repeat (first | refine blk_drewN ?_ _ | refine blk_drew ?_ | refine blk_alloc ?_ _)); refine blk_put (cs := #[.int .i64 t229, .int .i64 t230, .slice none 0 0]) ?_ 2 _ rfl; (with_reducible repeat (first | refine blk_drewN ?_ _ | refine blk_drew ?_ | refine blk_alloc ?_ _)); refine blk_put (cs := #[.int .i64 t229, .int .i64 0, .slice none 0 0]) ?_ 1 _ rfl; (with_reducible repeat (first | refine blk_drewN ?_ _ | refine blk_drew ?_ | refine blk_alloc ?_ _)); refine blk_put (cs := #[.int .i64 0, .int .i64 0, .slice none 0 0]) ?_ 0 _ rfl; (with_reducible repeat (first | refine blk_drewN ?_ _ | refine blk_drew ?_ | refine blk_alloc ?_ _)); exact BK202.out) Try.underlying29 rfl (by kernel_rfl)) rfl ?_
        exact ⟨_, by first | rfl | (simp [errW_none, errW_some] <;> rfl) | (simp [*, errW_none, errW_some] <;> rfl), (by (with_reducible repeat (first | apply Kd.R_alloc | apply Kd.R_drewN | apply Kd.R_drew)); exact Kd.R_mono (Kd.R_far (p := ⟨gb202, 2, none⟩) (Kd.R_far (p := ⟨gb202, 1, none⟩) (Kd.R_far (p := ⟨gb202, 0, none⟩) (Kd.R_types HO233.out BK202.out (by decide)) (fun _ hk => hk.2) (.int .i64 t229)) (fun _ hk => hk.2) (.int .i64 t230)) (fun _ hk => hk.2) (.slice Ao87 t231.length co87)) (fun _ hk => trivial)), u6_4⟩

/-! ### impl_Session_37: function 37 -/
def impl_Session_37.p (a1_0 : Int) (a1_1 : Int) (a1_2 : Int) (a1_3 : ByteArray) (y : S45) : Bool := (y.f2 == a1_2)
def impl_Session_37.f (l0 : List S45) (a1_0 : Int) (a1_1 : Int) (a1_2 : Int) (a1_3 : ByteArray) : Option Bool := some (l0.any (impl_Session_37.p a1_0 a1_1 a1_2 a1_3))
set_option maxHeartbeats 400000 in
theorem impl_Session_37.lit (b : Nat) (a1_0 : Int) (a1_1 : Int) (a1_2 : Int) (a1_3 : ByteArray) (y : S45) (w : World) (hb : w.heap[b]? = some (.cells #[.int .i64 a1_0, .int .i64 a1_1, .int .i64 a1_2, .string a1_3] 45 (0, 0))) :
    Calls Try.prog 38 #[.agg #[.int .i64 y.f0, .int .i64 y.f1, .int .i64 y.f2, .string y.f3], .pointer (some ⟨b, 0, none⟩)] w fun e w' => e = .returned (.bool (impl_Session_37.p a1_0 a1_1 a1_2 a1_3 y)) ∧ Below w.heap.size w w' := by
  have hu := Try.underlying45
  have hu2 := Try.underlying45
  have hc2 : ∀ o, (w.alloc o).cell? ⟨b, 2, none⟩ = some (.int .i64 a1_2) := fun o => (blk_cell (blk_alloc hb o) 2).trans rfl
  go_enter Try.func38, Try.ntmps38
  go_wp2
  go_ret
  exact ⟨rfl, below_alloc (Below.refl _ _) _⟩
set_option maxHeartbeats 1600000 in
theorem impl_Session_37.idx (p : S45 → Bool) (bs : Array Value) (A0 : Option Addr) (c0 : Nat) (l0 : List S45) (w : World) (hr0 : Kd.C k45 w A0 l0.length l0) (hc0 : l0.length ≤ c0)
    (hf : ∀ (y : S45) (W : World), Below w.heap.size w W → Calls Try.prog 38 (#[.agg #[.int .i64 y.f0, .int .i64 y.f1, .int .i64 y.f2, .string y.f3]] ++ bs) W fun e w' => e = .returned (.bool (p y)) ∧ Below W.heap.size W w') :
    Calls Try.prog 40 #[.slice A0 l0.length c0, .func (.func 38) #[] bs] w fun e w' => e = .returned (.int .i64 (Go.Proofs.Ytjdpifafijcpbaa.Slc.idxB p l0)) ∧ Below w.heap.size w w' := by
  have hu45 := Try.underlying45
  have hn : l0.length ≤ 9223372036854775807 := hr0.2.1
  have HR := Aside0.mk hr0
  have HF := Aside0.mk hf
  clear hr0 hf
  go_enter Try.func40, Try.ntmps40
  go_wp2
  go_loopg [5, 8] l0.length (fun gg _ s8 wr => ∃ kk : Int, 0 ≤ kk ∧ kk ≤ l0.length ∧ l0.length - kk.toNat ≤ gg ∧ s8 = .int .i64 kk ∧ Aside0 (Below w.heap.size w wr) ∧ Aside0 (∀ j : Nat, (j : Int) < kk → p (l0.getD j z45) = false))
  case atStart => exact ⟨0, by omega, by omega, by omega, rfl, ⟨Below.refl _ w⟩, ⟨fun j hj => by omega⟩⟩
  obtain ⟨kk, h0, hk, hg, rfl, BW, HA⟩ := hrel
  by_cases hlt : kk < (l0.length : Int)
  rotate_left
  · go_wp2
    go_ret
    refine ⟨?_, BW.out⟩
    rw [Go.Proofs.Ytjdpifafijcpbaa.Slc.idxB_miss p l0 z45 (fun j hj => HA.out j (by omega))]
    rfl
  obtain ⟨ad, e, hx0, hx1, hx2, hx3⟩ := at_T45 HR.out kk h0 hlt
  cases e
  replace hx0 := (BW.out.cell (World.block_lt_of_cell? w _ hx0)).trans hx0
  replace hx1 := (BW.out.cell (World.block_lt_of_cell? w _ hx1)).trans hx1
  replace hx2 := (BW.out.cell (World.block_lt_of_cell? w _ hx2)).trans hx2
  replace hx3 := (BW.out.cell (World.block_lt_of_cell? w _ hx3)).trans hx3
  have HC := Aside0.mk (HF.out (l0.getD kk.toNat z45) wr BW.out)
  cases hq : p (l0.getD kk.toNat z45) with
  | true =>
    have HQ := Aside0.mk hq
    rw [hq] at HC
    clear hq
    go_wp2_with (go_at_call 38; refine HC.out.mono ?_; rintro e w' ⟨rfl, hb'⟩)
    go_ret
    refine ⟨?_, below_step BW.out hb'⟩
    rw [Go.Proofs.Ytjdpifafijcpbaa.Slc.idxB_hit p l0 z45 kk.toNat (by omega) HQ.out (fun j hj => HA.out j (by omega)), Int.toNat_of_nonneg h0]
    rfl
  | false =>
    have HQ := Aside0.mk hq
    rw [hq] at HC
    clear hq
    go_wp2_with (go_at_call 38; refine HC.out.mono ?_; rintro e w' ⟨rfl, hb'⟩)
    go_roundg (l0.length - (kk + 1).toNat)
    case measure => omega
    case rel =>
      refine ⟨kk + 1, by omega, by omega, by omega, by go_num, ⟨below_step BW.out hb'⟩, ⟨fun j hj => ?_⟩⟩
      by_cases e : (j : Int) = kk
      rotate_left
      · exact HA.out j (by omega)
      have := HQ.out
      rw [← e, Int.toNat_natCast] at this
      exact this
set_option maxHeartbeats 400000 in
theorem impl_Session_37.calls (A0 : Option Addr) (c0 : Nat) (l0 : List S45) (a1_0 : Int) (a1_1 : Int) (a1_2 : Int) (a1_3 : ByteArray) (r : Bool) (w : World) {b : Nat} (hr0 : Kd.C k45 w A0 l0.length l0) (hc0 : l0.length ≤ c0)  (hb : w.heap[b]? = some (.cells #[.int .i64 a1_0, .int .i64 a1_1, .int .i64 a1_2, .string a1_3] 45 (0, 0))) (h : impl_Session_37.f l0 a1_0 a1_1 a1_2 a1_3 = some r) :
    Calls Try.prog 37 #[.slice A0 l0.length c0, .func (.func 38) #[] #[.pointer (some ⟨b, 0, none⟩)]] w fun e w' => e = .returned (.bool r) ∧ Below w.heap.size w w' := by
  obtain rfl := Option.some.inj h
  have HI := Aside0.mk (impl_Session_37.idx (impl_Session_37.p a1_0 a1_1 a1_2 a1_3) #[.pointer (some ⟨b, 0, none⟩)] A0 c0 l0 w hr0 hc0 (fun y W hW => impl_Session_37.lit b a1_0 a1_1 a1_2 a1_3 y W ((hW.block b (blk_lt hb)).trans hb)))
  clear hr0 hc0 hb h
  go_enter Try.func37, Try.ntmps37
  go_wp2_with (go_at_call 40; refine HI.out.mono ?_; rintro e w' ⟨rfl, hb'⟩)
  go_ret
  exact ⟨(by first | (rw [← Go.Proofs.Ytjdpifafijcpbaa.Slc.idxB_any]; done) | (rw [← Go.Proofs.Ytjdpifafijcpbaa.Slc.idxB_any]; rfl)), hb'⟩


end Go.Proofs.Ytjdpifafijcpbaa.QFnExactKeep
